/- Contract: quiltref59.Parse. -/
import Derived.Test.YtognadjclbihgaaGreatDoorE6
import Derived.Test.YtognadjclbihgaaGreatDoorBL
import Derived.Test.YtognadjclbihgaaGreatDoorBG
set_option linter.all false
namespace Go.Ev
set_option maxRecDepth 100000
set_option maxHeartbeats 16000000
structure RI (h0:Hp) (n:Nat) (g:Hp) (m:Nat) (u v:AV) (fo fa:Option Nat) (acc:List (Nat × SnapR)):Prop where
 gr:Gr h0 n g m
 own1:Own g n m 5 38 u fo (acc.flatMap fun a=>srC a.2)
 own2:Own g n m 1 3 v fa (acc.flatMap atC)
 dis:∀ f,fo=some f->fa≠some f
 each:EachX g n m (fun b=>fo=some b\/fa=some b) SnP (acc.map (·.2))
theorem RI.grow {h0:Hp} {n:Nat} {g g':Hp} {m m':Nat} {u v:AV} {fo fa:Option Nat} {acc:List (Nat × SnapR)} (hI:RI h0 n g m u v fo fa acc) (e:Gr g m g' m'):RI h0 n g' m' u v fo fa acc :=
 ⟨hI.gr.trans e,hI.own1.keep e.le fun b _ h2=>e.same b h2,hI.own2.keep e.le fun b _ h2=>e.same b h2,hI.dis,hI.each.keep e.le fun b _ h2 _=>e.same b h2⟩
abbrev k7:CC:=.seq (.reg c7x13) (.seq (.seq (.reg c7x14) (.cond (.r r60) (.seq (.draw c7x15) .ret) .skip)) (.seq (.reg c7x16) .ret))
theorem refParse7 {h:Hp} {n:Nat} (bs:List UInt8) (hbs:bs.length<=3000):Fn E 7 [strOf bs] h n fun r h' n'=>Gr h n h' n'/\ParseQ bs r h' n':=by
 refine Fn.of code7 (by decide) rfl fun Q cs hq=>?_
 show SW E Q 7 [(r0,strOf bs)] _ _ _ _
 have fin_:∀ (k p:Nat) (g:Hp) (m:Nat) (u v:AV) (fo fa:Option Nat) (acc:List (Nat × SnapR)),bs.drop p=[]->p<=bs.length->acc.length<=p->(∀ a ∈ acc,SNok a.2.s)->partsS bs.length 0 bs=preP (prs acc) (partsS k p (bs.drop p))->RI h n g m u v fo fa acc ->
   ∀ R,look R r0=some (strOf bs)->look R r5=some u->look R r6=some v->look R r7=some (.int .i64 (p:Int))->SW E Q 7 R [.code c7x12,.inLoop c7x12,.inBlock 0,.code k7] cs g m:=by
  intro k p g m u v fo fa acc hd hp hal hok hpp hI R q0 q5 q6 q7
  refine SW.sub (R':=[(r0,strOf bs),(r5,u),(r6,v),(r7,.int .i64 (p:Int))]) (by simp [q0,q5,q6,q7]) ?_
  have hlen:bs.length<=p:=List.drop_eq_nil_iff.1 hd
  rw [hd,partsS_nil] at hpp
  have hh:=hist_ok (acc:=acc) (bs:=bs) (by rw [hpp];simp [preP])
  have hS:Sn g m u (acc.map (·.2)):=Sn.ofP (by rw [<- flat_snd];exact hI.own1) hI.each (fun r hr=>by obtain⟨a,ha,rfl⟩:=List.mem_map.1 hr;exact hok a ha) (by simp;omega)
  repeat' first|refine SW.a rfl ?_|refine SW.reg ?_|refine SO.nil ?_|refine SO.a rfl ?_|refine SO.cF rfl (by omega) ?_|fail
  refine SO.callG rfl rfl rfl (first19 hS) ?_
  rintro _ g2 m2 ⟨rfl,E2⟩
  have l2:=E2.le
  by_cases hz:checkE (acc.map (·.2))=0
  ·rw [if_pos hz] at hh
   rw [hz]
   repeat' first|refine SW.a rfl ?_|refine SW.reg ?_|refine SO.nil ?_|refine SO.a rfl ?_|refine SO.cF rfl (by omega) ?_|fail
   exact SW.ret code7 ⟨_,rfl,_,rfl,_,rfl,hq _ _ _ ⟨hI.gr.trans E2,u,_,0,0,rfl,hS.ext E2,.inr ⟨_,hh,rfl,rfl⟩⟩⟩
  ·rw [if_neg hz] at hh
   have hlt:=checkI_lt hz
   rw [List.length_map] at hlt
   generalize hei:checkI (acc.map (·.2))=i at *
   generalize hee:checkE (acc.map (·.2))=e at *
   have hst:StE (fun _=>False) m g (fun g j=>Sl g j 1 v acc.length (acc.flatMap atC)):=fun g' j hj hg'=>(hI.own2.keep hj fun b h1 h2=>hg' b h2 (fun e=>e)).sl (flatMap_length (f:=atC) (esz:=1) (fun _=>rfl) acc) (by decide)
   have hat:(acc.map (·.1)).getD i 0=acc[i].1:=by simp [List.getD,hlt]
   rw [hat] at hh
   obtain⟨a,o,kx,kP0⟩:=idx_stE hst hlt
   have kP:StE (fun _=>False) m g (fun g j=>Pt g j (.ptr a o) (atC acc[i])):=kP0.mono fun g' j hg'=>by rw [flatMap_at (f:=atC) (esz:=1) (fun _=>rfl)] at hg';exact hg'
   repeat' first|refine SW.a rfl ?_|refine SW.reg ?_|refine SO.nil ?_|(refine SW.drawO rfl ?_;simp only [List.map_cons,List.map_nil])|refine SO.a rfl ?_|refine SO.cT rfl (by omega) ?_|fail
   refine SO.bslice rfl rfl rfl (fun k=>rfl) (fun g3 f3 E3=>?_)
   have hP3:=kP g3 (m2+1) (by omega) fun c h1 _=>by rw [E3.same c (by omega)];exact E2.same c h1
   repeat' first|refine SO.val (oc:=.idxSlA 1) (v:=.ptr a o) rfl rfl (two rfl rfl) (kx _ _) ?_|refine SO.load0 rfl rfl rfl hP3 (Gr.refl _ _) ?_|refine SO.nilD ?_|refine SO.a rfl ?_
   exact SW.ret code7 ⟨_,rfl,_,rfl,_,rfl,hq _ _ _ ⟨(hI.gr.trans E2).trans E3,.slc m2 0 0 0,[],acc[i].1,e,rfl,Sn.none f3 (by omega),.inl ⟨hh,rfl⟩⟩⟩
 have loop:∀ (k p:Nat) (g:Hp) (m:Nat) (u v:AV) (fo fa:Option Nat) (acc:List (Nat × SnapR)),p<=bs.length->bs.length - p<=k->acc.length<=p->(∀ a ∈ acc,SNok a.2.s)->partsS bs.length 0 bs=preP (prs acc) (partsS k p (bs.drop p))->RI h n g m u v fo fa acc ->
   ∀ R,look R r0=some (strOf bs)->look R r5=some u->look R r6=some v->look R r7=some (.int .i64 (p:Int))->SW E Q 7 R [.code c7x12,.inLoop c7x12,.inBlock 0,.code k7] cs g m:=by
  intro k
  induction k with
  | zero =>
   intro p g m u v fo fa acc hp hk hal hok hpp hI R q0 q5 q6 q7
   exact fin_ 0 p g m u v fo fa acc (List.drop_eq_nil_iff.2 (by omega)) hp hal hok hpp hI R q0 q5 q6 q7
  | succ k ih =>
   intro p g m u v fo fa acc hp hk hal hok hpp hI R q0 q5 q6 q7
   by_cases hend:bs.length<=p
   ·exact fin_ (k+1) p g m u v fo fa acc (List.drop_eq_nil_iff.2 hend) hp hal hok hpp hI R q0 q5 q6 q7
   have hne:bs.drop p≠[]:=fun e=>hend (List.drop_eq_nil_iff.1 e)
   have hle:=hI.gr.le
   have hdl:(bs.drop p).length=bs.length - p:=List.length_drop
   refine SW.sub (R':=[(r0,strOf bs),(r5,u),(r6,v),(r7,.int .i64 (p:Int))]) (by simp [q0,q5,q6,q7]) ?_
   repeat' first|refine SO.sliceTFa p rfl rfl rfl rfl rfl hp ?_|refine SW.a rfl ?_|refine SW.reg ?_|refine SO.nil ?_|refine SO.a rfl ?_|refine SO.cT rfl (by omega) ?_|fail
   refine SO.callG rfl rfl rfl (refRead16 (bs.drop p) (by omega)) ?_
   rintro _ g1 m1 ⟨hG1,⟨x,rest,left,hr,rfl,hst⟩ |⟨e,hr,rfl⟩⟩
   ·have lm:=hG1.le
    obtain⟨A,B,C,hx⟩:=xC_three x
    rw [hx]
    obtain⟨hen,hfit,hnod⟩:=readS_inv _ _ _ _ _ _ hr
    have hsh:=(readS_shorter _ _ _ _ _ _ hr).1
    have hro:=drop_drop_off hen
    have hel:x.sx.enc.length<=3000:=by
     have:=congrArg List.length hen
     rw [List.length_append] at this
     omega
    have hgood:∀ g' m',m1<=m'->(∀ c,c < m1->hb g' c=hb g1 c)->XGood g' m' x:=fun g' m' h1 h2=>⟨hst g' m' h1 fun c _ h3=>h2 c h3,fit_x x 12 hfit,by rw [<- nodes_x];omega⟩
    repeat' first|refine SO.alloc rfl rfl (fun g2 c2 E2=>?_)|refine SO.a rfl ?_
    refine SO.storeAll rfl rfl rfl c2 rfl rfl (fun g3 c3 k3=>?_)
    have E3:Gr g1 m1 g3 (m1+1):=E2.keep (Nat.le_refl _) k3
    have hrd:=refRead17 (h:=g3) (n:=m1+1) x (hgood g3 (m1+1) (by omega) E3.same)
    rw [hx] at hrd
    repeat' first|refine SO.loadVA rfl rfl rfl c3 rfl ?_|refine SW.a rfl ?_|refine SW.reg ?_|refine SO.nil ?_|refine SO.a rfl ?_|refine SO.cF rfl (by omega) ?_|fail
    refine SO.callG rfl rfl rfl hrd ?_
    rintro _ g4 m4 ⟨E4,⟨hok4,rfl⟩ |⟨hok4,vp,vf,rfl,hst4⟩⟩
    ·have l4:=E4.le
     have hsx:=snapX_eq x.sx
     rw [hok4] at hsx
     repeat' first|refine SO.alloc rfl rfl (fun g5 c5 E5=>?_)|refine SO.a rfl ?_
     refine SO.storeAll rfl rfl rfl c5 rfl rfl (fun g6 c6 k6=>?_)
     have E6:Gr g4 m4 g6 (m4+1):=E5.keep (Nat.le_refl _) k6
     repeat' first|refine SW.a rfl ?_|refine SW.reg ?_|refine SO.nil ?_|refine SO.a rfl ?_
     refine SO.bslice rfl rfl rfl (fun k=>rfl) (fun g7 f7 E7=>?_)
     repeat' first|refine SO.nil ?_|refine SO.a rfl ?_
     exact SW.ret code7 ⟨_,rfl,_,rfl,_,rfl,hq _ _ _ ⟨((((hI.gr.trans hG1).trans E3).trans E4).trans E6).trans E7,.slc _ 0 0 0,[],p,3,rfl,Sn.none f7 (by omega),.inl ⟨hist_err (by rw [hpp,partsS_bad hne hr hsx];rfl),rfl⟩⟩⟩
    ·have l4:=E4.le
     have hsx':snapX x.sx=some (snapD x.sx):=by
      have:=snapX_eq x.sx
      rw [hok4] at this
      exact this
     generalize hrr:snapD x.sx=s at *
     have hsm:=snapX_len hsx'
     have hsk:=SNok.of hsx' (by omega)
     repeat' first|refine SO.alloc rfl rfl (fun g5 c5 E5=>?_)|refine SO.a rfl ?_
     refine SO.storeAll rfl rfl rfl c5 rfl rfl (fun g6 c6 k6=>?_)
     have E6:Gr g4 m4 g6 (m4+1):=E5.keep (Nat.le_refl _) k6
     repeat' first|refine SO.loadVA rfl rfl rfl c6 rfl ?_|refine SW.a rfl ?_|refine SW.reg ?_|refine SO.nil ?_|refine SO.a rfl ?_
     refine SO.bslice rfl rfl rfl (fun k=>rfl) (fun g7 f7 E7=>?_)
     have hI7:RI h n g7 (m4+1+1) u v fo fa acc:=hI.grow ((((hG1.trans E3).trans E4).trans E6).trans E7)
     have x7:EachX g7 n (m4+1+1) (fun b=>fo=some b\/fa=some b) SnP (acc.map (·.2)++[⟨vp,vf,s⟩]):=by
      refine EachX.snoc hI7.each ⟨m1+1,m4,by omega,by omega,hst4.keep fun b h1 h2=>by rw [E7.same b (by omega)];exact E6.same b h2,fun f hf=>.inl ?_⟩
      rcases hf with hf|hf
      ·have:=own_low hI.own1 hf;omega
      ·have:=own_low hI.own2 hf;omega
     have y1:Sl g7 (m4+1+1) 5 (.slc (m4+1) 0 1 1) 1 (srC ⟨vp,vf,s⟩):=⟨rfl,.inr ⟨m4+1,0,1,_,.inl ⟨rfl,Nat.le_refl _⟩,⟨by omega,.inl ⟨_,_,f7⟩⟩,by simp,rfl⟩⟩
     refine SO.append rfl rfl rfl rfl (by decide) (by decide) hI7.own1 (by omega) y1 (by rw [flatMap_length (esz:=5) (fun _=>rfl)];simp;omega) fun u' fo' g8 m8 w1 wn wk wf=>?_
     have o28:Own g8 n m8 1 3 v fa (acc.flatMap atC):=hI7.own2.keepX wn (own_famX hI7.own1) (fun f h1 h2=>hI7.dis f h1 h2) fun b _ h2 h3=>wk b h2 h3
     have x8:EachX g8 n m8 (fun b=>fo'=some b\/fa=some b) SnP (acc.map (·.2)++[⟨vp,vf,s⟩]):=by
      refine EachX.keep (EachX.more x7 (ex':=fun b=>fo'=some b\/fa=some b\/fo=some b) ?_) wn ?_ |>.more ?_
      ·rintro f (h1|h1|h1)
       ·rcases wf with h2 |⟨f',h2,h3⟩
        ·exact .inl (.inl (by rw [<- h2];exact h1))
        ·rw [h2] at h1;simp only [Option.some.injEq] at h1;exact .inr (by omega)
       ·exact .inl (.inr h1)
       ·exact .inl (.inl h1)
      ·intro b _ h2 h3
       exact wk b h2 fun e=>h3 (.inr (.inr e))
      ·rintro f (h1|h1)
       ·exact .inl (.inl h1)
       ·exact .inl (.inr (.inl h1))
     repeat' refine SO.a rfl ?_
     refine SO.bslice rfl rfl rfl (fun k=>rfl) (fun g9 f9 E9=>?_)
     have o29:Own g9 n (m8+1) 1 3 v fa (acc.flatMap atC):=o28.keep E9.le fun b _ h2=>E9.same b h2
     have w19:=w1.keep E9.le fun b _ h2=>E9.same b h2
     have x9:EachX g9 n (m8+1) (fun b=>fo'=some b\/fa=some b) SnP (acc.map (·.2)++[⟨vp,vf,s⟩]):=x8.keep E9.le fun b _ h2 _=>E9.same b h2
     have y2:Sl g9 (m8+1) 1 (.slc m8 0 1 1) 1 (atC (p,(⟨vp,vf,s⟩:SnapR))):=⟨rfl,.inr ⟨m8,0,1,_,.inl ⟨rfl,Nat.le_refl _⟩,⟨by omega,.inl ⟨_,_,f9⟩⟩,by simp,rfl⟩⟩
     refine SO.append rfl rfl rfl rfl (by decide) (by decide) o29 (by omega) y2 (by rw [flatMap_length (f:=atC) (esz:=1) (fun _=>rfl)];simp;omega) fun v' fa' g10 m10 z2 zn zk zf=>?_
     have hdis:∀ f,fa=some f->fo'≠some f:=fun f h1 h2=>by
      have hlf:=own_low hI7.own2 h1
      rcases wf with h3 |⟨f',h3,h4⟩
      ·rw [h3] at h2;exact hI.dis f h2 h1
      ·rw [h3] at h2;simp only [Option.some.injEq] at h2;omega
     have z1:Own g10 n m10 5 38 u' fo' ((acc.flatMap fun a=>srC a.2)++srC ⟨vp,vf,s⟩):=w19.keepX zn (own_famX o29) hdis fun b _ h2 h3=>zk b h2 h3
     have x10:EachX g10 n m10 (fun b=>fo'=some b\/fa'=some b) SnP (acc.map (·.2)++[⟨vp,vf,s⟩]):=by
      refine EachX.keep (EachX.more x9 (ex':=fun b=>fo'=some b\/fa'=some b\/fa=some b) ?_) zn ?_ |>.more ?_
      ·rintro f (h1|h1|h1)
       ·exact .inl (.inl h1)
       ·rcases zf with h2 |⟨f',h2,h3⟩
        ·exact .inl (.inr (by rw [<- h2];exact h1))
        ·rw [h2] at h1;simp only [Option.some.injEq] at h1;exact .inr (by omega)
       ·exact .inl (.inr h1)
      ·intro b _ h2 h3
       exact zk b h2 fun e=>h3 (.inr (.inr e))
      ·rintro f (h1|h1)
       ·exact .inl (.inl h1)
       ·exact .inl (.inr (.inl h1))
     have hdis':∀ f,fo'=some f->fa'≠some f:=fun f h1 h2=>by
      have hlf:=own_low w19 h1
      rcases zf with h3 |⟨f',h3,h4⟩
      ·rw [h3] at h2;exact hdis f h2 h1
      ·rw [h3] at h2;simp only [Option.some.injEq] at h2;omega
     have hgr10:Gr h n g10 m10:=by
      have hg7:=hI7.gr
      refine⟨by omega,fun c hc=>?_⟩
      have h1:fo≠some c:=fun e=>by have:=own_low hI7.own1 e;omega
      have h2:fa≠some c:=fun e=>by have:=own_low hI7.own2 e;omega
      rw [zk c (by omega) h2,E9.same c (by omega),wk c (by omega) h1]
      exact hg7.same c hc
     repeat' first|refine SO.addN ((bs.drop p).length - rest.length) rfl rfl rfl rfl (by show p+((bs.drop p).length - rest.length)<=9223372036854775807;omega) ?_|refine SW.a rfl ?_|refine SW.reg ?_|refine SO.nil ?_|refine SO.a rfl ?_
     refine SW.again ?_
     refine ih (p+((bs.drop p).length - rest.length)) g10 m10 u' v' fo' fa' (acc++[(p,⟨vp,vf,s⟩)]) (by omega) (by omega) (by simp;omega) ?_ ?_ ⟨hgr10,?_,?_,hdis',?_⟩ _ rfl rfl rfl rfl
     ·intro a ha
      rcases List.mem_append.1 ha with ha|ha
      ·exact hok a ha
      ·simp only [List.mem_singleton] at ha
       subst ha;exact hsk
     ·rw [hpp,partsS_step hne hr hsx',<- hro,<- preP_app]
      simp [prs]
     ·simpa [List.flatMap_append] using z1
     ·simpa [List.flatMap_append] using z2
     ·rw [List.map_append];exact x10
   ·have he0:=readS_err _ _ _ _ hr
    have lm:=hG1.le
    repeat' first|refine SO.alloc rfl rfl (fun g2 c2 E2=>?_)|refine SO.a rfl ?_
    refine SO.storeAll rfl rfl rfl c2 rfl rfl (fun g3 c3 k3=>?_)
    have E3:Gr g1 m1 g3 (m1+1):=E2.keep (Nat.le_refl _) k3
    repeat' first|refine SW.a rfl ?_|refine SW.reg ?_|refine SO.nil ?_|refine SO.a rfl ?_|refine SO.cT rfl (by omega) ?_|fail
    refine SO.bslice rfl rfl rfl (fun k=>rfl) (fun g4 f4 E4=>?_)
    repeat' first|refine SO.nil ?_|refine SO.a rfl ?_
    exact SW.ret code7 ⟨_,rfl,_,rfl,_,rfl,hq _ _ _ ⟨((hI.gr.trans hG1).trans E3).trans E4,.slc _ 0 0 0,[],p,e,rfl,Sn.none f4 (by omega),.inl ⟨hist_err (by rw [hpp,partsS_err hne hr];rfl),rfl⟩⟩⟩
 repeat' first|refine SW.a rfl ?_|refine SW.reg ?_|refine SO.nil ?_|refine SO.a rfl ?_
 refine SO.bslice rfl rfl rfl (fun k=>rfl) (fun h1 c1 E1=>?_)
 refine SO.bslice rfl rfl rfl (fun k=>rfl) (fun h2 c2 E2=>?_)
 repeat' first|refine SW.a rfl ?_|refine SW.reg ?_|refine SO.nil ?_|refine SO.a rfl ?_
 refine SW.loop ?_
 exact loop bs.length 0 h2 (n+1+1) (.slc n 0 0 0) (.slc (n+1) 0 0 0) none none [] (by omega) (by omega) (by simp) (by simp) (by rw [List.drop_zero];cases partsS bs.length 0 bs<;>simp [preP,prs]) ⟨E1.trans E2,.inr (.inl ⟨n,0,38,rfl,by simp,by omega,Nat.le_refl _,by rw [E2.same n (by omega)];exact c1,rfl⟩),.inr (.inl ⟨n+1,0,3,rfl,by simp,by omega,by omega,c2,rfl⟩),by simp,EachX.nil⟩ _ rfl rfl rfl rfl
end Go.Ev
