/- Contracts: bridge.parts, bridge.Parse. -/
import Derived.Test.YtognadjclbihgaaGreatDoorE6
import Derived.Test.YtognadjclbihgaaGreatDoorBE
import Derived.Test.YtognadjclbihgaaGreatDoorFH
import Derived.Test.YtognadjclbihgaaGreatDoorFE5
import Derived.Test.YtognadjclbihgaaGreatDoorKCodeB
set_option linter.all false
namespace Go.Ev
set_option maxRecDepth 100000
set_option maxHeartbeats 16000000
section
variable {α:Type} {h h':Hp} {n0 m m' n n':Nat} {ex ex':Nat->Prop} {P:α->Hp->Nat->Prop} {xs:List α} {x:α}
def EachX (h:Hp) (n0 m:Nat) (ex:Nat->Prop) (P:α->Hp->Nat->Prop) (xs:List α):Prop:=∀ x ∈ xs,∃ lo hi,n0<=lo/\hi<=m/\Stand lo hi h (P x)/\∀ f,ex f->f < lo\/hi<=f
theorem EachX.nil:EachX h n0 m ex P []:=fun x hx=>by simp at hx
theorem EachX.keep (e:EachX h n0 m ex P xs) (hm:m<=m') (hk:∀ b,n0<=b->b < m->¬ ex b->hb h' b=hb h b):EachX h' n0 m' ex P xs:=fun x hx=>by
 obtain⟨lo,hi,h1,h2,h3,h4⟩:=e x hx
 refine⟨lo,hi,h1,by omega,h3.keep fun b h5 h6=>hk b (by omega) (by omega) fun e'=>?_,h4⟩
 have:=h4 b e'
 omega
theorem EachX.more (e:EachX h n0 m ex P xs) (hf:∀ f,ex' f->ex f\/m<=f):EachX h n0 m ex' P xs:=fun x hx=>by
 obtain⟨lo,hi,h1,h2,h3,h4⟩:=e x hx
 refine⟨lo,hi,h1,h2,h3,fun f hf'=>?_⟩
 rcases hf f hf' with h5|h5
 ·exact h4 f h5
 ·omega
theorem EachX.snoc (e:EachX h n0 m ex P xs) (hx:∃ lo hi,n0<=lo/\hi<=m/\Stand lo hi h (P x)/\∀ f,ex f->f < lo\/hi<=f):EachX h n0 m ex P (xs++[x]):=fun y hy=>by
 rcases List.mem_append.1 hy with hy|hy
 ·exact e y hy
 ·simp only [List.mem_singleton] at hy
  rw [hy];exact hx
theorem EachX.now (e:EachX h n0 m ex P xs):∀ x ∈ xs,P x h m:=fun x hx=>by
 obtain⟨lo,hi,h1,h2,h3,h4⟩:=e x hx
 exact h3.now h2
theorem own_famX {esz:Nat} {e:TypeId} {v:AV} {fo:Option Nat} {cells:List AV} (ho:Own h n0 n esz e v fo cells):∀ f,fo=some f->∃ lo a,hb h f=some (.fam lo a):=fun f hf=>by
 rcases ho with ⟨_,_,h1⟩ |⟨_,_,_,_,_,_,_,_,h1⟩ |⟨a,g,lo,l,_,_,_,_,_,_,_,h7,_,h1⟩
 ·rw [h1] at hf;simp at hf
 ·rw [h1] at hf;simp at hf
 ·rw [h1] at hf;simp only [Option.some.injEq] at hf;subst hf;exact⟨lo,a,h7⟩
theorem Own.keepX {esz:Nat} {e:TypeId} {v:AV} {fo fx:Option Nat} {cells:List AV} (ho:Own h n0 n esz e v fo cells) (hn:n<=n') (hfam:∀ f,fx=some f->∃ lo a,hb h f=some (.fam lo a)) (hne:∀ f,fx=some f->fo≠some f) (hk:∀ b,n0<=b->b < n->fx≠some b->hb h' b=hb h b):Own h' n0 n' esz e v fo cells:=by
 rcases ho with ho |⟨a,l',ty,rfl,h1,h2,h3,h4,h5⟩ |⟨a,f,lo,l',rfl,h1,h2,h3,h4,h5,h6,h7,h8,h9⟩
 ·exact .inl ho
 ·refine .inr (.inl ⟨a,l',ty,rfl,h1,by omega,h3,?_,h5⟩)
  rw [hk a h3 h2 (fun e'=>by obtain⟨_,_,q⟩:=hfam a e';rw [h4] at q;simp at q)];exact h4
 ·refine .inr (.inr ⟨a,f,lo,l',rfl,h1,by omega,by omega,h4,h5,?_,?_,h8,h9⟩)
  ·rw [hk a h5 h2 (fun e'=>by obtain⟨_,_,q⟩:=hfam a e';rw [h6] at q;simp at q)];exact h6
  ·rw [hk f h4 h3 (fun e'=>hne f e' h9)];exact h7
end
theorem parts13 {h:Hp} {n:Nat} (bs:List UInt8):Fn E 13 [strOf bs] h n fun r h' n'=>r=.fn 28 [] [.ptr n 0]/\hb h' n=some (.cell [strOf bs] 9 false)/\Gr h n h' (n+1)/\n'=n+1:=by
 refine Fn.of code13 (by decide) rfl fun Q cs hq=>?_
 show SW E Q 13 [(r0,strOf bs)] _ _ _ _
 repeat' first|refine SO.box rfl rfl rfl (by simp [strOf_eq]) (fun h1 hc hE=>?_)|refine SO.val (oc:=.mkFn 28 0) (v:=.fn 28 [] [.ptr n 0]) rfl rfl (one1 rfl) (fun K=>rfl) ?_|refine SW.a rfl ?_|refine SW.reg ?_|refine SO.nil ?_|refine SO.a rfl ?_
 exact SW.ret code13 ⟨_,rfl,hq _ _ _ ⟨rfl,hc,hE,rfl⟩⟩
def SnP (r:SnapR) (g:Hp) (m:Nat):Prop:=Sl g m 1 r.vp r.s.parents.length (r.s.parents.flatMap intC)/\Sl g m 4 r.vf r.s.files.length (r.s.files.flatMap pfC)
abbrev k6:CC:=.seq (.seq (.reg c6x11) (.seq (.reg c6x12) (.cond (.r r47) (.seq (.draw c6x13) .ret) .skip))) (.seq (.reg c6x14) .ret)
abbrev body6:CC:=.block 1 (.seq (.seq (.reg c6x5) (.cond (.r r17) (.seq (.draw c6x6) .ret) .skip)) (.seq (.reg c6x7) (.seq (.seq (.reg c6x8) (.cond (.r r29) (.seq (.draw c6x9) .ret) .skip)) (.draw c6x10))))
abbrev prs (acc:List (Nat × SnapR)):List (Nat × SN):=acc.map fun a=>(a.1,a.2.s)
abbrev atC (a:Nat × SnapR):List AV:=[.int .i64 (a.1:Int)]
structure PI (h0:Hp) (n:Nat) (bs:List UInt8) (t:Tr) (g:Hp) (m:Nat) (u v:AV) (fo fa:Option Nat) (acc:List (Nat × SnapR)):Prop where
 le:n+8<=m
 e2:hb g n=some (.cell [.nils] 23 false)
 e3:hb g (n+1)=some (.cell [.int .i64 0] 3 false)
 e4:hb g (n+2)=some (.cell [.int .i64 0] 24 false)
 out:hb g (n+3)=some (.cell [u] 23 false)
 ats:hb g (n+4)=some (.cell [v] 34 false)
 s:hb g (n+5)=some (.cell [strOf bs] 9 false)
 d:hb g (n+6)=some (.dfr true)
 l:hb g (n+7)=some (.loop .ready none 6 t [r14] (.reg c6x4) body6 (n+6))
 own1:Own g (n+8) m 5 38 u fo (acc.flatMap fun a=>srC a.2)
 own2:Own g (n+8) m 1 3 v fa (acc.flatMap atC)
 dis:∀ f,fo=some f->fa≠some f
 each:EachX g (n+8) m (fun b=>fo=some b\/fa=some b) SnP (acc.map (·.2))
 low:∀ b,b < n->hb g b=hb h0 b
structure PE (h0:Hp) (n:Nat) (t:Tr) (g:Hp) (m:Nat) (a:Nat) (e:Int):Prop where
 le:n+8<=m
 e2:hb g n=some (.cell [.nils] 23 false)
 e3:hb g (n+1)=some (.cell [.int .i64 (a:Int)] 3 false)
 e4:hb g (n+2)=some (.cell [.int .i64 e] 24 false)
 d:hb g (n+6)=some (.dfr true)
 l:hb g (n+7)=some (.loop .done (some .ret) 6 t [r14] (.reg c6x4) body6 (n+6))
 low:∀ b,b < n->hb g b=hb h0 b
theorem Sn.ofP {g:Hp} {m n0:Nat} {u:AV} {fo:Option Nat} {ex:Nat->Prop} {rs:List SnapR} (h1:Own g n0 m 5 38 u fo (rs.flatMap srC)) (h2:EachX g n0 m ex SnP rs) (hk:∀ r ∈ rs,SNok r.s) (hl:rs.length<=4000000000000000000):Sn g m u rs :=
 ⟨h1.sl (flatMap_length (f:=srC) (esz:=5) (fun _=>rfl) rs) (by decide),fun r hr=>(h2.now r hr).1,fun r hr=>(h2.now r hr).2,hk,hl⟩
set_option maxRecDepth 100000
set_option maxHeartbeats 16000000
theorem PI.grow {h0:Hp} {n:Nat} {bs:List UInt8} {t:Tr} {g g':Hp} {m m':Nat} {u v:AV} {fo fa:Option Nat} {acc:List (Nat × SnapR)} (hI:PI h0 n bs t g m u v fo fa acc) (hm:m<=m') (hk:∀ b,b < m->hb g' b=hb g b):PI h0 n bs t g' m' u v fo fa acc:=by
 have l:=hI.le
 exact⟨by omega,by rw [hk _ (by omega)];exact hI.e2,by rw [hk _ (by omega)];exact hI.e3,by rw [hk _ (by omega)];exact hI.e4,by rw [hk _ (by omega)];exact hI.out,by rw [hk _ (by omega)];exact hI.ats,by rw [hk _ (by omega)];exact hI.s,by rw [hk _ (by omega)];exact hI.d,by rw [hk _ (by omega)];exact hI.l,hI.own1.keep hm fun b _ h2=>hk b h2,hI.own2.keep hm fun b _ h2=>hk b h2,hI.dis,hI.each.keep hm fun b _ h2 _=>hk b h2,fun b hb0=>by rw [hk b (by omega)];exact hI.low b hb0⟩
theorem xC_three (x:XR):∃ A B C,xC x=[A,B,C]:=by cases x<;>exact⟨_,_,_,rfl⟩
theorem flat_snd (acc:List (Nat × SnapR)):acc.flatMap (fun a=>srC a.2)=(acc.map (·.2)).flatMap srC:=by rw [List.flatMap_map]
def ParseR (bs:List UInt8) (r:AV) (h:Hp) (n:Nat):Prop:=(∃ (a:Nat) (e:Int),histS bs=.err a e/\r=.tup [.nils,.int .i64 (a:Int),.int .i64 e])\/(∃ v rs ats,histS bs=.ok ats (rs.map (·.s))/\r=.tup [v,.int .i64 0,.int .i64 0]/\Sn h n v rs)
theorem hist_err {bs:List UInt8} {a:Nat} {e:Int} (h:partsS bs.length 0 bs=.err a e):histS bs=.err a e:=by unfold histS;rw [h]
theorem hist_ok {bs:List UInt8} {acc:List (Nat × SnapR)} (h:partsS bs.length 0 bs=.ok (prs acc)):histS bs=if checkE (acc.map (·.2))=0 then .ok (acc.map (·.1)) ((acc.map (·.2)).map (·.s)) else .err ((acc.map (·.1)).getD (checkI (acc.map (·.2))) 0) (checkE (acc.map (·.2))):=by
 unfold histS
 rw [h]
 have e1:(prs acc).map (·.2)=(acc.map (·.2)).map (·.s):=by simp [prs,Function.comp_def]
 have e2:(prs acc).map (·.1)=acc.map (·.1):=by simp [prs,Function.comp_def]
 have hc:=check_congr (rs:=((acc.map (·.2)).map (·.s)).map mkR) (rs':=acc.map (·.2)) (map_mkR _)
 dsimp only
 rw [e1,e2,hc.1,hc.2]
theorem after6 {h:Hp} {n:Nat} {bs:List UInt8} {Q:Post} {cs:List AF} {t:Tr} (hbs:bs.length<=100000) (ht:RegIs t [(r2,.ptr n 0),(r3,.ptr (n+1) 0),(r4,.ptr (n+2) 0),(r5,.ptr (n+3) 0),(r6,.ptr (n+4) 0),(r13,.fn 28 [] [.ptr (n+5) 0])])
  (hq:∀ v h' n',Gr h n h' n'/\ParseR bs v h' n'->Wp E Q (.give v cs) h' n') (g:Hp) (m:Nat) (u v:AV) (fo fa:Option Nat) (acc:List (Nat × SnapR)) (hI:PI h n bs t g m u v fo fa acc) (hp:partsS bs.length 0 bs=.ok (prs acc)) (hn:acc.length<=100000) (hok:∀ a ∈ acc,SNok a.2.s/\a.2.s.parents.length<=1000) :
  Wp E Q (.give (.tup []) (.mk 6 t (.inRF (n+7)::[.inBlock 0,.code k6]) [.mark (n+6)] none::cs)) g m:=by
 have hle:=hI.le
 refine Wp.afterRF ht hI.l fun g1 k1=>?_
 have c2:hb g1 n=some (.cell [.nils] 23 false):=by rw [k1 _ (by omega)];exact hI.e2
 have c3:hb g1 (n+1)=some (.cell [.int .i64 0] 3 false):=by rw [k1 _ (by omega)];exact hI.e3
 have c4:hb g1 (n+2)=some (.cell [.int .i64 0] 24 false):=by rw [k1 _ (by omega)];exact hI.e4
 have c5:hb g1 (n+3)=some (.cell [u] 23 false):=by rw [k1 _ (by omega)];exact hI.out
 have c6:hb g1 (n+4)=some (.cell [v] 34 false):=by rw [k1 _ (by omega)];exact hI.ats
 have cd:hb g1 (n+6)=some (.dfr true):=by rw [k1 _ (by omega)];exact hI.d
 have ho1:Own g1 (n+8) m 5 38 u fo ((acc.map (·.2)).flatMap srC):=by rw [<- flat_snd];exact hI.own1.keep (Nat.le_refl _) fun b h1 _=>k1 b (by omega)
 have ho2:Own g1 (n+8) m 1 3 v fa (acc.flatMap atC):=hI.own2.keep (Nat.le_refl _) fun b h1 _=>k1 b (by omega)
 have hS:Sn g1 m u (acc.map (·.2)):=Sn.ofP ho1 (hI.each.keep (Nat.le_refl _) fun b h1 _ _=>k1 b (by omega)) (fun r hr=>by obtain⟨a,ha,rfl⟩:=List.mem_map.1 hr;exact (hok a ha).1) (by simp;omega)
 have hlow:∀ b,b < n->hb g1 b=hb h b:=fun b hb0=>by rw [k1 b (by omega)];exact hI.low b hb0
 have hh:=hist_ok hp
 repeat' first|refine SO.loadV rfl rfl rfl c5 rfl ?_|refine SW.a rfl ?_|refine SW.reg ?_
 refine SO.callG rfl rfl rfl (first18 hS fun r hr=>by obtain⟨a,ha,rfl⟩:=List.mem_map.1 hr;exact (hok a ha).2) ?_
 rintro _ g2 m2 ⟨rfl,E2⟩
 have l2:=E2.le
 have d2:hb g2 n=some (.cell [.nils] 23 false):=by rw [E2.same _ (by omega)];exact c2
 have d3:hb g2 (n+1)=some (.cell [.int .i64 0] 3 false):=by rw [E2.same _ (by omega)];exact c3
 have d4:hb g2 (n+2)=some (.cell [.int .i64 0] 24 false):=by rw [E2.same _ (by omega)];exact c4
 have d5:hb g2 (n+3)=some (.cell [u] 23 false):=by rw [E2.same _ (by omega)];exact c5
 have d6:hb g2 (n+4)=some (.cell [v] 34 false):=by rw [E2.same _ (by omega)];exact c6
 have dd:hb g2 (n+6)=some (.dfr true):=by rw [E2.same _ (by omega)];exact cd
 by_cases hz:checkE (acc.map (·.2))=0
 ·rw [if_pos hz] at hh
  rw [hz]
  repeat' first|refine SO.loadV rfl rfl rfl d5 rfl ?_|refine SW.a rfl ?_|refine SW.reg ?_|refine SO.nil ?_|refine SO.a rfl ?_|refine SO.cF rfl (by omega) ?_|fail
  refine SO.put1 rfl rfl rfl d2 (own_one ho1).1 (own_one ho1).2 (by simp) (fun g3 e3 k3=>?_)
  refine SO.put1 rfl rfl rfl (by rw [k3 _ (by omega)];exact d3) rfl (by simp) (by simp) (fun g4 e4 k4=>?_)
  refine SO.put1 rfl rfl rfl (by rw [k4 _ (by omega),k3 _ (by omega)];exact d4) rfl (by simp) (by simp) (fun g5 e5 k5=>?_)
  repeat' refine SO.nil ?_
  refine SW.retD code6 (by rw [k5 _ (by omega),k4 _ (by omega),k3 _ (by omega)];exact dd) fun g6 k6'=>?_
  refine⟨n,0,_,_,rfl,.inl ⟨_,_,by rw [k6' _ (by omega),k5 _ (by omega),k4 _ (by omega)];exact e3⟩,rfl,n+1,0,_,_,rfl,.inl ⟨_,_,by rw [k6' _ (by omega),k5 _ (by omega)];exact e4⟩,rfl,n+2,0,_,_,rfl,.inl ⟨_,_,by rw [k6' _ (by omega)];exact e5⟩,rfl,hq _ _ _ ⟨⟨by omega,fun b hb0=>?_⟩,.inr ⟨u,_,_,hh,rfl,?_⟩⟩⟩
  ·rw [k6' _ (by omega),k5 _ (by omega),k4 _ (by omega),k3 _ (by omega),E2.same _ (by omega)];exact hlow b hb0
  ·have hkk:∀ b,n+8<=b->b < m->hb g6 b=hb g1 b:=fun b h1 h2=>by rw [k6' _ (by omega),k5 _ (by omega),k4 _ (by omega),k3 _ (by omega),E2.same _ (by omega)]
   have hE:=hI.each.keep (Nat.le_refl _) fun b h1 _ _=>k1 b (by omega)
   exact Sn.ofP (ho1.keep (by omega) hkk) (hE.keep (by omega) fun b h1 h2 _=>hkk b h1 h2) hS.ok hS.len
 ·rw [if_neg hz] at hh
  have hlt:=checkI_lt hz
  rw [List.length_map] at hlt
  generalize hei:checkI (acc.map (·.2))=i at *
  generalize hee:checkE (acc.map (·.2))=e at *
  have hst:StE (fun c=>c < n+8) m g1 (fun g j=>Sl g j 1 v acc.length (acc.flatMap atC)):=fun g' j hj hg'=>(ho2.keep hj fun b h1 h2=>hg' b h2 (by omega)).sl (flatMap_length (f:=atC) (esz:=1) (fun _=>rfl) acc) (by decide)
  have hat:(acc.map (·.1)).getD i 0=acc[i].1:=by simp [List.getD,hlt]
  rw [hat] at hh
  obtain⟨a,o,kx,kP0⟩:=idx_stE hst hlt
  have kP:StE (fun c=>c < n+8) m g1 (fun g j=>Pt g j (.ptr a o) (atC acc[i])):=kP0.mono fun g' j hg'=>by rw [flatMap_at (f:=atC) (esz:=1) (fun _=>rfl)] at hg';exact hg'
  have hP2:=kP g2 m2 l2 fun c h1 _=>E2.same c h1
  repeat' first|refine SO.loadV rfl rfl rfl d6 rfl ?_|refine SO.val (oc:=.idxSlA 1) (v:=.ptr a o) rfl rfl (two rfl rfl) (kx _ _) ?_|refine SO.load0 rfl rfl rfl hP2 (Gr.refl _ _) ?_|refine SW.a rfl ?_|refine SW.reg ?_|refine SO.nil ?_|(refine SW.drawG ?_;simp only [gOps,gRc,gTail])|refine SO.a rfl ?_|refine SO.cT rfl (by omega) ?_|fail
  refine SO.put1 rfl rfl rfl d2 rfl (by simp) (by simp) (fun g3 e3 k3=>?_)
  have q6:hb g3 (n+4)=some (.cell [v] 34 false):=by rw [k3 _ (by omega)];exact d6
  refine SO.more (Still.loadP (c:=⟨none,none,[],.mov⟩) rfl rfl rfl (kP g3 m2 l2 fun c h1 h2=>by rw [k3 c (by omega)];exact E2.same c h1) (Gr.refl _ _) (Still.loadV (c:=⟨none,none,[],.mov⟩) rfl rfl rfl q6 rfl Still.nil)) ?_
  simp only [gOps,gRc,gTail]
  refine SO.put1 rfl rfl rfl (by rw [k3 _ (by omega)];exact d3) rfl (by simp) (by simp) (fun g4 e4 k4=>?_)
  skip
  refine SO.put1 rfl rfl rfl (by rw [k4 _ (by omega),k3 _ (by omega)];exact d4) rfl (by simp) (by simp) (fun g5 e5 k5=>?_)
  repeat' refine SO.nilD ?_
  refine SW.retD code6 (by rw [k5 _ (by omega),k4 _ (by omega),k3 _ (by omega)];exact dd) fun g6 k6'=>?_
  refine⟨n,0,_,_,rfl,.inl ⟨_,_,by rw [k6' _ (by omega),k5 _ (by omega),k4 _ (by omega)];exact e3⟩,rfl,n+1,0,_,_,rfl,.inl ⟨_,_,by rw [k6' _ (by omega),k5 _ (by omega)];exact e4⟩,rfl,n+2,0,_,_,rfl,.inl ⟨_,_,by rw [k6' _ (by omega)];exact e5⟩,rfl,hq _ _ _ ⟨⟨by omega,fun b hb0=>?_⟩,.inl ⟨_,_,hh,rfl⟩⟩⟩
  rw [k6' _ (by omega),k5 _ (by omega),k4 _ (by omega),k3 _ (by omega),E2.same _ (by omega)];exact hlow b hb0
theorem Sn.nil {h:Hp} {n:Nat}:Sn h n .nils []:=⟨⟨rfl,.inl ⟨rfl,rfl⟩⟩,by simp,by simp,by simp,by simp⟩
def HistIs (bs:List UInt8) (rs:List SnapR) (a:Nat) (e:Int):Prop:=(histS bs=.err a e/\rs=[])\/(∃ ats,histS bs=.ok ats (rs.map (·.s))/\a=0/\e=0)
def ParseQ (bs:List UInt8) (r:AV) (h:Hp) (n:Nat):Prop:=∃ (v:AV) (rs:List SnapR) (a:Nat) (e:Int),r=.tup [v,.int .i64 (a:Int),.int .i64 e]/\Sn h n v rs/\HistIs bs rs a e
theorem ParseR.q {bs:List UInt8} {r:AV} {h:Hp} {n:Nat} (hr:ParseR bs r h n):ParseQ bs r h n:=by
 rcases hr with ⟨a,e,h1,rfl⟩ |⟨v,rs,ats,h1,rfl,h2⟩
 ·exact⟨.nils,[],a,e,rfl,Sn.nil,.inl ⟨h1,rfl⟩⟩
 ·exact⟨v,rs,0,0,rfl,h2,.inr ⟨ats,h1,rfl,rfl⟩⟩
theorem HistIs.eq {bs:List UInt8} {rs rs':List SnapR} {a a':Nat} {e e':Int} (h:HistIs bs rs a e) (h':HistIs bs rs' a' e'):rs.map (·.s)=rs'.map (·.s)/\a=a'/\e=e':=by
 rcases h with ⟨h1,rfl⟩ |⟨ats,h1,rfl,rfl⟩<;>rcases h' with ⟨h2,rfl⟩ |⟨ats',h2,rfl,rfl⟩<;>rw [h1] at h2
 ·simp only [HR.err.injEq] at h2
  exact⟨rfl,h2.1,h2.2⟩
 ·simp at h2
 ·simp at h2
 ·simp only [HR.ok.injEq] at h2
  exact⟨h2.2,rfl,rfl⟩
end Go.Ev
