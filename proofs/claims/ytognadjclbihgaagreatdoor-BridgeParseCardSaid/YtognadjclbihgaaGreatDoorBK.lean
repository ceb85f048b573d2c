/- Contracts: quiltref59's reader: numbers. -/
import Derived.Test.YtognadjclbihgaaGreatDoorE6
import Derived.Test.YtognadjclbihgaaGreatDoorBJ
import Derived.Test.YtognadjclbihgaaGreatDoorBD
import Derived.Test.YtognadjclbihgaaGreatDoorBE
set_option linter.all false
namespace Go.Ev
set_option maxRecDepth 100000
set_option maxHeartbeats 16000000
theorem refNumbers35 {h:Hp} {n:Nat} {v:AV} {xs:List XR} (hs:Sl h n 3 v xs.length (xs.flatMap xC)) (hx:∀ x ∈ xs,XGood h n x) (hl:xs.length<=20000) :
  Fn E 35 [v] h n fun r h' n'=>Gr h n h' n'/\(((xs.map XR.sx).all isN=false/\r=.tup [.nils,.bool false])\/((xs.map XR.sx).all isN=true/\∃ w,r=.tup [w,.bool true]/\Stand n n' h' (fun g k=>Sl g k 1 w xs.length (((xs.map XR.sx).map numD).flatMap intC)))):=by
 refine Fn.of code35 (by decide) rfl fun Q cs hq=>?_
 show SW E Q 35 [(r0,v)] _ _ _ _
 have loop:∀ (k i:Nat) (g:Hp) (m:Nat) (w:AV) (fo:Option Nat),i+k=xs.length->n<=m->Gr h n g m->((xs.take i).map XR.sx).all isN=true->Own g n m 1 3 w fo ((((xs.take i).map XR.sx).map numD).flatMap intC)->∀ R,look R r0=some v->look R r4=some w->look R r5=some (.int .i64 (i:Int))->SW E Q 35 R [.code c35x9,.inLoop c35x9,.inBlock 0,.code (.seq (.reg c35x10) .ret)] cs g m:=by
  intro k
  induction k with
  | zero =>
   intro i g m w fo hi hm hG hall ho R q0 q4 q5
   rw [show i=xs.length by omega,List.take_length] at hall ho
   refine SW.sub (R':=[(r0,v),(r4,w),(r5,.int .i64 (i:Int))]) (by simp [q0,q4,q5]) ?_
   have hs':=hs.ext hG
   repeat' first|refine SO.lenSl rfl rfl rfl hs' ?_|refine SW.a rfl ?_|refine SW.reg ?_|refine SO.nil ?_|refine SO.a rfl ?_|refine SO.cF rfl (by omega) ?_|fail
   refine SW.ret code35 ⟨_,rfl,_,rfl,hq _ _ _ ⟨hG,.inr ⟨hall,w,rfl,fun g' k' hk' hg'=>(ho.keep hk' fun c h1 h2=>hg' c h1 h2).sl ?_ (by decide)⟩⟩⟩
   rw [flatMap_length (f:=intC) (esz:=1) (fun _=>rfl)];simp
  | succ k ih =>
   intro i g m w fo hi hm hG hall ho R q0 q4 q5
   have hi':i < xs.length:=by omega
   refine SW.sub (R':=[(r0,v),(r4,w),(r5,.int .i64 (i:Int))]) (by simp [q0,q4,q5]) ?_
   have hs':=hs.ext hG
   have hsn:(xs.take (i+1)).map XR.sx=(xs.take i).map XR.sx++[xs[i].sx]:=by rw [List.take_succ_eq_append_getElem hi',List.map_append];rfl
   have htl:(((xs.take i).map XR.sx).map numD).length=i:=by simp;omega
   have hxi:=(hx _ (List.getElem_mem hi')).ext hG
   repeat' first|refine SO.lenSl rfl rfl rfl hs' ?_|refine SO.idxOf xC_length rfl rfl rfl rfl hs' hi' (fun a o hp=>?_)|refine SO.loadA rfl rfl rfl (by assumption) (Gr.refl _ _) (xC_length _) ?_|refine SW.a rfl ?_|refine SW.reg ?_|refine SO.nil ?_|refine SO.a rfl ?_|refine SO.cT rfl (by omega) ?_|fail
   refine SO.callG rfl rfl rfl (refNumber66 xs[i] hxi) ?_
   rintro _ g1 m1 ⟨hE1,e,rfl,hiff⟩
   have l1:=hE1.le
   by_cases he:e=0
   ·subst he
    have hn:=hiff.1 rfl
    rw [if_pos rfl]
    repeat' first|refine SW.a rfl ?_|refine SW.reg ?_|refine SO.nil ?_|refine SO.a rfl ?_|refine SO.cF rfl (by omega) ?_|fail
    refine SO.bslice rfl rfl rfl (fun k=>rfl) (fun g2 f2 hE2=>?_)
    have o2:Own g2 n (m1+1) 1 3 w fo ((((xs.take i).map XR.sx).map numD).flatMap intC):=(ho.keep l1 fun c _ h2=>hE1.same c h2).keep (by omega) fun c _ h2=>hE2.same c h2
    have hy:Sl g2 (m1+1) 1 (.slc m1 0 1 1) 1 (intC (numD xs[i].sx)):=⟨rfl,.inr ⟨m1,0,1,_,.inl ⟨rfl,Nat.le_refl _⟩,⟨by omega,.inl ⟨_,_,f2⟩⟩,by simp,rfl⟩⟩
    refine SO.append rfl rfl rfl rfl (by decide) (by decide) o2 (by omega) hy (by rw [flatMap_length (f:=intC) (esz:=1) (fun _=>rfl),htl];simp;omega) fun w' fo' g3 m3 o3 hn3 hk3 hf3=>?_
    have hfo:∀ c,c < n->fo≠some c:=fun c hc e=>by have:=own_low ho e;omega
    repeat' first|refine SW.a rfl ?_|refine SW.reg ?_|refine SO.nil ?_|refine SO.a rfl ?_|refine SO.add rfl rfl rfl rfl (by omega) ?_|fail
    refine SW.again ?_
    refine ih (i+1) g3 m3 w' fo' (by omega) (by omega) ⟨by omega,fun c hc=>by rw [hk3 c (by omega) (hfo c hc),hE2.same c (by omega),hE1.same c (by omega)];exact hG.same c hc⟩ ?_ ?_ _ rfl rfl rfl
    ·rw [hsn,List.all_append,hall];simp [hn]
    ·rw [hsn,List.map_append];simpa [List.flatMap_append] using o3
   ·have hn:isN xs[i].sx=false:=by
     cases hv:isN xs[i].sx with
     | false=>rfl
     | true=>exact absurd (hiff.2 hv) he
    rw [if_neg he]
    repeat' first|refine SW.a rfl ?_|refine SW.reg ?_|refine SO.nil ?_|refine SO.a rfl ?_|refine SO.cT rfl (by omega) ?_|fail
    refine SW.ret code35 ⟨_,rfl,_,rfl,hq _ _ _ ⟨hG.trans hE1,.inl ⟨?_,rfl⟩⟩⟩
    cases ha:(xs.map XR.sx).all isN with
    | false=>rfl
    | true =>
     rw [List.all_eq_true] at ha
     rw [ha _ (List.mem_map_of_mem (List.getElem_mem hi'))] at hn
     simp at hn
 repeat' first|refine SO.bslice rfl rfl rfl (fun k=>rfl) (fun h1 c1 hE1=>?_)|refine SW.a rfl ?_|refine SW.reg ?_|refine SO.nil ?_|refine SO.a rfl ?_
 refine SW.loop ?_
 exact loop xs.length 0 h1 (n+1) (.slc n 0 0 0) none (by omega) (by omega) hE1 (by simp) (.inr (.inl ⟨n,0,3,rfl,by simp,by omega,Nat.le_refl _,c1,rfl⟩)) _ rfl rfl rfl
theorem ex_sliceSlTT {h:Hp} {n esz l i j:Nat} {k k':IntKind} {v:AV} {cells:List AV} (hs:Sl h n esz v l cells) (hij:i < j) (hj:j<=l):∃ v',(∀ (n':Nat) K,execV (.sliceSl esz true true false) [v,.int k j,.int k' i] h n' K=K.v v' h n')/\Sl h n esz v' (j - i) ((cells.drop (i*esz)).take ((j - i)*esz)):=by
 have hmul:j*esz<=l*esz:=Nat.mul_le_mul_right _ hj
 have hsplit:(j - i)*esz+i*esz=j*esz:=by rw [<- Nat.add_mul,Nat.sub_add_cancel (by omega)]
 obtain⟨h0,⟨rfl,rfl⟩ |⟨a,o,c,vs,h1,h2,h3,h4⟩⟩:=hs
 ·omega
 ·have hcells:(vs.drop (o+i*esz)).take ((j - i)*esz)=(cells.drop (i*esz)).take ((j - i)*esz):=by
   rw [<- h4,List.drop_take,List.drop_drop,List.take_take,Nat.min_eq_left (by omega)]
  have hlen:((cells.drop (i*esz)).take ((j - i)*esz)).length=(j - i)*esz:=by rw [List.length_take,List.length_drop,h0];omega
  rcases h1 with ⟨rfl,hc⟩ |⟨rfl,⟨hce,hz⟩ |⟨rfl,rfl⟩⟩
  ·refine⟨.slc a (o+i*esz) (j - i) (c - i),fun n' K=>?_,hlen,.inr ⟨a,o+i*esz,c - i,vs,.inl ⟨rfl,by omega⟩,h2,by omega,hcells⟩⟩
   show bounds3 true true false [.int k j,.int k' i] l c (fun lo hi m=>movedK o lo m esz fun o'=>force (Nat.sub hi lo) fun l'=>force (Nat.sub m lo) fun c'=>K.v (.slc a o' l' c') h n')=_
   unfold bounds3
   rw [boundK_false,boundK_true (by omega),boundK_true (by omega)]
   show movedK o i c esz _=_
   rw [movedK_eq,force_eq,force_eq,if_neg (by omega)]
   rfl
  ·subst c
   refine⟨.gsl a (o+i*esz) (j - i) esz,fun n' K=>?_,hlen,.inr ⟨a,o+i*esz,esz,vs,.inr ⟨rfl,.inl ⟨rfl,hz⟩⟩,h2,by omega,hcells⟩⟩
   show guardB (Nat.beq esz esz) (guardB (Nat.blt 0 esz) (readable h a fun cs=>lenK cs fun len=>force (Nat.div (Nat.sub len o) esz) fun known =>
    (bounds3 true true false [.int k j,.int k' i] l known fun lo hi _=>Bool.rec (motive:=fun _=>Bool)
     (guardB (Nat.beq lo 0) (K.v (.gsl a o hi esz) h n'))
     (force (Nat.add o (Nat.mul lo esz)) fun o'=>force (Nat.sub hi lo) fun l'=>K.v (.gsl a o' l' esz) h n') (Nat.blt lo known))))=_
   have hk:l<=(vs.length - o) / esz:=(Nat.le_div_iff_mul_le hz).2 (by omega)
   rw [show Nat.beq esz esz=true by simp,show Nat.blt 0 esz=true by simp [Nat.blt];omega,guardT,guardT,readable_eq h2.is,lenK_eq,force_eq]
   have hk2:l<=Nat.div (Nat.sub vs.length o) esz:=hk
   generalize Nat.div (Nat.sub vs.length o) esz=kn at *
   unfold bounds3
   rw [boundK_false,boundK_true (show j<=kn by omega),boundK_true (show i<=j by omega)]
   show Bool.rec (motive:=fun _=>Bool) (guardB (Nat.beq i 0) (K.v (.gsl a o j esz) h n')) (force (Nat.add o (Nat.mul i esz)) fun o'=>force (Nat.sub j i) fun l'=>K.v (.gsl a o' l' esz) h n') (Nat.blt i kn)=_
   have hb:Nat.blt i kn=true:=by simp [Nat.blt];omega
   rw [hb]
   show force (Nat.add o (Nat.mul i esz)) _=_
   rw [force_eq,force_eq]
   rfl
  ·omega
theorem flatMap_part {α:Type} {f:α->List AV} {esz:Nat} (hf:∀ x,(f x).length=esz) (xs:List α) (i j:Nat) (hij:i<=j) (hj:j<=xs.length):((xs.flatMap f).drop (i*esz)).take ((j - i)*esz)=((xs.drop i).take (j - i)).flatMap f:=by
 have h1:(xs.flatMap f).drop (i*esz)=(xs.drop i).flatMap f:=by
  have e:xs=xs.take i++xs.drop i:=(List.take_append_drop i xs).symm
  conv=>lhs;rw [e,List.flatMap_append]
  have hl:((xs.take i).flatMap f).length=i*esz:=by rw [flatMap_length hf,List.length_take,Nat.min_eq_left (by omega)]
  rw [<- hl,List.drop_left]
 rw [h1,flatMap_take hf _ _ (by rw [List.length_drop];omega)]
section
variable {E:Env} {Q:Post} {fn:Fr} {md:Md} {R:List (Path × AV)} {todo:List AItem} {cs:List AF} {h h' h0:Hp} {n n' n0:Nat} {os:List COp} {k k':IntKind} {p:Path} {g:Option (Path × Bool)} {X Y Z:CX} {v:AV}
theorem SO.sliceSlTT {α:Type} {f:α->List AV} {ys:List α} {esz:Nat} (i j:Nat) {x y:Int} (hf:∀ x,(f x).length=esz) (hg:wantB R g=true) (hd:Nat.beq p.len depth=true) (h1:lookX R X=some v) (h2:lookX R Y=some (.int k y)) (h3:lookX R Z=some (.int k' x)) (hy:y=(j:Int)) (hx:x=(i:Int)) (hs:Sl h n esz v ys.length (ys.flatMap f)) (hij:i < j) (hj:j<=ys.length)
  (hw:∀ v',Sl h n esz v' ((ys.drop i).take (j - i)).length (((ys.drop i).take (j - i)).flatMap f)->SO E Q fn md ((p,v')::R) os todo cs h n):SO E Q fn md R (⟨some p,g,[X,Y,Z],.sliceSl esz true true false⟩::os) todo cs h n:=by
 subst hy hx
 obtain⟨v',k1,k2⟩:=ex_sliceSlTT (k:=k) (k':=k') hs hij hj
 have hl:((ys.drop i).take (j - i)).length=j - i:=by rw [List.length_take,List.length_drop];omega
 rw [flatMap_part hf ys i j (by omega) hj] at k2
 refine SO.val hg hd (show lookXs R [X,Y,Z]=some [v,.int k j,.int k' i] by simp [lookXs,h1,h2,h3]) (k1 n) (hw v' ?_)
 rw [hl];exact k2
end
set_option maxRecDepth 100000
set_option maxHeartbeats 16000000
theorem xC_form (y:XR):∃ e,xC y=[.bool (!isA y.sx),strOf (txtD y.sx),e]:=by cases y<;>exact⟨_,rfl⟩
abbrev pfZ:List AV:=pfC ⟨[],0,0,[]⟩
theorem refFile36 {h:Hp} {n:Nat} (x:XR) (hx:XGood h n x) :
  Fn E 36 [.agg (xC x)] h n fun r h' n'=>Gr h n h' n'/\((okF x.sx=false/\r=.tup [.agg pfZ,.bool false])\/(okF x.sx=true/\r=.tup [.agg (pfC (fileD x.sx)),.bool true])):=by
 refine Fn.of code36 (by decide) rfl fun Q cs hq=>?_
 show SW E Q 36 [(r0,.agg (xC x))] _ _ _ _
 refine SW.seq ?_
 refine SW.reg ?_
 refine SO.box rfl rfl rfl (by simp) (fun h1 c1 E1=>?_)
 refine SO.alloc rfl rfl (fun h2 b1 E2=>?_)
 have b0:hb h2 n=some (.cell (xC x) 56 false):=by rw [E2.same n (by omega)];exact c1
 have hG2:Gr h n h2 (n+1+1):=E1.trans E2
 have hno:∀ (R:List (Path × AV)) (g:Hp) (m:Nat) (todo:List AItem),okF x.sx=false->n+2<=m->hb g (n+1)=some (.cell pfZ 68 false)->(∀ c,c < n->hb g c=hb h c)->look R r2=some (.ptr (n+1) 0)->look R r3=some (.bool false)->SW E Q 36 R (.code .ret::todo) cs g m:=fun R g m todo hk hm h1 hlow q2 q3 =>
  SW.ret code36 ⟨n+1,0,_,q2,.inl ⟨_,_,h1⟩,by simp,_,q3,hq _ _ _ ⟨⟨by omega,hlow⟩,.inl ⟨hk,rfl⟩⟩⟩
 cases x with
 | atom bs =>
  repeat' first|refine SO.loadV rfl rfl rfl b0 rfl ?_|refine SO.build (v:=.agg pfZ) rfl rfl rfl (fun K=>rfl) ?_|refine SW.a rfl ?_|refine SW.reg ?_|refine SO.nil ?_|refine SO.a rfl ?_
  refine SO.storeAll rfl rfl rfl b1 rfl rfl (fun g3 f3 k3=>?_)
  repeat' first|refine SO.nil ?_|refine SO.a rfl ?_
  exact hno _ g3 _ _ rfl (by omega) f3 (fun c hc=>by rw [k3 _ (by omega)];exact hG2.same c hc) rfl rfl
 | list v xs =>
  have hE:StE (fun _=>False) n h (fun g j=>XGood g j (.list v xs)):=fun g j hj hg=>hx.ext ⟨hj,fun c hc=>hg c hc (fun e=>e)⟩
  have hY:=els_list hE
  have hs2:=(hY.now.1).ext hG2
  by_cases hlen:xs.length=4
  case neg =>
   have hk:okF (XR.list v xs).sx=false:=by simp [okF,XR.sx,isT,sxs_eq,hlen]
   repeat' first|refine SO.loadV rfl rfl rfl b0 rfl ?_|refine SO.lenSl rfl rfl rfl hs2 ?_|refine SO.build (v:=.agg pfZ) rfl rfl rfl (fun K=>rfl) ?_|refine SW.a rfl ?_|refine SW.reg ?_|refine SO.nil ?_|refine SO.a rfl ?_|refine SO.cT rfl (by omega) ?_|fail
   refine SO.storeAll rfl rfl rfl b1 rfl rfl (fun g3 f3 k3=>?_)
   repeat' first|refine SO.nil ?_|refine SO.a rfl ?_
   exact hno _ g3 _ _ hk (by omega) f3 (fun c hc=>by rw [k3 _ (by omega)];exact hG2.same c hc) rfl rfl
  obtain⟨y0,y1,y2,y3,rfl⟩:=four_of hlen
  have hgr:∀ (g:Hp),(∀ c,c < n->hb g c=hb h c)->∀ c,c < n->¬ False->hb g c=hb h c:=fun g hg c hc _=>hg c hc
  obtain⟨z0,hz0⟩:=xC_form y0
  obtain⟨z3,hz3⟩:=xC_form y3
  have hok:okF (XR.list v [y0,y1,y2,y3]).sx=(isA y0.sx&&isN y1.sx&&isN y2.sx&&isA y3.sx):=by simp [okF,XR.sx,isT,okY,tupD,sxs_eq]
  have hfd:fileD (XR.list v [y0,y1,y2,y3]).sx=⟨txtD y0.sx,numD y1.sx,numD y2.sx,txtD y3.sx⟩:=by simp [fileD,XR.sx,fileY,tupD,sxs_eq]
  repeat' first|refine SO.loadV rfl rfl rfl b0 rfl ?_|refine SO.lenSl rfl rfl rfl hs2 ?_|refine SW.a rfl ?_|refine SW.reg ?_|refine SO.nil ?_|refine SO.a rfl ?_|refine SO.cF rfl (by omega) ?_|fail
  refine SO.idxX 0 rfl rfl rfl rfl rfl hY (by simp) (fun p0 o0 hp0=>?_)
  have hP0:=hp0 h2 (n+1+1) (by omega) (hgr h2 hG2.same)
  simp only [List.getElem_cons_zero,hz0] at hP0
  cases ha0:isA y0.sx with
  | false =>
   rw [ha0] at hP0
   repeat' first|refine SO.load0 rfl rfl rfl hP0 (Gr.refl _ _) ?_|refine SO.build (v:=.agg pfZ) rfl rfl rfl (fun K=>rfl) ?_|refine SW.a rfl ?_|refine SW.reg ?_|refine SO.nil ?_|refine SO.a rfl ?_
   refine SO.storeAll rfl rfl rfl b1 rfl rfl (fun g3 f3 k3=>?_)
   repeat' first|refine SO.nil ?_|refine SO.a rfl ?_
   exact hno _ g3 _ _ (by rw [hok,ha0];rfl) (by omega) f3 (fun c hc=>by rw [k3 _ (by omega)];exact hG2.same c hc) rfl rfl
  | true =>
   rw [ha0] at hP0
   repeat' first|refine SO.load0 rfl rfl rfl hP0 (Gr.refl _ _) ?_|refine SO.loadV rfl rfl rfl b0 rfl ?_|refine SO.a rfl ?_
   refine SO.idxX 3 rfl rfl rfl rfl rfl hY (by simp) (fun p3 o3 hp3=>?_)
   have hP3:=hp3 h2 (n+1+1) (by omega) (hgr h2 hG2.same)
   simp only [List.getElem_cons_succ,List.getElem_cons_zero,hz3] at hP3
   cases ha3:isA y3.sx with
   | false =>
    rw [ha3] at hP3
    repeat' first|refine SO.load0 rfl rfl rfl hP3 (Gr.refl _ _) ?_|refine SO.build (v:=.agg pfZ) rfl rfl rfl (fun K=>rfl) ?_|refine SW.a rfl ?_|refine SW.reg ?_|refine SO.nil ?_|refine SO.a rfl ?_
    refine SO.storeAll rfl rfl rfl b1 rfl rfl (fun g3 f3 k3=>?_)
    repeat' first|refine SO.nil ?_|refine SO.a rfl ?_
    exact hno _ g3 _ _ (by rw [hok,ha3];simp) (by omega) f3 (fun c hc=>by rw [k3 _ (by omega)];exact hG2.same c hc) rfl rfl
   | true =>
    rw [ha3] at hP3
    have hmem:=hx.mem.2.1
    repeat' first|refine SO.load0 rfl rfl rfl hP3 (Gr.refl _ _) ?_|refine SO.loadV rfl rfl rfl b0 rfl ?_|refine SW.a rfl ?_|refine SW.reg ?_|refine SO.nil ?_|refine SO.a rfl ?_
    refine SO.sliceSlTT 1 3 xC_length rfl rfl rfl rfl rfl rfl rfl hs2 (by omega) (by simp) (fun w hw=>?_)
    have hw':Sl h2 (n+1+1) 3 w ([y1,y2]:List XR).length (([y1,y2]:List XR).flatMap xC):=hw
    refine SO.callG rfl rfl rfl (refNumbers35 hw' (fun y hy=>(hmem y (by simp at hy;rcases hy with rfl|rfl<;>simp)).ext hG2) (by simp)) ?_
    rintro _ g3 m3 ⟨E3,⟨hall,rfl⟩ |⟨hall,w2,rfl,hst⟩⟩
    ·have l3:=E3.le
     repeat' first|refine SO.build (v:=.agg pfZ) rfl rfl rfl (fun K=>rfl) ?_|refine SW.a rfl ?_|refine SW.reg ?_|refine SO.nil ?_|refine SO.a rfl ?_
     refine SO.storeAll rfl rfl rfl (by rw [E3.same _ (by omega)];exact b1) rfl rfl (fun g4 f4 k4=>?_)
     repeat' first|refine SO.nil ?_|refine SO.a rfl ?_
     refine hno _ g4 _ _ ?_ (by omega) f4 (fun c hc=>by rw [k4 _ (by omega),E3.same _ (by omega)];exact hG2.same c hc) rfl rfl
     rw [hok,ha0,ha3]
     simpa using hall
    ·have l3:=E3.le
     have c0:hb g3 n=some (.cell (xC (.list v [y0,y1,y2,y3])) 56 false):=by rw [E3.same _ (by omega)];exact b0
     have hlow3:∀ c,c < n->hb g3 c=hb h c:=fun c hc=>by rw [E3.same _ (by omega)];exact hG2.same c hc
     have hsw:Sl g3 m3 1 w2 2 ([numD y1.sx,numD y2.sx].flatMap intC):=hst g3 m3 (Nat.le_refl _) fun _ _ _=>rfl
     obtain⟨a1,o1,k1,q1⟩:=ex_idxSlA (i:=0) hsw (by omega)
     obtain⟨a2,o2,k2,q2⟩:=ex_idxSlA (i:=1) hsw (by omega)
     have hz0':=hz0
     have hz3':=hz3
     repeat' first|refine SO.loadV rfl rfl rfl c0 rfl ?_|refine SW.a rfl ?_|refine SW.reg ?_|refine SO.nil ?_|(refine SW.drawO rfl ?_;simp only [List.map_cons,List.map_nil])|refine SO.a rfl ?_
     refine SO.idxX 0 rfl rfl rfl rfl rfl hY (by simp) (fun s0 t0 hs0=>?_)
     have hS0:=hs0 g3 m3 (by omega) (hgr g3 hlow3)
     simp only [List.getElem_cons_zero,hz0] at hS0
     repeat' first|refine SO.loadF (off:=1) rfl rfl rfl hS0 (Gr.refl _ _) rfl ?_|refine SO.loadV rfl rfl rfl c0 rfl ?_|refine SO.val (oc:=.idxSlA 1) (v:=.ptr a1 o1) rfl rfl (two rfl rfl) (k1 _ _) ?_|refine SO.val (oc:=.idxSlA 1) (v:=.ptr a2 o2) rfl rfl (two rfl rfl) (k2 _ _) ?_|refine SO.load0 rfl rfl rfl q1 (Gr.refl _ _) ?_|refine SO.load0 rfl rfl rfl q2 (Gr.refl _ _) ?_|refine SO.a rfl ?_
     refine SO.idxX 3 rfl rfl rfl rfl rfl hY (by simp) (fun s3 t3 hs3=>?_)
     have hS3:=hs3 g3 m3 (by omega) (hgr g3 hlow3)
     simp only [List.getElem_cons_succ,List.getElem_cons_zero,hz3] at hS3
     repeat' first|refine SO.loadF (off:=1) rfl rfl rfl hS3 (Gr.refl _ _) rfl ?_|refine SO.build (v:=.agg (pfC ⟨txtD y0.sx,numD y1.sx,numD y2.sx,txtD y3.sx⟩)) rfl rfl rfl (fun K=>rfl) ?_|refine SO.a rfl ?_
     refine SO.storeAll rfl rfl rfl (by rw [E3.same _ (by omega)];exact b1) rfl rfl (fun g4 f4 k4=>?_)
     repeat' first|refine SO.nilD ?_|refine SO.a rfl ?_
     refine SW.ret code36 ⟨n+1,0,_,rfl,.inl ⟨_,_,f4⟩,by simp,_,rfl,hq _ _ _ ⟨⟨by omega,fun c hc=>by rw [k4 _ (by omega)];exact hlow3 c hc⟩,.inr ⟨?_,by rw [hfd];rfl⟩⟩⟩
     rw [hok,ha0,ha3]
     simpa using hall
end Go.Ev
