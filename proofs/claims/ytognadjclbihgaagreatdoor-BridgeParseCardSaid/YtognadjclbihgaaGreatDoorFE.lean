/- Contracts: strconv: small, Len64, log10, numDigits. -/
import Derived.Test.YtognadjclbihgaaGreatDoorE6
import Derived.Test.YtognadjclbihgaaGreatDoorFD
import Derived.Test.YtognadjclbihgaaGreatDoorE7
import Derived.Test.YtognadjclbihgaaGreatDoorKCodeA
import Derived.Test.YtognadjclbihgaaGreatDoorPA
set_option linter.all false
namespace Go.Ev
set_option maxRecDepth 100000
set_option maxHeartbeats 4000000
set_option maxRecDepth 100000
set_option maxHeartbeats 4000000
set_option maxRecDepth 100000
set_option maxHeartbeats 4000000
section
variable {E:Env} {Q:Post} {fn:Fr} {md:Md} {R:List (Path × AV)} {todo:List AItem} {cs:List AF} {h h' h0:Hp} {n n' n0:Nat} {os:List COp} {k:IntKind} {p:Path} {g:Option (Path × Bool)} {X Y:CX} {a o:Nat}
end
def powC:List AV:=(List.range 20).map fun i=>.int .u64 ((10 ^ i:Nat):Int)
def Pow (h:Hp) (n:Nat):Prop:=Pt h n (.ptr 3 0) powC
theorem powC_at (t:Nat) (ht:t < 20):powC[t]?=some (.int .u64 ((10 ^ t:Nat):Int)):=by
 simp [powC,ht]
set_option maxRecDepth 100000
set_option maxHeartbeats 8000000
section
variable {E:Env} {Q:Post} {fn:Fr} {md:Md} {R:List (Path × AV)} {todo:List AItem} {cs:List AF} {h h' h0:Hp} {n n' n0:Nat} {os:List COp} {k:IntKind} {p:Path} {g:Option (Path × Bool)} {X Y:CX} {a o:Nat} {v:AV} {y:Int}
theorem SO.idxW {esz l c:Nat} (i:Nat) (hg:wantB R g=true) (hd:Nat.beq p.len depth=true) (h1:lookX R X=some (.slc a o l c)) (h2:lookX R Y=some (.int k y)) (hy:y=(i:Int)) (hi:i < l) (hw:SO E Q fn md ((p,.ptr a (o+i*esz))::R) os todo cs h n):SO E Q fn md R (⟨some p,g,[X,Y],.idxSlA esz⟩::os) todo cs h n:=by
 subst hy
 exact SO.val hg hd (two h1 h2) (fun K=>by
  show guardB (Nat.blt i l) (force (Nat.add o (Nat.mul i esz)) fun o=>K.v (.ptr a o) h n)=_
  have:Nat.blt i l=true:=by simp [Nat.blt,Nat.lt_iff_add_one_le] at hi ⊢;exact hi
  rw [this,force_eq];rfl) hw
theorem SO.store1 {us:List AV} {e:TypeId} (hg:wantB R g=true) (h1:lookX R X=some (.ptr a o)) (h2:lookX R Y=some v) (hb0:hb h a=some (.cell us e false)) (hv:v.cells=[v]) (hv':∀ us,v≠.tup us) (hl:o < us.length)
  (hw:∀ h1,hb h1 a=some (.cell (splice o [v] us) e false)->(∀ b,b≠a->hb h1 b=hb h b)->SO E Q fn md R os todo cs h1 n):SO E Q fn md R (⟨none,g,[X,Y],.store 1⟩::os) todo cs h n :=
 SO.store hg h1 h2 hb0 hv' (by rw [hv];rfl) (by omega) fun h1 hc hk=>hw h1 (by rw [hv] at hc;exact hc) hk
end
set_option maxRecDepth 100000
set_option maxHeartbeats 8000000
section
variable {E:Env} {Q:Post} {fn:Fr} {md:Md} {R:List (Path × AV)} {todo:List AItem} {cs:List AF} {h h' h0:Hp} {n n' n0:Nat} {os:List COp} {k:IntKind} {p:Path} {g:Option (Path × Bool)} {X Y:CX} {a o:Nat} {v:AV} {y:Int}
end
set_option maxRecDepth 100000
set_option maxHeartbeats 4000000
section
variable {E:Env} {Q:Post} {fn:Fr} {md:Md} {R:List (Path × AV)} {todo:List AItem} {cs:List AF} {h h' h0:Hp} {n n' n0:Nat} {os:List COp} {k k':IntKind} {p:Path} {g:Option (Path × Bool)} {X Y Z:CX} {a o:Nat} {v:AV} {x y:Int}
end
set_option maxRecDepth 100000
set_option maxHeartbeats 4000000
section
variable {E:Env} {Q:Post} {fn:Fr} {md:Md} {R:List (Path × AV)} {todo:List AItem} {cs:List AF} {h h' h0:Hp} {n n' n0:Nat} {os:List COp} {k k':IntKind} {p:Path} {g:Option (Path × Bool)} {X Y Z:CX} {a o:Nat} {u v:AV} {x y:Int} {fo:Option Nat} {bs ds:List UInt8}
end
set_option maxRecDepth 100000
set_option maxHeartbeats 4000000
theorem XR.nodes_pos (x:XR):1<=x.nodes:=by cases x<;>simp [XR.nodes]
theorem nodess_len:∀ ys:List XR,ys.length<=XR.nodess ys
 | []=>by simp [XR.nodess]
 | y::ys=>by
  have:=y.nodes_pos
  have:=nodess_len ys
  simp [XR.nodess];omega
theorem nodess_take {xs:List XR} {i:Nat} (hi:i < xs.length):XR.nodess (xs.take (i+1))=XR.nodess (xs.take i)+xs[i].nodes/\XR.nodess (xs.take i)+xs[i].nodes<=XR.nodess xs:=by
 have e1:XR.nodess (xs.take (i+1))=XR.nodess (xs.take i)+xs[i].nodes:=by rw [List.take_succ_eq_append_getElem hi,nodess_append];simp [XR.nodess]
 have e2:XR.nodess xs=XR.nodess (xs.take (i+1))+XR.nodess (xs.drop (i+1)):=by rw [<- nodess_append,List.take_append_drop]
 exact⟨e1,by omega⟩
theorem add51:∀ (x:XR) (d:Nat) {h:Hp} {n m c lv:Nat},XOk h m x->XFit d x->hb h m=some (.cell [.int .i64 (c:Int),.bool false] 153 false)->m < n->c+x.nodes<=20000->lv+d<=13->Fn E 71 [.ptr m 0,.agg (xC x),.int .i64 (lv:Int)] h n fun r h' n'=>hb h' m=some (.cell [.int .i64 ((c+x.nodes:Nat):Int),.bool false] 153 false)/\n<=n'/\∀ a,a≠m->a < n->hb h' a=hb h a:=by
 intro x
 induction hsz:SizeOf.sizeOf x using Nat.strongRecOn generalizing x with
 | ind sz ih =>
  intro d h n m c lv hx hf hm hmn hc20 hd
  refine Fn.of code71 (by decide) rfl fun Q cs hq=>?_
  show SW E Q 71 [(r0,.ptr m 0),(r1,.agg (xC x)),(r2,.int .i64 (lv:Int))] _ _ _ _
  cases hx with
  | atom ts =>
   cases hf with
   | atom d' _ hbs =>
    simp only [XR.nodes] at hc20 hq
    repeat' first|refine SO.box rfl rfl rfl (by simp) (fun h1 hc1 hE=>?_)|refine SW.a rfl ?_|refine SW.reg ?_|refine SO.nil ?_|refine SO.a rfl ?_
    have hm1:hb h1 m=some (.cell [.int .i64 (c:Int),.bool false] 153 false):=by rw [hE.same m hmn];exact hm
    repeat' first|refine SO.loadV rfl rfl rfl hm1 rfl ?_|refine SO.a rfl ?_|refine SO.add rfl rfl rfl rfl (by omega) ?_|fail
    refine SO.store1 rfl rfl rfl hm1 rfl (by simp) (by simp) (fun h2 hm2 hk2=>?_)
    have hc2:hb h2 n=some (.cell (xC (.atom ts)) 56 false):=by rw [hk2 n (by omega)];exact hc1
    repeat' first|refine SO.loadV rfl rfl rfl hc2 rfl ?_|refine SO.loadV rfl rfl rfl hm2 rfl ?_|refine SW.a rfl ?_|refine SW.reg ?_|refine SO.nil ?_|refine SO.a rfl ?_|refine SO.cF rfl (by omega) ?_|fail
    exact SW.ret code71 (hq _ _ _ ⟨hm2,by omega,fun a h1 h2=>by rw [hk2 a h1,hE.same a h2]⟩)
  | list v xs hs hxs =>
   cases hf with
   | list d' _ _ hfs =>
    simp only [XR.nodes] at hc20 hq
    have hl:=nodess_len xs
    have loop:∀ (k i:Nat) (h1:Hp) (n1:Nat),i+k=xs.length->hb h1 m=some (.cell [.int .i64 ((c+1+XR.nodess (xs.take i):Nat):Int),.bool false] 153 false)->n<=n1->(∀ a,a≠m->a < n->hb h1 a=hb h a)->∀ R,look R r0=some (.ptr m 0)->look R r2=some (.int .i64 (lv:Int))->look R r31=some v->look R r32=some (.int .i64 (xs.length:Int))->look R r33=some (.int .i64 (i:Int))->SW E Q 71 R [.code c71x11,.inLoop c71x11,.inBlock 0] cs h1 n1:=by
     intro k
     induction k with
     | zero =>
      intro i h1 n1 hi hm1 hn1 hk1 R q0 q2 q31 q32 q33
      rw [show i=xs.length by omega,List.take_length] at hm1
      refine SW.sub (R':=[(r0,.ptr m 0),(r2,.int .i64 (lv:Int)),(r31,v),(r32,.int .i64 (xs.length:Int)),(r33,.int .i64 (i:Int))]) (by simp [q0,q2,q31,q32,q33]) ?_
      repeat' first|refine SW.a rfl ?_|refine SW.reg ?_|refine SO.nil ?_|refine SO.cF rfl (by omega) ?_|fail
      exact SW.fin code71 (hq _ _ _ ⟨by rw [<- Nat.add_assoc];exact hm1,hn1,hk1⟩)
     | succ k ihk =>
      intro i h1 n1 hi hm1 hn1 hk1 R q0 q2 q31 q32 q33
      have hi':i < xs.length:=by omega
      have hGm:Gr h m h1 m:=⟨Nat.le_refl _,fun a ha=>hk1 a (by omega) (by omega)⟩
      have hs1:=hs.ext hGm
      have hmem:=List.getElem_mem hi'
      obtain⟨e1,e2⟩:=nodess_take hi'
      refine SW.sub (R':=[(r0,.ptr m 0),(r2,.int .i64 (lv:Int)),(r31,v),(r32,.int .i64 (xs.length:Int)),(r33,.int .i64 (i:Int))]) (by simp [q0,q2,q31,q32,q33]) ?_
      repeat' first|refine SO.idxOf xC_length rfl rfl rfl rfl hs1 hi' (fun a o hp=>?_)|refine SO.loadA rfl rfl rfl (by assumption) ⟨by omega,fun _ _=>rfl⟩ (xC_length _) ?_|refine SO.alloc rfl rfl (fun h2 hc2 hE2=>?_)|refine SW.a rfl ?_|refine SW.reg ?_|refine SO.nil ?_|refine SO.cT rfl (by omega) ?_|fail
      refine SO.storeAll rfl rfl rfl hc2 (xC_length _) rfl (fun h3 hc3 hk3=>?_)
      have hE3:Gr h1 n1 h3 (n1+1):=hE2.keep (Nat.le_refl _) hk3
      have hm3:hb h3 m=some (.cell [.int .i64 ((c+1+XR.nodess (xs.take i):Nat):Int),.bool false] 153 false):=by rw [hE3.same m (by omega)];exact hm1
      repeat' first|refine SO.loadV rfl rfl rfl hm3 rfl ?_|refine SW.a rfl ?_|refine SW.reg ?_|refine SO.nil ?_|refine SO.a rfl ?_
      refine SO.loadVA rfl rfl rfl hc3 (xC_length _) ?_
      repeat' first|refine SO.a rfl ?_|refine SO.add rfl rfl rfl rfl (by omega) ?_|fail
      have hG3:Gr h m h3 m:=⟨Nat.le_refl _,fun a ha=>by rw [hE3.same a (by omega)];exact hk1 a (by omega) (by omega)⟩
      have hfn:=ih (SizeOf.sizeOf xs[i]) (by rw [<- hsz];have:=List.sizeOf_lt_of_mem hmem;simp;omega) xs[i] rfl d' (lv:=lv+1) (n:=n1+1) ((hxs _ hmem).ext hG3) (hfs _ hmem) hm3 (by omega) (by omega) (by omega)
      rw [show ((lv+1:Nat):Int)=(lv:Int)+1 by omega] at hfn
      refine SO.callG rfl rfl rfl hfn ?_
      rintro _ h4 n4 ⟨hm4,hn4,hk4⟩
      repeat' first|refine SW.a rfl ?_|refine SW.reg ?_|refine SO.nil ?_|refine SO.a rfl ?_|refine SO.add rfl rfl rfl rfl (by omega) ?_|fail
      refine SW.again ?_
      refine ihk (i+1) h4 n4 (by omega) ?_ (by omega) (fun a ha1 ha2=>by rw [hk4 a ha1 (by omega),hE3.same a (by omega)];exact hk1 a ha1 ha2) _ rfl rfl rfl rfl rfl
      rw [e1,<- Nat.add_assoc];exact hm4
    repeat' first|refine SO.box rfl rfl rfl (by simp) (fun h1 hc1 hE=>?_)|refine SW.a rfl ?_|refine SW.reg ?_|refine SO.nil ?_|refine SO.a rfl ?_
    have hm1:hb h1 m=some (.cell [.int .i64 (c:Int),.bool false] 153 false):=by rw [hE.same m hmn];exact hm
    repeat' first|refine SO.loadV rfl rfl rfl hm1 rfl ?_|refine SO.a rfl ?_|refine SO.add rfl rfl rfl rfl (by omega) ?_|fail
    refine SO.store1 rfl rfl rfl hm1 rfl (by simp) (by simp) (fun h2 hm2 hk2=>?_)
    have hc2:hb h2 n=some (.cell (xC (.list v xs)) 56 false):=by rw [hk2 n (by omega)];exact hc1
    repeat' first|refine SO.loadV rfl rfl rfl hc2 rfl ?_|refine SO.loadV rfl rfl rfl hm2 rfl ?_|refine SW.a rfl ?_|refine SW.reg ?_|refine SO.nil ?_|refine SO.a rfl ?_|refine SO.lenSl rfl rfl rfl (by assumption) ?_|refine SO.cF rfl (by omega) ?_|fail
    refine SW.loop ?_
    refine loop xs.length 0 h2 (n+1) (by omega) ?_ (by omega) (fun a h1 h2=>by rw [hk2 a h1,hE.same a h2]) _ rfl rfl rfl rfl rfl
    exact hm2
theorem shape52:∀ (x:XR) (d:Nat) {h:Hp} {n:Nat},XOk h n x->XFit d x->x.nodes<=1000000->Fn E 72 [.agg (xC x)] h n fun r h' n'=>r=.int .i64 0/\Gr h n h' n':=by
 intro x
 induction hsz:SizeOf.sizeOf x using Nat.strongRecOn generalizing x with
 | ind sz ih =>
  intro d h n hx hf hn
  refine Fn.of code72 (by decide) rfl fun Q cs hq=>?_
  show SW E Q 72 [(r0,.agg (xC x))] _ _ _ _
  cases hx with
  | atom ts =>
   cases hf with
   | atom d' _ hbs =>
    have hnil:=nilsSl h n 3
    repeat' first|refine SO.box rfl rfl rfl (by simp) (fun h1 hc hE=>?_)|refine SO.loadV rfl rfl rfl (by assumption) rfl ?_|refine SW.a rfl ?_|refine SW.reg ?_|refine SO.nil ?_|refine SO.a rfl ?_|refine SO.lenSl rfl rfl rfl (by assumption) ?_|refine SO.cF rfl (by omega) ?_|fail
    refine SW.loop ?_
    repeat' first|refine SW.a rfl ?_|refine SW.reg ?_|refine SO.nil ?_|refine SO.a rfl ?_|refine SO.cF rfl (by omega) ?_|fail
    exact SW.ret code72 ⟨_,rfl,hq _ _ _ ⟨rfl,hE⟩⟩
  | list v xs hs hxs =>
   cases hf with
   | list d' _ _ hfs =>
    simp only [XR.nodes] at hn
    have hl:=nodess_len xs
    have hl0:([]:List UInt8).length=0:=rfl
    have loop:∀ (k i:Nat) (h1:Hp) (n1:Nat),i+k=xs.length->Gr h n h1 n1->∀ R,look R r31=some v->look R r32=some (.int .i64 (xs.length:Int))->look R r33=some (.int .i64 (i:Int))->SW E Q 72 R [.code c72x12,.inLoop c72x12,.inBlock 1,.code (.seq (.reg c72x13) .ret)] cs h1 n1:=by
     intro k
     induction k with
     | zero =>
      intro i h1 n1 hi hE R q31 q32 q33
      refine SW.sub (R':=[(r31,v),(r32,.int .i64 (xs.length:Int)),(r33,.int .i64 (i:Int))]) (by simp [q31,q32,q33]) ?_
      repeat' first|refine SW.a rfl ?_|refine SW.reg ?_|refine SO.nil ?_|refine SO.a rfl ?_|refine SO.cF rfl (by omega) ?_|fail
      exact SW.ret code72 ⟨_,rfl,hq _ _ _ ⟨rfl,hE⟩⟩
     | succ k ihk =>
      intro i h1 n1 hi hE R q31 q32 q33
      have hi':i < xs.length:=by omega
      have hs1:=hs.ext hE
      have hmem:=List.getElem_mem hi'
      obtain⟨_,e2⟩:=nodess_take hi'
      refine SW.sub (R':=[(r31,v),(r32,.int .i64 (xs.length:Int)),(r33,.int .i64 (i:Int))]) (by simp [q31,q32,q33]) ?_
      repeat' first|refine SO.idxOf xC_length rfl rfl rfl rfl hs1 hi' (fun a o hp=>?_)|refine SO.loadA rfl rfl rfl (by assumption) (Gr.refl _ _) (xC_length _) ?_|refine SO.alloc rfl rfl (fun h2 hc2 hE2=>?_)|refine SW.a rfl ?_|refine SW.reg ?_|refine SO.nil ?_|refine SO.cT rfl (by omega) ?_|fail
      refine SO.storeAll rfl rfl rfl hc2 (xC_length _) rfl (fun h3 hc3 hk3=>?_)
      have hE3:Gr h1 n1 h3 (n1+1):=hE2.keep (Nat.le_refl _) hk3
      repeat' first|refine SW.a rfl ?_|refine SW.reg ?_|refine SO.nil ?_
      refine SO.loadVA rfl rfl rfl hc3 (xC_length _) ?_
      refine SO.callG rfl rfl rfl (ih (SizeOf.sizeOf xs[i]) (by rw [<- hsz];have:=List.sizeOf_lt_of_mem hmem;simp;omega) xs[i] rfl d' ((hxs _ hmem).ext (hE.trans hE3)) (hfs _ hmem) (by omega)) ?_
      rintro _ h4 n4 ⟨rfl,hE4⟩
      repeat' first|refine SW.a rfl ?_|refine SW.reg ?_|refine SO.nil ?_|refine SO.a rfl ?_|refine SO.cF rfl (by omega) ?_|refine SO.add rfl rfl rfl rfl (by omega) ?_|fail
      refine SW.again ?_
      exact ihk (i+1) h4 n4 (by omega) ((hE.trans hE3).trans hE4) _ rfl rfl rfl
    repeat' first|refine SO.box rfl rfl rfl (by simp) (fun h1 hc hE=>?_)|refine SO.loadV rfl rfl rfl (by assumption) rfl ?_|refine SO.strNe rfl rfl rfl rfl (fun hne=>absurd rfl hne) (fun _=>?_)|refine SW.a rfl ?_|refine SW.reg ?_|refine SO.nil ?_|refine SO.a rfl ?_|refine SO.lenSl rfl rfl rfl (by assumption) ?_|refine SO.cF rfl (by omega) ?_|fail
    refine SW.loop ?_
    exact loop xs.length 0 _ _ (by omega) hE _ rfl rfl rfl
theorem xcheck24 (x:XR) {h:Hp} {n:Nat} (hx:XOk h n x) (hf:XFit 12 x) (hn:x.nodes<=20000):Fn E 40 [.agg (xC x)] h n fun r h' n'=>r=.int .i64 0/\Gr h n h' n':=by
 refine Fn.of code40 (by decide) rfl fun Q cs hq=>?_
 show SW E Q 40 [(r0,.agg (xC x))] _ _ _ _
 repeat' first|refine SO.box rfl rfl rfl (by simp) (fun h1 hc hE=>?_)|refine SW.a rfl ?_|refine SW.reg ?_|refine SO.nil ?_|refine SO.a rfl ?_
 refine SO.build rfl rfl rfl (fun K=>rfl) ?_
 refine SO.box rfl rfl rfl (by simp) (fun h2 hm hE2=>?_)
 have hc2:hb h2 n=some (.cell (xC x) 56 false):=by rw [hE2.same n (by omega)];exact hc
 repeat' first|refine SW.a rfl ?_|refine SW.reg ?_|refine SO.nil ?_|refine SO.a rfl ?_
 refine SO.loadVA rfl rfl rfl hc2 (xC_length x) ?_
 refine SO.callG rfl rfl rfl (add51 x 12 (m:=n+1) (c:=0) (lv:=1) (hx.ext (hE.trans ⟨by omega,fun a ha=>hE2.same a (by omega)⟩)) hf hm (by omega) (by omega) (by omega)) ?_
 rintro _ h3 n3 ⟨hm3,hn3,hk3⟩
 have hE3:Gr h n h3 n3:=⟨by omega,fun a ha=>by rw [hk3 a (by omega) (by omega),hE2.same a (by omega),hE.same a ha]⟩
 have hc3:hb h3 n=some (.cell (xC x) 56 false):=by rw [hk3 n (by omega) (by omega)];exact hc2
 repeat' first|refine SO.loadV rfl rfl rfl hm3 rfl ?_|refine SW.a rfl ?_|refine SW.reg ?_|refine SO.nil ?_|refine SO.a rfl ?_
 refine SO.loadVA rfl rfl rfl hc3 (xC_length x) ?_
 refine SO.callG rfl rfl rfl (shape52 x 12 (hx.ext hE3) hf (by omega)) ?_
 rintro _ h4 n4 ⟨rfl,hE4⟩
 repeat' first|refine SO.nil ?_|refine SO.a rfl ?_
 exact SW.ret code40 ⟨_,rfl,hq _ _ _ ⟨rfl,hE3.trans hE4⟩⟩
set_option maxRecDepth 100000
set_option maxHeartbeats 16000000
theorem Still.loadVA {R:List (Path × AV)} {rc:List COp} {h:Hp} {X:CX} {p:Path} {a m:Nat} {us:List AV} {e:TypeId} {ro:Bool} {g:Option (Path × Bool)} (hg:wantB R g=true) (hp:look R p=some (.agg us)) (hX:lookX R X=some (.ptr a 0)) (hb0:hb h a=some (.cell us e ro)) (hm:us.length=m) (hs:Still R rc h):Still R (⟨some p,g,[X],.loadA m⟩::rc) h:=by
 refine Still.cons (c:=⟨some p,g,[X],.loadA m⟩) hg rfl hp (one1 hX) (fun n K=>?_) hs
 have h2:=Pt.cell (o:=0) hb0 (Nat.lt_succ_self a) (Nat.zero_le _)
 have h3:=ex_loadA (n':=n) h2 (m:=m) (by simp [hm])
 rw [List.drop_zero,<- hm,List.take_length] at h3
 exact (hm ▸ h3) K
def mkR (s:SN):SnapR:=⟨.nils,.nils,s⟩
theorem map_mkR (ss:List SN):(ss.map mkR).map (·.s)=ss:=by simp [mkR,Function.comp_def]
def histS (bs:List UInt8):HR:=match partsS bs.length 0 bs with
 | .err a e=>.err a e
 | .ok l=>if checkE ((l.map (·.2)).map mkR)=0 then .ok (l.map (·.1)) (l.map (·.2)) else .err ((l.map (·.1)).getD (checkI ((l.map (·.2)).map mkR)) 0) (checkE ((l.map (·.2)).map mkR))
theorem enc_atom_len (bs:List UInt8):bs.length+2<=(SX.atom bs).enc.length:=by
 obtain⟨c,l,h,_⟩:=decN_head bs.length
 simp only [SX.enc,encA,h,List.length_append,List.length_cons]
 omega
theorem numX_atom {x:SX} {v:Int} (h:numX x=some v):∃ bs,x=.atom bs/\1<=bs.length:=by
 cases x with
 | list xs=>simp [numX] at h
 | atom bs =>
  refine⟨bs,rfl,?_⟩
  cases bs with
  | cons c l=>simp
  | nil=>simp [numX,numS,canonS,unsign] at h
theorem numX_len {x:SX} {v:Int} (h:numX x=some v):3<=x.enc.length:=by
 obtain⟨bs,rfl,hb⟩:=numX_atom h
 have:=enc_atom_len bs
 omega
theorem numsX_len:∀ {xs:List SX} {ps:List Int},numsX xs=some ps->3*ps.length<=(SX.encs xs).length
 | [],ps,h=>by simp only [numsX,Option.some.injEq] at h;subst h;simp
 | x::xs,ps,h=>by
  simp only [numsX] at h
  split at h
  ·rename_i n ns h1 h2
   simp only [Option.some.injEq] at h
   subst h
   have k1:=numX_len h1
   have k2:=numsX_len h2
   simp only [SX.encs,List.length_append,List.length_cons]
   omega
  ·simp at h
theorem fileX_len {x:SX} {f:PF} (h:fileX x=some f):f.data.length+f.path.length+1<=x.enc.length:=by
 unfold fileX at h
 split at h
 ·split at h
  ·simp only [Option.some.injEq] at h
   subst h
   rename_i p t m d _ _ _ _ _ _
   have h1:=enc_atom_len p
   have h2:=enc_atom_len d
   simp only [SX.enc,SX.encs,List.length_append,List.length_cons,List.length_nil] at h1 h2 ⊢
   omega
  ·simp at h
 ·simp at h
theorem filesX_len:∀ {xs:List SX} {fs:List PF},filesX xs=some fs->fs.length<=(SX.encs xs).length/\bulk fs<=(SX.encs xs).length
 | [],fs,h=>by simp only [filesX,Option.some.injEq] at h;subst h;simp [bulk]
 | x::xs,fs,h=>by
  simp only [filesX] at h
  split at h
  ·rename_i f fs' h1 h2
   simp only [Option.some.injEq] at h
   subst h
   have k1:=fileX_len h1
   obtain⟨k2,k3⟩:=filesX_len h2
   simp only [SX.encs,List.length_append,List.length_cons,bulk,List.map_cons,List.sum_cons] at k3 ⊢
   constructor<;>omega
  ·simp at h
theorem snapX_len {x:SX} {s:SN} (h:snapX x=some s):3*s.parents.length<=x.enc.length/\s.author.length<=x.enc.length/\s.message.length<=x.enc.length/\s.files.length<=x.enc.length/\bulk s.files<=x.enc.length:=by
 unfold snapX at h
 split at h
 ·split at h
  ·rename_i ps a m t fs _ _ _ _ _ _ h1 h2 h3
   simp only [Option.some.injEq] at h
   subst h
   have k1:=numsX_len h1
   obtain⟨k2,k3⟩:=filesX_len h3
   have h4:=enc_atom_len a
   have h5:=enc_atom_len m
   simp only [SX.enc,SX.encs,List.length_append,List.length_cons,List.length_nil] at h4 h5 ⊢
   refine⟨by omega,by omega,by omega,by omega,by omega⟩
  ·simp at h
 ·simp at h
theorem SNok.of {x:SX} {s:SN} (h:snapX x=some s) (hl:x.enc.length<=100000):SNok s:=by
 obtain⟨h1,h2,h3,h4,h5⟩:=snapX_len h
 exact⟨by omega,by omega,by omega,by omega,by omega⟩
def preP (l:List (Nat × SN)):PR->PR
 | .ok l'=>.ok (l++l')
 | .err a e=>.err a e
theorem preP_app (a b:List (Nat × SN)) (r:PR):preP (a++b) r=preP a (preP b r):=by
 cases r<;>simp [preP]
theorem partsS_nil (k p:Nat):partsS k p []=.ok []:=by cases k<;>rfl
theorem partsS_step {k p left:Nat} {l rest:List UInt8} {x:SX} {s:SN} (hl:l≠[]) (h1:readS 12 l 20000=.ok x rest left) (h2:snapX x=some s):partsS (k+1) p l=preP [(p,s)] (partsS k (p+(l.length - rest.length)) rest):=by
 cases l with
 | nil=>exact absurd rfl hl
 | cons c r =>
  rw [partsS,h1]
  dsimp only
  rw [h2]
  dsimp only
  cases partsS k (p+((c::r).length - rest.length)) rest<;>rfl
theorem partsS_err {k p:Nat} {l:List UInt8} {e:Int} (hl:l≠[]) (h1:readS 12 l 20000=.err e):partsS (k+1) p l=.err p e:=by
 cases l with
 | nil=>exact absurd rfl hl
 | cons c r=>rw [partsS,h1]
theorem partsS_bad {k p left:Nat} {l rest:List UInt8} {x:SX} (hl:l≠[]) (h1:readS 12 l 20000=.ok x rest left) (h2:snapX x=none):partsS (k+1) p l=.err p 3:=by
 cases l with
 | nil=>exact absurd rfl hl
 | cons c r=>rw [partsS,h1];dsimp only;rw [h2]
theorem lenS_err:∀ (l:List UInt8) (b:Bool) (m:Nat) (e:Int),lenS b m l=.err e->e≠0
 | [],b,m,e,h=>by simp only [lenS,RN.err.injEq] at h;omega
 | c::r,b,m,e,h=>by
  simp only [lenS] at h
  split at h
  ·simp at h
  ·split at h
   ·simp only [RN.err.injEq] at h;omega
   ·split at h
    ·simp only [RN.err.injEq] at h;omega
    ·exact lenS_err r _ _ _ h
theorem atomS_err {l:List UInt8} {left:Nat} {e:Int} (h:atomS l left=.err e):e≠0:=by
 unfold atomS at h
 split at h
 ·rename_i e' he
  simp only [RX.err.injEq] at h
  rw [<- h];exact lenS_err _ _ _ _ he
 ·split at h
  ·simp only [RX.err.injEq] at h;omega
  ·simp at h
theorem listS_err {f:List UInt8->Nat->RX} (hf:∀ l left e,f l left=.err e->e≠0):∀ (k:Nat) (l:List UInt8) (left:Nat) (e:Int),listS f k l left=.err e->e≠0
 | k,[],left,e,h=>by cases k<;>simp only [listS,RL.err.injEq] at h<;>omega
 | 0,c::r,left,e,h=>by simp only [listS,RL.err.injEq] at h;omega
 | k+1,c::r,left,e,h=>by
  simp only [listS] at h
  split at h
  ·simp at h
  ·split at h
   ·rename_i e' h1
    simp only [RL.err.injEq] at h
    rw [<- h];exact hf _ _ _ h1
   ·split at h
    ·rename_i e' h2
     simp only [RL.err.injEq] at h
     rw [<- h];exact listS_err hf k _ _ _ h2
    ·simp at h
theorem readS_err:∀ (d:Nat) (l:List UInt8) (left:Nat) (e:Int),readS d l left=.err e->e≠0
 | d,[],left,e,h=>by cases d<;>simp only [readS,RX.err.injEq] at h<;>omega
 | 0,c::r,left,e,h=>by simp only [readS,RX.err.injEq] at h;omega
 | d+1,c::r,left,e,h=>by
  simp only [readS] at h
  split at h
  ·simp only [RX.err.injEq] at h;omega
  ·split at h
   ·split at h
    ·rename_i e' h1
     simp only [RX.err.injEq] at h
     rw [<- h];exact listS_err (readS_err d) _ _ _ _ h1
    ·simp at h
   ·exact atomS_err h
theorem parts_sz:∀ (k at_:Nat) (l:List UInt8) (ps:List (Nat × SN)),partsS k at_ l=.ok ps->∀ p ∈ ps,at_<=p.1/\p.1 < at_+l.length/\3*p.2.parents.length<=l.length/\p.2.author.length<=l.length/\p.2.message.length<=l.length/\bulk p.2.files<=l.length
 | k,at_,[],ps,h,p,hp=>by
  have:ps=[]:=by cases k<;>simp only [partsS,PR.ok.injEq] at h<;>exact h.symm
  subst this;simp at hp
 | 0,at_,c::r,ps,h,p,hp=>by simp [partsS] at h
 | k+1,at_,c::r,ps,h,p,hp=>by
  simp only [partsS] at h
  split at h
  ·simp at h
  ·rename_i x rest left hr
   split at h
   ·simp at h
   ·rename_i s hs
    split at h
    ·simp at h
    ·rename_i l hl
     simp only [PR.ok.injEq] at h
     subst h
     have h2:=congrArg List.length (readS_inv _ _ _ _ _ _ hr).1
     rw [List.length_append] at h2
     obtain⟨n1,n2,n3,_,n5⟩:=snapX_len hs
     have hpos:1<=(c::r).length:=by simp
     rcases List.mem_cons.1 hp with rfl|hp
     ·refine⟨Nat.le_refl _,by show at_ < _;omega,by show 3*s.parents.length<=_;omega,by show s.author.length<=_;omega,by show s.message.length<=_;omega,by show bulk s.files<=_;omega⟩
     ·obtain⟨m1,m2,m3,m4,m5,m6⟩:=parts_sz k _ rest l hl p hp
      refine⟨by omega,by omega,by omega,by omega,by omega,by omega⟩
theorem hist_parents {bs:List UInt8} (hl:bs.length<=3000):∀ L,partsS bs.length 0 bs=.ok L->∀ p ∈ L,p.2.parents.length<=1000:=fun L hL p hp=>by
 have:=parts_sz _ _ _ _ hL p hp
 omega
end Go.Ev
