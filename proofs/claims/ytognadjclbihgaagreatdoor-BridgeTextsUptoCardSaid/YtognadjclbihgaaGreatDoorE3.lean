/- The abstract interpreter: the operations that make memory. -/
import Derived.Test.YtognadjclbihgaaGreatDoorE2
import Derived.Laws.BitsLemmas
import Derived.Lib.UnsafeStr
import Derived.Lib.Bytealg
import Derived.Orders
set_option linter.all false
namespace Go.Ev
def MakeTo (X:Ctx) (o:Oper) (oc:OC) (xs:List Operand) (vs:List AV) (b:AB) (val:Nat->AV):Prop :=
 (∀ h n K,execV oc vs h n K=newK b h n fun a h n=>K.v (val a) h n)/\(∀ vs e f z,b≠.row vs e f z)/\(∀ lo la,b≠.fam lo la) /\
  ∀ (φ:Phi) (ρ:Operand->Value) (w:World),(∀ v,ρ (.const v)=v)->VRels φ vs (xs.map ρ)->X.w0.heap.size<=w.heap.size->∃ ob sz c,(execOp ρ o).run X.P w=.ok (.value c) { w with heap:=w.heap.push ob } /\
   ∀ (φ':Phi) (h:Hp) (a:Nat),φ.le φ'->φ' a=some ⟨w.heap.size,0,sz⟩->VRel φ' (val a) c/\BRel X φ' h a b ⟨w.heap.size,0,sz⟩ ob
section
variable {X:Ctx} {o:Oper} {vs:List AV} {h:Hp} {n:Nat} {K:KS}
theorem cell_new {φ φ':Phi} {cs:List AV} {cc:Array Value} {e:TypeId} {b:Nat} (h:Hp) (a:Nat) (hr:VRels φ cs cc.toList) (hs:cs.all AV.scalar=true) (hH:X.w0.heap.size<=b) (hle:φ.le φ'):BRel X φ' h a (.cell cs e false) ⟨b,0,cc.size⟩ (.cells cc e):=by
 refine⟨cc,(0,0),rfl,rfl,rfl,by have:=hr.length;simpa using this,fun i v hv=>?_,fun _=>⟨rfl,hH⟩⟩
 obtain⟨c,hc,hvc⟩:=hr.get hv
 rw [List.all_eq_true] at hs
 refine⟨hs v (List.mem_of_getElem? hv),c,by simpa using hc,VRel.mono hle _ _ hvc⟩
theorem alloc_make {e:TypeId} {z:AV} (hop:o.op=.alloc e) (hz:TI.zero X.P e=some z) (hn:z.noTup=true) (hx:execV (.alloc z.cells e) vs h n K=true) :
  MakeTo X o (.alloc z.cells e) [] vs (.cell z.cells e false) (fun a=>.ptr a 0):=by
 refine⟨fun h n K=>rfl,by simp,by simp,fun φ ρ w _ hr hH=>?_⟩
 obtain⟨cz,hcz,hrz⟩:=zero_rel (P:=X.P) (φ:=φ) w hz
 refine⟨.cells cz.cells e,cz.cells.size,.pointer (some ⟨w.heap.size,0,none⟩),?_,fun φ' h a hle ha=>⟨by simp only [VRel];exact⟨_,ha,rfl⟩,cell_new h a hrz.cells (AV.cells_scalar hrz (noTup_ne hn)) hH hle⟩⟩
 simp [execOp,hop,Instr.alloc,hcz,newVar,newRow]
theorem box_make {e:TypeId} {x:Operand} (hop:o.op=.box e x) (hx:execV (.box e) vs h n K=true):∃ b val,MakeTo X o (.box e) [x] vs b val:=by
 obtain⟨v,rfl,hx1⟩:=un1_iff.1 (hx:un1 _ vs=true)
 obtain⟨ht,hx2⟩:=cellsK_iff.1 hx1
 refine⟨.cell v.cells e false,fun a=>.ptr a 0,fun h n K=>?_,by simp,by simp,fun φ ρ w _ hr hH=>?_⟩
 ·show cellsK v (fun cs=>newK (.cell cs e false) h n fun a h n=>K.v (.ptr a 0) h n)=_
  rw [Bool.eq_iff_iff,cellsK_iff];exact⟨fun h=>h.2,fun h=>⟨ht,h⟩⟩
 ·have r:=rel1 hr
  refine⟨.cells (ρ x).cells e,(ρ x).cells.size,.pointer (some ⟨w.heap.size,0,none⟩),?_,fun φ' h a hle ha=>⟨by simp only [VRel];exact⟨_,ha,rfl⟩,cell_new h a r.cells (AV.cells_scalar r ht) hH hle⟩⟩
  simp [execOp,hop,Instr.box,newVar,newRow]
theorem mkMap_make {t:TypeId} (hop:o.op=.makeMap t none) (hx:execV .mkMap vs h n K=true):MakeTo X o .mkMap [] vs (.map [] 0) (fun a=>.map a):=by
 refine⟨fun h n K=>rfl,by simp,by simp,fun φ ρ w _ hr hH=>⟨.map #[] 0,0,.map (some w.heap.size),?_,fun φ' h a hle ha=>⟨by simp only [VRel];exact⟨_,ha,rfl⟩,#[],rfl,rfl,hH⟩⟩⟩
 simp [execOp,hop,Instr.makeMap]
theorem reps_eq (z:List AV) (n:Nat):reps z n=rep z n:=by
 induction n with
 | zero=>rfl
 | succ n ih=>simp [reps,rep,ih]
theorem rep_rel {φ:Phi} {z:List AV} {c:List Value} (h:VRels φ z c):∀ n,VRels φ (rep z n) (rep c n)
 | 0=>by simp [rep,VRels]
 | n+1=>h.append (rep_rel h n)
theorem rep_scalar {z:List AV} (h:z.all AV.scalar=true):∀ n,(rep z n).all AV.scalar=true
 | 0=>rfl
 | n+1=>by simp only [rep,List.all_append,h,rep_scalar h n,Bool.and_self]
theorem rep_length {α:Type} (z:List α):∀ n,(rep z n).length=n*z.length
 | 0=>by simp [rep]
 | n+1=>by simp only [rep,List.length_append,rep_length z n];rw [Nat.add_mul,Nat.one_mul,Nat.add_comm]
theorem rep_get {α:Type} (z:List α) (hz:0 < z.length):∀ (n i:Nat),i < n*z.length->(rep z n)[i]?=z[i % z.length]?
 | 0,i,h=>by omega
 | n+1,i,h=>by
  simp only [rep]
  by_cases hi:i < z.length
  ·rw [List.getElem?_append_left hi,Nat.mod_eq_of_lt hi]
  ·rw [List.getElem?_append_right (by omega),rep_get z hz n (i - z.length) (by rw [Nat.add_mul,Nat.one_mul] at h;omega)]
   congr 1
   conv=>rhs;rw [show i=(i - z.length)+z.length by omega]
   simp
theorem zeros_list (z:Array Value) (n:Nat) (hz:0 < z.size):((Array.range (n*z.size)).map (fun i=>z[i % z.size]!)).toList=rep z.toList n:=by
 apply List.ext_getElem?
 intro i
 by_cases hi:i < n*z.size
 ·rw [rep_get z.toList (by simpa using hz) n i (by simpa using hi)]
  have hm:i % z.size < z.size:=Nat.mod_lt _ hz
  simp [hi,hm]
 ·rw [List.getElem?_eq_none (by simp;omega),List.getElem?_eq_none (by rw [rep_length];simp;omega)]
theorem bslice_make {t e:TypeId} {m s:Nat} {ps:Array (Nat × Operand)} {z:AV} (hop:o.op=.buildSlice t m ps) (ht:X.P.underlying t=some (.slice e)) (hs:TI.size X.P e=some s) (hz:TI.zero X.P e=some z) (h1:z.cells.length=s) (h2:0 < s) (h3:m*s<=16777216) (hn:z.noTup=true)
  (hx:execV (.bslice (reps z.cells m) e m (placesA s ps.toList)) vs h n K=true):∃ b val,MakeTo X o (.bslice (reps z.cells m) e m (placesA s ps.toList)) (ps.toList.map (·.2)) vs b val:=by
 obtain⟨out,g1,g2,g3⟩:=fillK_val (hx:fillK (placesA s ps.toList) vs (reps z.cells m) _=true)
 refine⟨.cell out e false,fun a=>.slc a 0 m m,fun h n K=>g1 _,by simp,by simp,fun φ ρ w _ hr hH=>?_⟩
 obtain⟨cz,hcz,hrz⟩:=zero_rel (P:=X.P) (φ:=φ) w hz
 obtain⟨hl,hat⟩:=placesA_at (s:=s) (ps:=ps.toList)
 obtain⟨i',hi,hs'⟩:∃ i',X.P.info? e=some i'/\i'.size=s:=by simpa [TI.size] using hs
 have hcl:=cells_len hrz
 have hczs:cz.cells.size=s:=by omega
 have hzl:=zeros_list cz.cells m (by omega)
 rw [hczs] at hzl
 obtain⟨r,hr1,hr2,hr3⟩:=g3 φ _ ((Array.range (m*s)).map (fun i=>cz.cells[i % s]!)) (fun i=>some (i*s,s)) (ps.toList.map (·.1)) hr (by rw [hzl,reps_eq];exact rep_rel hrz.cells m) (by rw [reps_eq];exact rep_scalar (AV.cells_scalar hrz (noTup_ne hn)) m)
  (by simp [hl]) (fun j i q e1 e2=>by rw [hat j i q e1 e2])
 refine⟨.cells r e,r.size,.slice (some ⟨w.heap.size,0,none⟩) m m,?_,fun φ' h a hle ha=>⟨by simp only [VRel];exact⟨_,ha,rfl,Nat.le_refl _⟩,cell_new h a hr2 hr3 hH hle⟩⟩
 rw [<- zip_map] at hr1
 have hund:(underlying t).run X.P w=.ok (.slice e) w:=by simp [underlying,ht]
 have hsz:(sizeOf e).run X.P w=.ok s w:=by simp [sizeOf,typeInfo,hi,hs']
 have hlim:¬ (m*s > 2 ^ 24):=by omega
 have hb:(Instr.buildSlice t m (ps.map fun (x:Nat × Operand)=>(x.1,ρ x.2))).run X.P w=.ok (.slice (some ⟨w.heap.size,0,none⟩) m m) { w with heap:=w.heap.push (.cells r e) }:=by
  unfold Instr.buildSlice
  rw [Sem.run_bind,hund,Result.andThen_ok]
  simp only []
  rw [Sem.run_bind,hsz,Result.andThen_ok]
  by_cases hm:m*s=0
  ·have hr1':Instr.fill (fun i=>some (i*s,s)) ((Array.range 0).map (fun i=>(#[]:Array Value)[i % 0]!)) (ps.map fun (x:Nat × Operand)=>(x.1,ρ x.2)).toList=some r:=by
    rw [<- hr1,hm]
    have e0:∀ f:Nat->Value,(Array.range 0).map f=#[]:=fun f=>by simp
    rw [e0,e0]
   simp only [hm,show ¬ (0 > 2 ^ 24) by omega,if_false,if_true,Sem.run_bind,Sem.run_pure,Result.andThen_ok]
   simp at hr1'
   simp [hr1',newRow]
  ·have hr1':Instr.fill (fun i=>some (i*s,s)) ((Array.range (m*s)).map (fun i=>cz.cells[i % cz.cells.size]!)) (ps.map fun (x:Nat × Operand)=>(x.1,ρ x.2)).toList=some r:=by
    rw [<- hr1,hczs]
   simp only [hlim,hm,if_false,Sem.run_bind,Sem.run_pure,Result.andThen_ok,hcz,hr1']
   simp [newRow]
 have:execOp ρ o=(do pure (Next.value (<- Instr.buildSlice t m (ps.map fun (x:Nat × Operand)=>(x.1,ρ x.2))))):=by simp only [execOp,hop]
 rw [this,Sem.run_bind,hb]
 rfl
theorem mkSlice_make {t e:TypeId} {l c:Operand} {z:AV} {i:TypeInfo} (hop:o.op=.makeSlice t l c) (ht:X.P.underlying t=some (.slice e)) (hz:TI.zero X.P e=some z) (hi:X.P.info? e=some i) (h1:0 < i.size) (h2:z.cells.length=i.size) (hn:z.noTup=true)
  (hx:execV (.mkSlice e z.cells i.bytes) vs h n K=true):∃ b val,MakeTo X o (.mkSlice e z.cells i.bytes) [l,c] vs b val:=by
 obtain⟨lv,cv,rfl,hx1⟩:=un2_iff.1 (hx:un2 _ vs=true)
 obtain⟨k1,ln,rfl,hx2⟩:=ifNat_iff.1 hx1
 obtain⟨k2,cn,rfl,hx3⟩:=ifNat_iff.1 hx2
 obtain⟨hlc,hx4⟩:=guardB_iff.1 hx3
 obtain⟨hbd,hx5⟩:=guardB_iff.1 hx4
 have hlc':ln<=cn:=Nat.le_of_ble_eq_true hlc
 have hbd':cn*i.bytes<=1073741824:=Nat.le_of_ble_eq_true hbd
 obtain⟨hcn,hx6⟩:=guardB_iff.1 hx5
 have hcn':cn<=1073741824:=Nat.le_of_ble_eq_true hcn
 refine⟨.cell (rep z.cells cn) e false,fun a=>.slc a 0 ln cn,fun h n K=>?_,by simp,by simp,fun φ ρ w _ hr hH=>?_⟩
 ·show guardB (Nat.ble ln cn) (guardB (Nat.ble (Nat.mul cn i.bytes) 1073741824) (guardB (Nat.ble cn 1073741824) (repK z.cells cn fun cs=>newK (.cell cs e false) h n fun a h n=>K.v (.slc a 0 ln cn) h n)))=_
  rw [hlc,hbd,hcn,repK_eq];rfl
 ·obtain⟨r1,r2⟩:=rel2 hr
  rw [int_rel] at r1 r2
  obtain⟨cz,hcz,hrz⟩:=zero_rel (P:=X.P) (φ:=φ) w hz
  have hcl:=cells_len hrz
  have hczs:cz.cells.size=i.size:=by omega
  have hzl:=zeros_list cz.cells cn (by omega)
  rw [hczs] at hzl
  refine⟨.cells (rep cz.cells.toList cn).toArray e,(rep cz.cells.toList cn).toArray.size,.slice (some ⟨w.heap.size,0,none⟩) ln cn,?_,fun φ' h a hle ha=>⟨by simp only [VRel];exact⟨_,ha,rfl,hlc'⟩,cell_new h a (by simpa using rep_rel hrz.cells cn) (rep_scalar (AV.cells_scalar hrz (noTup_ne hn)) cn) hH hle⟩⟩
  have hund:(underlying t).run X.P w=.ok (.slice e) w:=by simp [underlying,ht]
  have hti:(typeInfo e).run X.P w=.ok i w:=by simp [typeInfo,hi]
  have hsz:(sizeOf e).run X.P w=.ok i.size w:=by simp [sizeOf,typeInfo,hi]
  have wr:∀ m:Nat,m<=1073741824->IntKind.i64.wrap (m:Int)=m:=fun m hm=>by
   rw [IntKind.wrap_i64];omega
  have wl:=wr ln (by omega)
  have wc:=wr cn hcn'
  have hlay:(newRow e ((Array.range (cn*i.size)).map (fun i'=>cz.cells[i' % cz.cells.size]!))).run X.P w=.ok ⟨w.heap.size,0,none⟩ { w with heap:=w.heap.push (.cells (rep cz.cells.toList cn).toArray e) }:=by
   have:(Array.range (cn*i.size)).map (fun i'=>cz.cells[i' % cz.cells.size]!)=(rep cz.cells.toList cn).toArray:=by
    apply Array.ext'
    rw [hczs,hzl]
   rw [this]
   simp [newRow]
  have hbytes:¬ ((i.bytes:Int)*(cn:Int) > 2 ^ 48):=by
   have:(i.bytes*cn:Nat)<=1073741824:=by rw [Nat.mul_comm];exact hbd'
   have h':((i.bytes*cn:Nat):Int)<=1073741824:=by omega
   rw [Int.natCast_mul] at h'
   omega
  have hb:(Instr.makeSlice t (ρ l) (ρ c)).run X.P w=.ok (.slice (some ⟨w.heap.size,0,none⟩) ln cn) { w with heap:=w.heap.push (.cells (rep cz.cells.toList cn).toArray e) }:=by
   unfold Instr.makeSlice
   rw [r1,r2]
   simp only [Sem.run_bind,hund,Result.andThen_ok,asInt,asIntOf,Sem.run_pure,hti,wl,wc]
   have c1:((decide ((cn:Int) < 0)||decide ((i.bytes:Int)*(cn:Int) > 2 ^ 48))||decide ((ln:Int) < 0)||decide ((ln:Int) >(cn:Int)))=false:=by
    simp only [Bool.or_eq_false_iff,decide_eq_false_iff_not]
    exact⟨⟨⟨by omega,hbytes⟩,by omega⟩,by omega⟩
   have n1:¬ (cn:Int) < 0:=by omega
   have n2:¬ (281474976710656 <(i.bytes:Int)*(cn:Int)):=by have:=hbytes;omega
   have n3:¬ (ln:Int) < 0:=by omega
   have n4:¬ (cn:Int) <(ln:Int):=by omega
   by_cases hz0:cn*i.size=0
   ·have hlay':(newRow e ((Array.range (cn*i.size)).map (fun i'=>(#[]:Array Value)[i' % (#[]:Array Value).size]!))).run X.P w=.ok ⟨w.heap.size,0,none⟩ { w with heap:=w.heap.push (.cells (rep cz.cells.toList cn).toArray e) }:=by
     rw [<- hlay,hz0]
     have e0:∀ f:Nat->Value,(Array.range 0).map f=#[]:=fun f=>by simp
     rw [e0,e0]
    have e0:∀ f:Nat->Value,(Array.range 0).map f=#[]:=fun f=>by simp
    rw [hz0,e0] at hlay'
    simp [n1,n2,n3,n4]
    rw [hsz]
    simp only [Result.andThen_ok,hz0,if_true,e0,hlay']
    rfl
   ·simp [n1,n2,n3,n4,hsz,hz0,hcz]
    rw [hlay]
    rfl
  have:execOp ρ o=(do pure (Next.value (<- Instr.makeSlice t (ρ l) (ρ c)))):=by simp only [execOp,hop]
  rw [this,Sem.run_bind,hb]
  rfl
theorem make_sim {oc:OC} {xs:List Operand} (hc:compOp X.P X.N o=some (oc,xs)) (hq:quiet oc=.make) (hx:execV oc vs h n K=true):∃ b val,MakeTo X o oc xs vs b val:=by
 have his:=compOp_is hc
 generalize hop:o.op=op at his
 cases his<;>simp [quiet] at hq
 case alloc hz hn=>exact⟨_,_,alloc_make hop hz hn hx⟩
 case box=>exact box_make hop hx
 case buildSlice ht hs hz h1 h2 h3 hn=>exact bslice_make hop ht hs hz h1 h2 h3 hn hx
 case mkMap=>exact⟨_,_,mkMap_make hop hx⟩
 case mkSlice ht hz hi h1 h2 hn=>exact mkSlice_make hop ht hz hi h1 h2 hn hx
end
def Out (X:Ctx) (o:Oper) (K:KS) (φ:Phi) (h:Hp) (n:Nat) (w:World) (ρ:Operand->Value):Prop :=
 ∃ v h' n' φ' w' c,K.v v h' n'=true/\((execOp ρ o).run X.P w=.ok (.value c) w'\/((execOp ρ o).run X.P w=.ok .skip w'/\c=undef))/\VRel φ' v c/\W X φ' h' n' w'/\Grow φ h n φ' h' n'
section
variable {X:Ctx} {o:Oper} {vs:List AV} {h:Hp} {n:Nat} {K:KS} {φ:Phi} {w:World} {ρ:Operand->Value}
theorem undef_rel {φ:Phi}:VRel φ (.tup []) undef:=by simp only [VRel];exact⟨#[],rfl,by simp [VRels]⟩
theorem CRel.over {φ:Phi} {vs new:List AV} {off q:Nat} {c:Array Value} {cn:List Value} (r:CRel φ vs off c) (hn:VRels φ new cn) (hs:new.all AV.scalar=true) (hl:q+new.length<=vs.length) (hc:off+vs.length<=c.size) :
  CRel φ (splice q new vs) off (overC c (off+q) cn):=by
 intro i v hv
 rw [splice_get hl] at hv
 have hcl:=hn.length
 have hget:(overC c (off+q) cn)[off+i]?=(splice (off+q) cn c.toList)[off+i]?:=by simp [overC]
 rw [hget,splice_get (by simp;omega)]
 by_cases h1:q<=i/\i < q+new.length
 ·rw [if_pos h1] at hv
  obtain⟨x,h3,h4⟩:=hn.get hv
  rw [List.all_eq_true] at hs
  exact⟨hs v (List.mem_of_getElem? hv),x,by rw [if_pos (by omega),show off+i - (off+q)=i - q by omega];exact h3,h4⟩
 ·rw [if_neg h1] at hv
  obtain⟨h2',x,h3,h4⟩:=r i v hv
  exact⟨h2',x,by rw [if_neg (by omega)];simpa using h3,h4⟩
theorem VRels.oneCells {φ:Phi} {new:List AV} {cn:List Value} (hn:VRels φ new cn) (hs:new.all AV.scalar=true):∀ v ∈ cn,v.oneCell'=true:=by
 intro v hv
 obtain⟨i,hi,e⟩:=List.getElem_of_mem hv
 have hl:=hn.length
 obtain⟨c,h1,h2⟩:=hn.get (i:=i) (v:=new[i]) (by simp)
 rw [List.getElem?_eq_getElem hi] at h1
 simp at h1
 rw [List.all_eq_true] at hs
 rw [<- e,h1]
 exact VRel.oneCell h2 (hs _ (by simp))
theorem storeN_out {a q:Nat} {p:Pl} {new:List AV} {cn:List Value} {k:Hp->Bool} (hw:W X φ h n w) (ha:φ a=some p) (hn:VRels φ new cn) (hs:new.all AV.scalar=true) (hk:storeN h a q new k=true) :
  ∃ h' w',k h'=true/\(storeCells ⟨p.blk,p.off+q,none⟩ cn).run X.P w=.ok () w'/\W X φ h' n w'/\Grow φ h n φ h' n:=by
 obtain⟨b,hb0,hk1⟩:=blkK_iff.1 (hk:blkK h a _=true)
 have hcl:=hn.length
 obtain⟨_,b',ob,hb1,hob,hbr⟩:=hw.dom a p ha
 rw [hb0] at hb1;simp at hb1;subst hb1
 rcases ifCells_iff.1 hk1 with ⟨vs,e,ro,rfl,hk2⟩ |⟨vs,e,f,z,rfl,hk2⟩
 ·cases ro with
  | true=>exact Bool.noConfusion (hk2:false=true)
  | false =>
   obtain⟨hl,hk3⟩:=(spliceK_iff _ _ _ _).1 hk2
   rw [putK_eq] at hk3
   obtain⟨c,fr,rfl,h1,h2,h3,h4,h5⟩:=hbr
   obtain⟨rfl,hH⟩:=h5 rfl
   have hrun:=storeCells_run (P:=X.P) cn w p.blk (p.off+q) 0 c e 0 0 hob (by omega) (hn.oneCells hs) (fun j _ _=>by omega)
   obtain⟨g1,g2⟩:=hw.turn (o':=.cells (overC c (p.off+q+0) cn) e (0,0)) ha hb0 (by simp) (b':=.cell (splice q new vs) e false) (by simp) hH
    ⟨overC c (p.off+q) cn,(0,0),rfl,by rw [<- h1];simp only [overC,List.size_toArray];rw [splice_length (by simp;omega)];simp,h2,by rw [splice_length hl];exact h3,by have:=h4.over hn hs hl (by omega);rw [h2];exact this,fun _=>⟨rfl,hH⟩⟩
   exact⟨_,_,hk3,hrun,g1,g2⟩
 ·obtain⟨g,hg,hk3⟩:=blkK_iff.1 hk2
  obtain⟨lo,la,rfl,hk4⟩:=ifFam_iff.1 hk3
  obtain⟨hla,hk5⟩:=guardB_iff.1 hk4
  obtain⟨hlo,hk5'⟩:=guardB_iff.1 hk5
  obtain⟨hz,hk6⟩:=guardB_iff.1 hk5'
  obtain rfl:la=a:=Nat.eq_of_beq_eq_true hla
  have hz':z<=q:=Nat.le_of_ble_eq_true hz
  obtain⟨hl,hk7⟩:=(spliceK_iff _ _ _ _).1 hk6
  rw [putK_eq,putK_eq] at hk7
  obtain⟨c,l',u',rfl,h1,h2,h3,h4,hH⟩:=hbr
  have hfz:=h4 ⟨lo,hg⟩
  have hcr:=h3 ⟨lo,la,hg,Nat.le_of_ble_eq_true hlo⟩
  have hrun:=storeCells_run (P:=X.P) cn w p.blk (p.off+q) 0 c e l' u' hob (by omega) (hn.oneCells hs) (fun j h1 h2=>hfz.1 j (by omega) (by omega))
  obtain⟨g1,g2⟩:=hw.turnRow (c':=overC c (p.off+q+0) cn) (l':=l') (u':=u') (z':=z) ha hb0 hg (splice_length hl)
   (by rw [<- h1];simp only [overC,List.size_toArray];rw [splice_length (by simp;omega)];simp) (hcr.over hn hs hl (by omega)) hfz la (.inl rfl)
  exact⟨_,_,hk7,hrun,g1,g2⟩
theorem store_eff {t:TypeId} {x y:Operand} {s:Nat} (hop:o.op=.store t x y) (hs:TI.size X.P t=some s) (hx:execV (.store s) vs h n K=true) (hw:W X φ h n w) (hr:VRels φ vs ([x,y].map ρ)):Out X o K φ h n w ρ:=by
 obtain⟨pv,v,rfl,hx1⟩:=un2_iff.1 (hx:un2 _ vs=true)
 obtain⟨a,q,rfl,hx2⟩:=ifPtr_iff.1 hx1
 obtain⟨ht,hx3⟩:=cellsK_iff.1 hx2
 rw [lenK_eq] at hx3
 obtain⟨hl,hx4⟩:=guardB_iff.1 hx3
 have hl':v.cells.length=s:=Nat.eq_of_beq_eq_true hl
 obtain⟨r1,r2⟩:=rel2 hr
 simp only [VRel] at r1
 obtain⟨p,ha,hpx⟩:=r1
 have hcl:=cells_len r2
 obtain⟨i',hi',hs'⟩:∃ i',X.P.info? t=some i'/\i'.size=s:=by simpa [TI.size] using hs
 obtain⟨h',w',hk,hrun,g1,g2⟩:=storeN_out hw ha r2.cells (AV.cells_scalar r2 ht) hx4
 refine⟨.tup [],h',n,φ,w',undef,hk,.inr ⟨?_,rfl⟩,undef_rel,g1,g2⟩
 have hsz:(ρ y).cells.size=i'.size:=by omega
 simp [execOp,hop,Instr.storeAt,storeVar,Instr.sureAddr,hpx,sizeOf,typeInfo,hi',hsz,hrun]
theorem hset_same (d i:Nat) (v:AB) (t:HT):hset d i v (hset d i v t)=hset d i v t:=by
 induction d generalizing i t with
 | zero=>rfl
 | succ d ih =>
  cases he:even i<;>cases t<;>simp [hset,he,ih]
theorem hput_same (a:Nat) (b:AB) (h:Hp):hput a b (hput a b h)=hput a b h:=by
 unfold hput
 by_cases h1:a < htop
 ·simp only [if_pos h1,hset_same]
 ·simp only [if_neg h1]
  congr 1
  funext x
  by_cases e:x=a<;>simp [Hp.fput,e]
theorem fresh_out {cs:List AV} {e:TypeId} {z:Nat} {c':Array Value} {l' u' d:Nat} {k:Nat->Hp->Nat->Bool} (hw:W X φ h n w) (hcr:CRel φ cs 0 c') (hl:cs.length<=c'.size) (hfz:FrzOk ⟨w.heap.size,0,c'.size⟩ z l' u')
  (hk:(newK (.fam (Nat.succ n) (Nat.succ n)) h n fun f h n=>newK (.row cs e f z) h n k)=true) :
  ∃ a h' n' φ',k a h' n'=true/\W X φ' h' n' { w with heap:=w.heap.push (.cells c' e (l',u')),drawn:=d }/\Grow φ h n φ' h' n'/\φ' a=some ⟨w.heap.size,0,c'.size⟩:=by
 obtain⟨hn,hk1⟩:=newK_iff.1 hk
 obtain⟨hn1,hk2⟩:=newK_iff.1 hk1
 obtain⟨g1,g2⟩:=hw.newFam hn (n+1) (n+1)
 have hf:hb (hput n (.fam (n+1) (n+1)) h) n=some (.fam (n+1) (n+1)):=by rw [hb_hput _ _ hn hn,if_pos rfl]
 have hle:=g1.le_put (Nat.le_refl (n+1)) ⟨w.heap.size,0,c'.size⟩
 have hnof:∀ a p vs e z,φ a=some p->hb (hput n (.fam (n+1) (n+1)) h) a≠some (.row vs e n z):=by
  intro a p vs e z ha hr
  obtain⟨lo,la,h1,h2,h3⟩:=hw.fam a p vs e n z ha (by rw [hb_hput _ _ hn trivial,if_neg (by have:=(hw.dom a p ha).1;omega)] at hr;exact hr)
  omega
 obtain⟨g3,g4⟩:=g1.newRow hn1 (f:=n) (cs:=cs) (e:=e) (z:=z) (p':=⟨w.heap.size,0,c'.size⟩) (c':=c') (l':=l') (u':=u') (w':={ w with heap:=w.heap.push (.cells c' e (l',u')),drawn:=d }) hf (by omega) (.inr hnof)
  (by simp) rfl (by simpa using hl) (by exact hcr.mono hle) hfz hw.size
  (fun x q hx _=>by simp only [];rw [push_get (hw.blk_lt hx)])
  (fun x q hx hq=>by have:=hw.blk_lt hx;simp at hq;omega)
  (fun b hb=>by have:=hw.size;simp only [];rw [push_get (by omega)])
  (by simp) rfl rfl rfl
 rw [hput_same] at g3 g4
 exact⟨_,_,_,_,hk2,g3,g2.trans g4,Phi.put_self _ _ _⟩
theorem freeze_heap {w:World} {b q m:Nat} {c:Array Value} {e:TypeId} {lo hi:Nat} (h:w.heap[b]?=some (.cells c e (lo,hi))) (hm:m≠0) :
  w.freeze ⟨b,q,none⟩ m={ w with heap:=w.heap.setIfInBounds b (.cells c e (if lo == hi then (q,q+m) else (min lo q,max hi (q+m)))) }:=by
 unfold World.freeze
 rw [if_neg hm]
 congr 1
 rw [Array.getElem?_eq_some_iff] at h
 obtain⟨hlt,h⟩:=h
 apply Array.ext
 ·simp
 ·intro i h1 h2
  simp only [Array.getElem_modify]
  split
  ·rename_i e'
   subst e'
   simp [h]
  ·rename_i e'
   rw [Array.getElem_setIfInBounds,if_neg e']
theorem markStringish_push {P:Program} (x:Array Value) (e:TypeId) (w:World):(markStringish ⟨w.heap.size,0,none⟩).run P { w with heap:=w.heap.push (.cells x e) }=.ok () { w with heap:=w.heap.push (.cells x e (x.size,x.size+1)) }:=by
 have hg:({ w with heap:=w.heap.push (.cells x e) }:World).heap[w.heap.size]?=some (.cells x e (0,0)):=by simp
 have:({ w with heap:=w.heap.push (.cells x e) }:World).shape? w.heap.size=some (e,x.size):=by simp [World.shape?]
 simp only [markStringish,Sem.run_bind,run_shape,this,Result.andThen_ok,run_freeze]
 rw [freeze_heap hg (by omega)]
 congr 2
 simp only [beq_self_eq_true,if_true]
 apply Array.ext
 ·simp
 ·intro i h1 h2
  simp at h2
  rw [Array.getElem_setIfInBounds (by simp;omega),Array.getElem_push,Array.getElem_push]
  split
  ·rw [dif_neg (by omega)]
  ·rename_i hne
   rw [dif_pos (by omega),dif_pos (by omega)]
theorem bytesK_val:∀ (l c:Nat) (k:List AV->Bool),bytesK l c k=k ((bytesOf l c).map fun b=>.int .u8 (b.toNat:Int)):=by
 intro l
 induction l with
 | zero=>intro c k;rfl
 | succ l ih =>
  intro c k
  show force (Nat.mod c 256) (fun b=>force (Nat.div c 256) fun c'=>bytesK l c' fun l=>k (.int .u8 (.ofNat b)::l))=_
  rw [force_eq,force_eq,ih]
  have:((UInt8.ofNat (c % 256)).toNat:Int)=Int.ofNat (Nat.mod c 256):=by
   rw [UInt8.toNat_ofNat']
   show ((c % 256 % 2 ^ 8:Nat):Int)=((c % 256:Nat):Int)
   congr 1;omega
  simp only [bytesOf,List.map_cons,this]
  rfl
theorem choose_cap {P:Program} (m old:Nat) (e:TypeId) (w:World):∃ cap,m<=cap/\(choose (.appendCap m old e)).run P w=.ok cap { w with drawn:=w.drawn+1 } :=
 ⟨(Question.appendCap m old e).cut (w.tape w.drawn (.appendCap m old e)),Nat.le_add_right _ _,by rw [run_choose];rfl⟩
theorem stringToBytes_run {P:Program} (e:TypeId) (s:ByteArray) (w:World):∃ cap,s.size<=cap /\
  (Conv.stringToBytes e s).run P w=.ok (.slice (some ⟨w.heap.size,0,none⟩) s.size cap) { w with heap:=w.heap.push (.cells ((s.data.map fun b=>.int .u8 b.toNat)++Array.replicate (cap - s.size) (.int .u8 0)) e (cap,cap+1)),drawn:=w.drawn+1 }:=by
 obtain⟨cap,hcap,hch⟩:=choose_cap (P:=P) s.size 0 e w
 refine⟨cap,hcap,?_⟩
 have hc's:((s.data.map fun (b:UInt8)=>(Value.int .u8 b.toNat))++Array.replicate (cap - s.size) (Value.int .u8 0)).size=cap:=by
  simp only [Array.size_append,Array.size_map,Array.size_replicate]
  have:s.data.size=s.size:=rfl
  omega
 unfold Conv.stringToBytes
 rw [Sem.run_bind,hch,Result.andThen_ok]
 generalize hc':(s.data.map fun (b:UInt8)=>(Value.int .u8 b.toNat))++Array.replicate (cap - s.size) (Value.int .u8 0)=c' at hc's
 simp only [hc']
 have hnr:(newRow e c').run P { w with drawn:=w.drawn+1 }=.ok ⟨w.heap.size,0,none⟩ { w with heap:=w.heap.push (.cells c' e),drawn:=w.drawn+1 }:=rfl
 have hms:=markStringish_push (P:=P) c' e { w with drawn:=w.drawn+1 }
 rw [hc's] at hms
 rw [Sem.run_bind,hnr,Result.andThen_ok,Sem.run_bind,hms,Result.andThen_ok]
 rfl
theorem convSB_eff {s t e:TypeId} {x:Operand} (hop:o.op=.convert s t x) (hs:X.P.underlying s=some .string) (ht:X.P.underlying t=some (.slice e)) (he:X.P.underlying e=some (.int .u8)) (hx:execV (.convSB e) vs h n K=true) (hw:W X φ h n w) (hr:VRels φ vs ([x].map ρ)):Out X o K φ h n w ρ:=by
 obtain⟨v,rfl,hx1⟩:=un1_iff.1 (hx:un1 _ vs=true)
 obtain⟨l,c,rfl,hx2⟩:=ifStr_iff.1 hx1
 rw [bytesK_val] at hx2
 have r:=rel1 hr
 simp only [VRel] at r
 obtain⟨hc,r⟩:=r
 obtain⟨cap,hcap,hun⟩:=stringToBytes_run (P:=X.P) e ⟨(bytesOf l c).toArray⟩ w
 rw [str_size] at hcap hun
 generalize hc':(((⟨(bytesOf l c).toArray⟩:ByteArray).data.map fun (b:UInt8)=>(Value.int .u8 b.toNat))++Array.replicate (cap - l) (Value.int .u8 0))=c' at hun
 have hes:((⟨(bytesOf l c).toArray⟩:ByteArray).data.map fun (b:UInt8)=>(Value.int .u8 b.toNat)).size=l:=by simp [bytesOf_length]
 have hc's:c'.size=cap:=by rw [<- hc',Array.size_append,hes,Array.size_replicate];omega
 have hcr:CRel φ ((bytesOf l c).map fun b=>.int .u8 (b.toNat:Int)) 0 c':=by
  intro i v hv
  rw [List.getElem?_map] at hv
  simp only [Option.map_eq_some_iff] at hv
  obtain⟨b,hb,rfl⟩:=hv
  have hi:i <(bytesOf l c).length:=by
   rw [List.getElem?_eq_some_iff] at hb;exact hb.1
  refine⟨rfl,.int .u8 b.toNat,?_,by simp [VRel]⟩
  rw [Nat.zero_add,<- hc',Array.getElem?_append_left (by rw [hes];rw [bytesOf_length] at hi;exact hi)]
  simp [hb]
 obtain⟨a,h',n',φ',hk,g1,g2,g3⟩:=fresh_out (c':=c') (l':=cap) (u':=cap+1) (d:=w.drawn+1) (e:=e) (z:=1) hw hcr (by rw [List.length_map,bytesOf_length,hc's];omega) ⟨fun j h1 h2=>by simp only [] at h2;omega,fun h=>absurd rfl h⟩ hx2
 refine⟨_,h',n',φ',_,.slice (some ⟨w.heap.size,0,none⟩) l cap,hk,.inl ?_,?_,g1,g2⟩
 ·simp [execOp,hop,convert,underlying,hs,ht,he,r,hun]
 ·simp only [VRel]
  exact .inl ⟨_,cap,g3,by simp,by simp [hc's],by omega⟩
theorem viewAt_cells {P:Program} {b:Nat} {c:Array Value} {e:TypeId} {fr:Nat × Nat} (h:w.heap[b]?=some (.cells c e fr)):(viewAt b).run P w=.ok none w:=by
 have:w.shape? b=some (e,c.size):=by simp [World.shape?,h]
 simp [viewAt,this]
theorem seenAt_cells {P:Program} {b q:Nat} {c:Array Value} {e:TypeId} {fr:Nat × Nat} (h:w.heap[b]?=some (.cells c e fr)):(Conv.seenAt ⟨b,q,none⟩).run P w=.ok ⟨b,q,none⟩ w:=by
 unfold Conv.seenAt
 rw [Sem.run_bind,viewAt_cells h,Result.andThen_ok]
 rfl
theorem toUns_eff {s t e:TypeId} {x:Operand} {m:Nat} (hop:o.op=.convert s t x) (hs:X.P.underlying s=some (.pointer e)) (ht:X.P.underlying t=some .unsafePointer) (he:TI.size X.P e=some (m+1)) (hx:execV .toUns vs h n K=true) (hw:W X φ h n w) (hr:VRels φ vs ([x].map ρ)):Out X o K φ h n w ρ:=by
 obtain⟨v,rfl,hx1⟩:=un1_iff.1 (hx:un1 _ vs=true)
 obtain⟨a,q,rfl,hx2⟩:=ifPtr_iff.1 hx1
 obtain⟨b,hb0,hx3⟩:=blkK_iff.1 hx2
 rcases ifCells_iff.1 hx3 with ⟨cs,e',ro,rfl,hx4⟩ |⟨_,_,_,_,_,hx4⟩
 ·rw [lenK_eq] at hx4
  obtain⟨hlt,hx5⟩:=guardB_iff.1 hx4
  have hlt':q < cs.length:=Nat.le_of_ble_eq_true hlt
  have r:=rel1 hr
  have r':=r
  simp only [VRel] at r
  obtain⟨p,ha,hpx⟩:=r
  obtain⟨_,b',ob,hb1,hob,hbr⟩:=hw.dom a p ha
  rw [hb0] at hb1;simp at hb1;subst hb1
  obtain⟨c,fr,rfl,h1,h2,h3,h4,h5⟩:=hbr
  obtain⟨i',hi',hs'⟩:∃ i',X.P.info? e=some i'/\i'.size=m+1:=by simpa [TI.size] using he
  refine⟨_,h,n,φ,w,ρ x,hx5,.inl ?_,r',hw,Grow.refl _ _ _⟩
  have hsn:=seenAt_cells (P:=X.P) (q:=p.off+q) hob
  have hsh:w.shape? p.blk=some (e',c.size):=by simp [World.shape?,hob]
  have hci:(cellsIn p.blk).run X.P w=.ok (some c.size) w:=by simp [cellsIn,hsh]
  have hsz:(sizeOf e).run X.P w=.ok (m+1) w:=by simp [sizeOf,typeInfo,hi',hs']
  have hlt2:¬ (c.size<=p.off+q):=by omega
  have:(Conv.unsafePointer s t (ρ x)).run X.P w=.ok (ρ x) w:=by
   rw [hpx]
   simp [Conv.unsafePointer,underlying,hs,ht,hsn,hci,hsz,hlt2]
  have hc:(convert s t (ρ x)).run X.P w=.ok (ρ x) w:=by
   rw [<- this,hpx]
   simp [convert,underlying,hs,ht]
  simp [execOp,hop,hc]
 ·exact Bool.noConfusion (hx4:false=true)
theorem fromUns_eff {s t u:TypeId} {x:Operand} {m:Nat} (hop:o.op=.convert s t x) (hs:X.P.underlying s=some .unsafePointer) (ht:X.P.underlying t=some (.pointer u)) (hu:TI.size X.P u=some m) (hx:execV (.fromUns u m) vs h n K=true) (hw:W X φ h n w) (hr:VRels φ vs ([x].map ρ)):Out X o K φ h n w ρ:=by
 obtain⟨v,rfl,hx1⟩:=un1_iff.1 (hx:un1 _ vs=true)
 obtain⟨a,q,rfl,hx2⟩:=ifPtr_iff.1 hx1
 obtain⟨hq,hx2'⟩:=guardB_iff.1 hx2
 obtain rfl:q=0:=Nat.eq_of_beq_eq_true hq
 obtain⟨b,hb0,hx3⟩:=blkK_iff.1 hx2'
 rcases ifCells_iff.1 hx3 with ⟨cs,e',ro,rfl,hx4⟩ |⟨_,_,_,_,_,hx4⟩
 ·obtain⟨heu,hx4'⟩:=guardB_iff.1 hx4
  obtain rfl:e'=u:=Nat.eq_of_beq_eq_true heu
  rw [lenK_eq] at hx4'
  obtain⟨hlt,hx5⟩:=guardB_iff.1 hx4'
  have hlt':m<=cs.length:=Nat.le_of_ble_eq_true hlt
  have r:=rel1 hr
  have r':=r
  simp only [VRel] at r
  obtain⟨p,ha,hpx⟩:=r
  obtain⟨_,b',ob,hb1,hob,hbr⟩:=hw.dom a p ha
  rw [hb0] at hb1;simp at hb1;subst hb1
  obtain⟨c,fr,rfl,h1,h2,h3,h4,h5⟩:=hbr
  obtain⟨i',hi',hs'⟩:∃ i',X.P.info? e'=some i'/\i'.size=m:=by simpa [TI.size] using hu
  refine⟨_,h,n,φ,w,ρ x,hx5,.inl ?_,r',hw,Grow.refl _ _ _⟩
  rw [h2] at hpx
  have hsn:=seenAt_cells (P:=X.P) (q:=0) hob
  have hsh:w.shape? p.blk=some (e',c.size):=by simp [World.shape?,hob]
  have hsz:(sizeOf e').run X.P w=.ok m w:=by simp [sizeOf,typeInfo,hi',hs']
  have hva:∃ b,(variablesAt ⟨p.blk,0,none⟩ e' 1).run X.P w=.ok b w/\(m=0\/b=true):=by
   refine⟨liesAt X.P X.P.depth e' (c.size / X.P.cellsOf e') 0 e' 1,by simp [variablesAt,hsh],?_⟩
   by_cases hm:m=0
   ·exact .inl hm
   ·right
    have hcell:X.P.cellsOf e'=m:=by simp [Program.cellsOf,hi',hs']
    have hd:X.P.depth=(2*(X.P.types.size+Made.depth)+1)+1:=rfl
    have hdiv:1<=c.size / m:=by rw [Nat.le_div_iff_mul_le (by omega)];omega
    rw [hcell,hd]
    simp only [liesAt,Bool.or_eq_true]
    left
    rw [hd]
    simp [rowAt,hcell,hm,hdiv,sameLayout]
  obtain⟨b,hvb,hor⟩:=hva
  have:(Conv.unsafePointer s t (ρ x)).run X.P w=.ok (ρ x) w:=by
   rw [hpx]
   simp only [Nat.zero_add]
   rcases hor with rfl|rfl<;>simp [Conv.unsafePointer,underlying,hs,ht,hsn,hsz,hvb]
  have hc:(convert s t (ρ x)).run X.P w=.ok (ρ x) w:=by
   rw [<- this,hpx]
   simp [convert,underlying,hs,ht]
  simp [execOp,hop,hc]
 ·exact Bool.noConfusion (hx4:false=true)
end
section
variable {X:Ctx} {o:Oper} {vs:List AV} {h:Hp} {n:Nat} {K:KS} {φ:Phi} {w:World} {ρ:Operand->Value}
theorem lies_at {P:Program} {e:TypeId} (hc:P.cellsOf e=1) (count q m:Nat) (hn:q+m<=count):liesAt P P.depth e count q e m=true:=by
 have hd:P.depth=(2*(P.types.size+Made.depth)+1)+1:=rfl
 rw [hd]
 simp only [liesAt,Bool.or_eq_true]
 left
 rw [hd]
 have hq:q % 1=0:=Nat.mod_one q
 simp [rowAt,hc,hn,sameLayout,hq]
theorem unsafeString_run {P:Program} (pt it ty e:TypeId) (hp:P.underlying pt=some (.pointer e)) (hc:P.cellsOf e=1) (b q cells:Nat) (kd:IntKind) (hsh:w.shape? b=some (e,cells)) (l:List UInt8) (h0:l.length≠0) (hn:q+l.length<=cells) (h63:l.length<=9223372036854775807)
  (hcell:∀ j x,l[j]?=some x->w.cell? ((⟨b,q,none⟩:Addr).add j)=some (.int .u8 x.toNat)) :
  (Builtin.unsafeString_ #[pt,it] ty #[.pointer (some ⟨b,q,none⟩),.int kd l.length]).run P w=.ok (.string ⟨l.toArray⟩) (w.freeze ⟨b,q,none⟩ l.length):=by
 have hlb:=Lib.run_loadBytes (P:=P) w l ⟨b,q,none⟩ .empty hcell
 have hlies:=lies_at (P:=P) hc (cells / P.cellsOf e) q l.length (by rw [hc];simpa using hn)
 have h63':¬ (9223372036854775807:Int) <(l.length:Int):=by omega
 have hdef:Builtin.unsafeString_ #[pt,it] ty #[.pointer (some ⟨b,q,none⟩),.int kd l.length]=(asInt (.int kd l.length) >>= _):=rfl
 rw [hdef]
 have hmax:IntKind.i64.max=9223372036854775807:=rfl
 have hneg:¬ (l.length:Int) < 0:=by omega
 have hl':l≠[]:=fun e=>h0 (by simp [e])
 simp [asInt,asIntOf,hmax,h63',hneg,hl',variablesAt,hsh,elemOf,underlying,hp,hlies,hlb]
theorem unsafeString_zero {P:Program} (pt it ty:TypeId) (p:Option Addr) (kd:IntKind):(Builtin.unsafeString_ #[pt,it] ty #[.pointer p,.int kd 0]).run P w=.ok (.string .empty) w:=by
 have hmax:IntKind.i64.max=9223372036854775807:=rfl
 cases p with
 | none =>
  have hdef:Builtin.unsafeString_ #[pt,it] ty #[.pointer none,.int kd 0]=(asInt (.int kd 0) >>= _):=rfl
  rw [hdef]
  simp [asInt,asIntOf,hmax]
 | some a =>
  have hdef:Builtin.unsafeString_ #[pt,it] ty #[.pointer (some a),.int kd 0]=(asInt (.int kd 0) >>= _):=rfl
  rw [hdef]
  simp [asInt,asIntOf,hmax]
theorem ustr_op {P:Program} {c:Call} {x y:Operand} {t u:TypeId} {r:Value} {w':World} (hop:o.op=.call c) (hc:c.callee=.builtin .unsafeString) (ha:c.args.toList=[x,y]) (hat:c.argTypes.toList=[t,u])
  (h:(Builtin.unsafeString_ #[t,u] o.type #[ρ x,ρ y]).run P w=.ok r w'):(execOp ρ o).run P w=.ok (.value r) w':=by
 have ha':c.args=#[x,y]:=by rw [<- Array.toArray_toList (xs:=c.args),ha]
 have hat':c.argTypes=#[t,u]:=by rw [<- Array.toArray_toList (xs:=c.argTypes),hat]
 simp [execOp,hop,resolve,hc,ha',hat',invoke,builtin,h]
theorem ustr_eff {c:Call} {x y:Operand} {t u e:TypeId} (hop:o.op=.call c) (hc:c.callee=.builtin .unsafeString) (ha:c.args.toList=[x,y]) (hat:c.argTypes.toList=[t,u]) (ht:X.P.underlying t=some (.pointer e)) (he:TI.size X.P e=some 1)
  (hx:execV (.ustr e) vs h n K=true) (hw:W X φ h n w) (hr:VRels φ vs ([x,y].map ρ)):Out X o K φ h n w ρ:=by
 obtain⟨pv,mv,rfl,hx1⟩:=un2_iff.1 (hx:un2 _ vs=true)
 obtain⟨kd,m,rfl,hx2⟩:=ifNat_iff.1 hx1
 obtain⟨r1,r2⟩:=rel2 hr
 rw [int_rel] at r2
 rw [bool_rec_eq] at hx2
 split at hx2
 ·rename_i hm
  obtain rfl:m=0:=Nat.eq_of_beq_eq_true hm
  have key:∀ p,ρ x=.pointer p->K.v (.str 0 0) h n=true->Out X o K φ h n w ρ:=fun p hp hk =>
   ⟨_,h,n,φ,w,.string .empty,hk,.inl (ustr_op hop hc ha hat (by rw [hp,r2];exact unsafeString_zero _ _ _ _ _)),by simp [VRel,bytesOf];rfl,hw,Grow.refl _ _ _⟩
  cases pv<;>first|exact Bool.noConfusion (hx2:false=true)|skip
  ·simp only [VRel] at r1
   obtain⟨p,_,hp⟩:=r1
   exact key _ hp hx2
  ·simp only [VRel] at r1
   exact key _ r1 hx2
 ·rename_i hm
  have hm':m≠0:=fun e=>hm (by rw [e];rfl)
  obtain⟨a,q,rfl,hx3⟩:=ifPtr_iff.1 hx2
  obtain⟨hq,hx4⟩:=guardB_iff.1 hx3
  obtain rfl:q=0:=Nat.eq_of_beq_eq_true hq
  obtain⟨b,hb0,hx5⟩:=blkK_iff.1 hx4
  rcases ifCells_iff.1 hx5 with ⟨cs,el,ro,rfl,hx6⟩ |⟨cs,el,f,z,rfl,hx6⟩
  ·cases ro with
   | true=>exact Bool.noConfusion (hx6:false=true)
   | false =>
    obtain⟨hel,hx7⟩:=guardB_iff.1 (hx6:guardB _ _=true)
    obtain rfl:el=e:=Nat.eq_of_beq_eq_true hel
    obtain⟨hmb,hx8⟩:=guardB_iff.1 hx7
    have hmb':m<=1073741824:=Nat.le_of_ble_eq_true hmb
    obtain⟨vs',hrd,hl,hk1,_⟩:=loadN_val hx8
    obtain rfl:vs'=cs:=by
     rcases hrd with ⟨e1,ro,h1⟩ |⟨e1,f1,z1,h1,_⟩|h1<;>rw [hb0] at h1<;>simp at h1
     exact h1.1.symm
    obtain⟨code,hk2,_,hcode,ns,hns1,hns2,hns3⟩:=codeK_val hk1
    rw [putK_eq] at hk2
    simp only [VRel] at r1
    obtain⟨p,hpa,hpx⟩:=r1
    obtain⟨_,b',ob,hb1,hob,hbr⟩:=hw.dom a p hpa
    rw [hb0] at hb1;simp at hb1;subst hb1
    obtain⟨c',fr,rfl,h1,h2,h3,hcr,h5⟩:=hbr
    obtain⟨rfl,hH⟩:=h5 rfl
    have hml:m<=vs'.length:=by omega
    have hlen:((vs'.drop 0).take m).length=m:=by simp;omega
    rw [hlen] at hcode hns3
    have hbl:(bytesOf m code).length=m:=bytesOf_length _ _
    have hcell1:X.P.cellsOf el=1:=by
     obtain⟨i',hi',hs'⟩:∃ i',X.P.info? el=some i'/\i'.size=1:=by simpa [TI.size] using he
     simp [Program.cellsOf,hi',hs']
    have hrun:=unsafeString_run (P:=X.P) (w:=w) t u o.type el ht hcell1 p.blk (p.off+0) c'.size kd (by simp [World.shape?,hob]) (bytesOf m code) (by rw [hbl];exact hm') (by rw [hbl];omega) (by rw [hbl];omega) (by
     intro j b hj
     rw [addr_add,cell_at hob]
     have hjm:j < m:=by
      have:=(List.getElem?_eq_some_iff.1 hj).1
      rw [hbl] at this;exact this
     have hns:((vs'.drop 0).take m)[j]?=(ns.map (fun (m:Nat)=>AV.int .u8 (m:Int)))[j]?:=by rw [hns1]
     rw [List.getElem?_take,if_pos hjm,List.getElem?_drop,Nat.zero_add] at hns
     rw [hns3,List.getElem?_map] at hj
     simp only [Option.map_eq_some_iff] at hj
     obtain⟨k,hk,rfl⟩:=hj
     rw [List.getElem?_map,hk] at hns
     obtain⟨_,v,hv,hvr⟩:=hcr j _ hns
     simp only [int_rel] at hvr
     rw [Nat.zero_add] at hv
     rw [Nat.add_zero,h2,Nat.zero_add,hv,hvr]
     have:=hns2 k (List.mem_of_getElem? hk)
     congr 2
     simp [Nat.mod_eq_of_lt this])
    rw [hbl] at hrun
    have hfr:=freeze_heap (w:=w) (q:=p.off+0) hob hm'
    rw [hfr] at hrun
    generalize (if (0:Nat) == 0 then (p.off+0,p.off+0+m) else (min 0 (p.off+0),max 0 (p.off+0+m)))=lu at hrun
    obtain⟨g1,g2⟩:=hw.turn (b':=.cell vs' el true) (o':=.cells c' el lu) hpa hb0 (by simp) (by simp) hH ⟨c',lu,rfl,h1,h2,h3,hcr,fun e=>Bool.noConfusion e⟩
    exact⟨_,_,_,φ,_,_,hk2,.inl (ustr_op hop hc ha hat (by rw [hpx,r2];exact hrun)),by simp only [VRel];exact⟨hcode,trivial⟩,g1,g2⟩
  ·obtain⟨hel,hx7⟩:=guardB_iff.1 hx6
   obtain rfl:el=e:=Nat.eq_of_beq_eq_true hel
   obtain⟨g,hg,hx8⟩:=blkK_iff.1 hx7
   obtain⟨lo,la,rfl,hx9⟩:=ifFam_iff.1 hx8
   obtain⟨hgd,hx10⟩:=guardB_iff.1 hx9
   simp only [Bool.and_eq_true,Bool.not_eq_true'] at hgd
   obtain⟨hla,hz1,hlo,hmb⟩:=hgd
   obtain rfl:la=a:=Nat.eq_of_beq_eq_true hla
   have hz1':z≠1:=fun e=>by rw [e] at hz1;exact Bool.noConfusion hz1
   have hlo':lo<=la:=Nat.le_of_ble_eq_true hlo
   have hmb':m<=1073741824:=Nat.le_of_ble_eq_true hmb
   obtain⟨vs',hrd,hl,hk1,_⟩:=loadN_val hx10
   obtain rfl:vs'=cs:=by
    rcases hrd with ⟨e1,ro,h1⟩ |⟨e1,f1,z1,h1,_⟩|h1<;>rw [hb0] at h1<;>simp at h1
    exact h1.1.symm
   obtain⟨code,hk2,_,hcode,ns,hns1,hns2,hns3⟩:=codeK_val hk1
   rw [force_eq,putK_eq,putK_eq] at hk2
   simp only [VRel] at r1
   obtain⟨p,hpa,hpx⟩:=r1
   obtain⟨_,b',ob,hb1,hob,hbr⟩:=hw.dom la p hpa
   rw [hb0] at hb1;simp at hb1;subst hb1
   obtain⟨c',l',u',rfl,h1,h2,h3,h4,hH⟩:=hbr
   obtain⟨fz1,fz2⟩:=h4 ⟨lo,hg⟩
   have hcr:=h3 ⟨lo,la,hg,hlo'⟩
   have hml:m<=vs'.length:=by omega
   have hlen:((vs'.drop 0).take m).length=m:=by simp;omega
   rw [hlen] at hcode hns3
   have hbl:(bytesOf m code).length=m:=bytesOf_length _ _
   have hcell1:X.P.cellsOf el=1:=by
    obtain⟨i',hi',hs'⟩:∃ i',X.P.info? el=some i'/\i'.size=1:=by simpa [TI.size] using he
    simp [Program.cellsOf,hi',hs']
   have hrun:=unsafeString_run (P:=X.P) (w:=w) t u o.type el ht hcell1 p.blk (p.off+0) c'.size kd (by simp [World.shape?,hob]) (bytesOf m code) (by rw [hbl];exact hm') (by rw [hbl];omega) (by rw [hbl];omega) (by
    intro j b hj
    rw [addr_add,cell_at hob]
    have hjm:j < m:=by
     have:=(List.getElem?_eq_some_iff.1 hj).1
     rw [hbl] at this;exact this
    have hns:((vs'.drop 0).take m)[j]?=(ns.map (fun (m:Nat)=>AV.int .u8 (m:Int)))[j]?:=by rw [hns1]
    rw [List.getElem?_take,if_pos hjm,List.getElem?_drop,Nat.zero_add] at hns
    rw [hns3,List.getElem?_map] at hj
    simp only [Option.map_eq_some_iff] at hj
    obtain⟨k,hk,rfl⟩:=hj
    rw [List.getElem?_map,hk] at hns
    obtain⟨_,v,hv,hvr⟩:=hcr j _ hns
    simp only [int_rel] at hvr
    rw [Nat.add_zero,hv,hvr]
    have:=hns2 k (List.mem_of_getElem? hk)
    congr 2
    simp [Nat.mod_eq_of_lt this])
   rw [hbl] at hrun
   have hfr:=freeze_heap (w:=w) (q:=p.off+0) hob hm'
   rw [hfr] at hrun
   generalize hlu:(if l' == u' then (p.off+0,p.off+0+m) else (min l' (p.off+0),max u' (p.off+0+m)))=lu at hrun
   obtain⟨l2,u2⟩:=lu
   have hz2:FrzOk p (Nat.max z m) l2 u2:=by
    have hmax1:z<=Nat.max z m:=Nat.le_max_left _ _
    have hmax2:m<=Nat.max z m:=Nat.le_max_right _ _
    have hu2:u2<=p.off+Nat.max z m:=by
     split at hlu
     ·simp at hlu;omega
     ·rename_i hne
      simp at hlu hne
      rcases fz2 hz1' with h|h
      ·exact absurd h hne
      ·omega
    exact⟨fun j hj1 hj2 hj3=>by omega,fun _=>.inr hu2⟩
   obtain⟨g1,g2⟩:=hw.turnRow (c':=c') (vs':=vs') (l':=l2) (u':=u2) (z':=Nat.max z m) hpa hb0 hg rfl h1 hcr hz2 lo (.inr ⟨rfl,hlo',l',u',hob⟩)
   exact⟨_,_,_,φ,_,_,hk2,.inl (ustr_op hop hc ha hat (by rw [hpx,r2];exact hrun)),by simp only [VRel];exact⟨hcode,trivial⟩,g1,g2⟩
theorem copy_op {P:Program} {c:Call} {x y:Operand} {t u:TypeId} {r:Value} {w':World} (hop:o.op=.call c) (hc:c.callee=.builtin .copy) (ha:c.args.toList=[x,y]) (hat:c.argTypes.toList=[t,u])
  (h:(Builtin.copy_ #[t,u] o.type #[ρ x,ρ y]).run P w=.ok r w'):(execOp ρ o).run P w=.ok (.value r) w':=by
 have ha':c.args=#[x,y]:=by rw [<- Array.toArray_toList (xs:=c.args),ha]
 have hat':c.argTypes=#[t,u]:=by rw [<- Array.toArray_toList (xs:=c.argTypes),hat]
 simp [execOp,hop,resolve,hc,ha',hat',invoke,builtin,h]
theorem copyS_eff {c:Call} {x y:Operand} {t u e:TypeId} (hop:o.op=.call c) (hc:c.callee=.builtin .copy) (ha:c.args.toList=[x,y]) (hat:c.argTypes.toList=[t,u]) (ht:X.P.underlying t=some (.slice e)) (_hu:X.P.underlying u=some .string) (hs:TI.size X.P e=some 1)
  (hx:execV .copyS vs h n K=true) (hw:W X φ h n w) (hr:VRels φ vs ([x,y].map ρ)):Out X o K φ h n w ρ:=by
 obtain⟨dv,sv,rfl,hx1⟩:=un2_iff.1 (hx:un2 _ vs=true)
 obtain⟨l,cd,rfl,hx2⟩:=ifStr_iff.1 hx1
 rcases ifSl_iff.1 hx2 with ⟨_,hx3⟩ |⟨a,q,dl,cap,rfl,hx3⟩ |⟨_,_,_,_,_,hx3⟩
 ·exact Bool.noConfusion (hx3:false=true)
 ·obtain⟨hle,hx4⟩:=guardB_iff.1 hx3
  have hle':l<=dl:=Nat.le_of_ble_eq_true hle
  rw [bytesK_val] at hx4
  obtain⟨r1,r2⟩:=rel2 hr
  simp only [VRel] at r1 r2
  obtain⟨p,hp,hdv,_⟩:=r1
  obtain⟨_,hsv⟩:=r2
  have hn:∀ bs:List UInt8,VRels φ (bs.map fun b=>AV.int .u8 (b.toNat:Int)) (bs.map fun b=>Value.int .u8 (b.toNat:Int)):=by
   intro bs
   induction bs with
   | nil=>simp [VRels]
   | cons b bs ih=>exact VRels.cons (by simp [VRel]) ih
  have hsc:((bytesOf l cd).map fun b=>AV.int .u8 (b.toNat:Int)).all AV.scalar=true:=by
   rw [List.all_eq_true]
   intro v hv
   obtain⟨b,_,rfl⟩:=List.mem_map.1 hv
   rfl
  obtain⟨h',w',hk,hrun,g1,g2⟩:=storeN_out hw hp (hn (bytesOf l cd)) hsc hx4
  obtain⟨i',hi',hs'⟩:∃ i',X.P.info? e=some i'/\i'.size=1:=by simpa [TI.size] using hs
  refine⟨_,h',n,φ,w',.int .i64 (l:Int),hk,.inl (copy_op hop hc ha hat ?_),by simp [VRel],g1,g2⟩
  have hsize:(⟨(bytesOf l cd).toArray⟩:ByteArray).size=l:=str_size _ _
  have hmin:Nat.min l dl=l:=Nat.min_eq_left hle'
  rw [hdv,hsv]
  have htake:((bytesOf l cd).map fun b=>Value.int .u8 (b.toNat:Int)).take l=(bytesOf l cd).map fun b=>Value.int .u8 (b.toNat:Int):=List.take_of_length_le (by rw [List.length_map,bytesOf_length];exact Nat.le_refl _)
  simp [Builtin.copy_,underlying,ht,Builtin.lenOf,hsize,hmin,sizeOf,typeInfo,hi',Builtin.firstCells,htake,hrun,goInt]
 ·exact Bool.noConfusion (hx3:false=true)
end
section
variable {X:Ctx} {o:Oper} {vs:List AV} {h:Hp} {n:Nat} {K:KS} {φ:Phi} {w:World} {ρ:Operand->Value}
theorem rangeMap_eff {t k e:TypeId} {x:Operand} (hop:o.op=.range t x) (ht:X.P.underlying t=some (.map k e)) (hx:execV .rangeMap vs h n K=true) (hw:W X φ h n w) (hr:VRels φ vs ([x].map ρ)):Out X o K φ h n w ρ:=by
 obtain⟨v,rfl,hx1⟩:=un1_iff.1 (hx:un1 _ vs=true)
 have r:=rel1 hr
 rcases ifMap_iff.1 hx1 with ⟨rfl,hx2⟩ |⟨m,rfl,hx2⟩
 ·obtain⟨hn,hx3⟩:=newK_iff.1 hx2
  simp only [VRel] at r
  obtain⟨g1,g2⟩:=hw.new (b:=.miter none 0 [] 0) (o:=.mapIter none 0 #[] 0) (sz:=0) hn (by simp) ⟨none,rfl,⟨hw.size,rfl⟩,.inl ⟨rfl,rfl⟩⟩
  refine⟨_,_,_,_,_,.pointer (some ⟨w.heap.size,0,none⟩),hx3,.inl ?_,?_,g1,g2⟩
  ·simp [execOp,hop,Instr.range,underlying,ht,r]
  ·simp only [VRel];exact⟨_,Phi.put_self _ _ _,rfl⟩
 ·obtain⟨b,hb0,hx3⟩:=blkK_iff.1 hx2
  obtain⟨es,clock,rfl,hx4⟩:=ifMapB_iff.1 hx3
  obtain⟨hn,hx5⟩:=newK_iff.1 hx4
  simp only [VRel] at r
  obtain⟨p,ha,hp⟩:=r
  obtain⟨ces,hob,her,hH⟩:=hw.map ha hb0
  have hle:=hw.le_put (Nat.le_refl n) ⟨w.heap.size,0,0⟩
  obtain⟨g1,g2⟩:=hw.new (b:=.miter (some m) clock [] clock) (o:=.mapIter (some p.blk) clock #[] clock) (sz:=0) hn (by simp) ⟨some p.blk,rfl,⟨hw.size,rfl⟩,.inr ⟨m,p,rfl,hle _ _ ha,rfl⟩⟩
  refine⟨_,_,_,_,_,.pointer (some ⟨w.heap.size,0,none⟩),hx5,.inl ?_,?_,g1,g2⟩
  ·have hg:=getObj_run (P:=X.P) hob (by simp)
   simp [execOp,hop,Instr.range,underlying,ht,hp,hg]
  ·simp only [VRel];exact⟨_,Phi.put_self _ _ _,rfl⟩
theorem ERel.filter {f:Nat->Bool}:∀ {es:List (AV × AV × Nat)} {ces:List MapEntry},ERel φ es ces->ERel φ (es.filter fun e=>f e.2.2) (ces.filter fun e=>f e.born)
 | [],_,r=>by rw [show _=[] from r];rfl
 | x::es,ces,r=>by
  obtain⟨e,es',rfl,h1,h2,h3,h4⟩:=r
  have ih:=ERel.filter (f:=f) h4
  simp only [List.filter_cons,h3]
  split
  ·exact⟨e,_,rfl,h1,h2,h3,ih⟩
  ·exact ih
theorem ERel.any {f:Nat->Bool}:∀ {es:List (AV × AV × Nat)} {ces:List MapEntry},ERel φ es ces->(es.any fun e=>f e.2.2)=ces.any fun e=>f e.born
 | [],_,r=>by rw [show _=[] from r];rfl
 | x::es,ces,r=>by
  obtain⟨e,es',rfl,h1,h2,h3,h4⟩:=r
  simp only [List.any_cons,h3,ERel.any (f:=f) h4]
theorem setObj_run {P:Program} {b:Nat} {ob:Obj} (ob':Obj) (h:w.heap[b]?=some ob) (hc:∀ c e fr,ob≠.cells c e fr):(setObj b ob').run P w=.ok () { w with heap:=w.heap.setIfInBounds b ob' }:=by
 cases ob<;>first |(exact absurd rfl (hc _ _ _)) |(unfold setObj;simp only [Sem.run,h])
theorem nextMap_eff {x:Operand} (hop:o.op=.next x false) (hx:execV .nextMap vs h n K=true) (hw:W X φ h n w) (hr:VRels φ vs ([x].map ρ)):Out X o K φ h n w ρ:=by
 obtain⟨v,rfl,hx1⟩:=un1_iff.1 (hx:un1 _ vs=true)
 obtain⟨a,q,rfl,hx2⟩:=ifPtr_iff.1 hx1
 obtain⟨hq,hx3⟩:=guardB_iff.1 hx2
 obtain rfl:q=0:=Nat.eq_of_beq_eq_true hq
 obtain⟨b,hb0,hx4⟩:=blkK_iff.1 hx3
 obtain⟨mm,since,seen,last,rfl,hx5⟩:=ifMiter_iff.1 hx4
 have r:=rel1 hr
 simp only [VRel] at r
 obtain⟨p,ha,hp⟩:=r
 obtain⟨_,b',ob,hb1,hob,hbr⟩:=hw.dom a p ha
 rw [hb0] at hb1;simp at hb1;subst hb1
 obtain⟨m',rfl,⟨hH,hp0⟩,hm⟩:=hbr
 rw [hp0] at hp
 have hgi:=getObj_run (P:=X.P) hob (by simp)
 have over_rel:VRel φ (.tup [.bool false]) (.tuple #[.bool false]):=by simp only [VRel];exact⟨_,rfl,by simp [VRels,VRel]⟩
 rcases hm with ⟨rfl,rfl⟩ |⟨m,pm,rfl,hma,rfl⟩
 ·refine⟨_,h,n,φ,w,.tuple #[.bool false],hx5,.inl ?_,over_rel,hw,Grow.refl _ _ _⟩
  simp [execOp,hop,Instr.next,hp,hgi]
 ·obtain⟨bm,hbm,hx6⟩:=blkK_iff.1 hx5
  obtain⟨es,clock,rfl,hx7⟩:=ifMapB_iff.1 hx6
  obtain⟨hgd,hx8⟩:=guardB_iff.1 hx7
  obtain⟨ces,hmo,her,_⟩:=hw.map hma hbm
  have hgm:=getObj_run (P:=X.P) hmo (by simp)
  have hcond:(!seen.toArray.isEmpty&&!ces.isEmpty&&ces.all fun e=>decide (e.born >= last))=false:=by
   simp only [Bool.or_eq_true] at hgd
   rcases hgd with (h1|h1)|h1
   ·have:seen=[]:=by simpa using h1
    simp [this]
   ·have h0:es=[]:=by simpa using h1
    subst h0
    have:ces.toList=[]:=her
    have:ces=#[]:=by simpa using this
    simp [this]
   ·have h2:=her.any (f:=fun b=>Nat.blt b last)
    rw [h1] at h2
    have h3:(ces.all fun e=>decide (e.born >= last))=false:=by
     rw [<- Array.all_toList]
     have h4:=h2.symm
     rw [List.any_eq_true] at h4
     obtain⟨e,he,hb⟩:=h4
     rw [List.all_eq_false]
     refine⟨e,he,?_⟩
     have:e.born < last:=Nat.le_of_ble_eq_true hb
     simp;omega
    simp [h3]
  have hfl:=her.filter (f:=fun b=>!seen.contains b)
  have hleft:∀ L,(ces.toList.filter fun e=>!seen.contains e.born)=L->(ces.filter fun e=>!seen.toArray.contains e.born)=L.toArray:=by
   intro L hL
   apply Array.ext'
   rw [Array.toList_filter]
   simp [<- hL]
  generalize hlf:(es.filter fun e=>!seen.contains e.2.2)=lf at hfl hx8
  cases lf with
  | nil =>
   have hl:=hleft _ hfl
   refine⟨_,h,n,φ,w,.tuple #[.bool false],hx8,.inl ?_,over_rel,hw,Grow.refl _ _ _⟩
   simp only [execOp,hop,Instr.next,hp,Sem.run_bind,hgi,hgm,Result.andThen_ok,Nat.add_zero,hcond,hl]
   simp [Question.forced]
  | cons e0 rest =>
   have hall:=(allK_iff _ _).1 (hx8:allK (e0::rest) _=true)
   have hl:=hleft _ rfl
   generalize hL:(ces.toList.filter fun e=>!seen.contains e.born)=L at hl hfl
   have hlen:L.length=rest.length+1:=by have:=hfl.length;simp at this;omega
   have hold:∀ ce ∈ L,ce.born < since:=by
    intro ce hce
    obtain⟨i,hi,e⟩:=List.getElem_of_mem hce
    have hi':i <(e0::rest).length:=by simp;omega
    obtain⟨ce',k1,k2,k3,k4⟩:=hfl.get (List.getElem?_eq_getElem hi')
    rw [List.getElem?_eq_getElem hi] at k1
    simp at k1
    obtain⟨hborn,_⟩:=guardB_iff.1 (hall _ (List.getElem_mem hi'))
    rw [<- e,k1,k4]
    exact Nat.le_of_ble_eq_true hborn
   have hf1:L.toArray.filter (fun e=>decide (e.born < since))=L.toArray:=by
    apply Array.ext'
    rw [Array.toList_filter]
    exact List.filter_eq_self.2 fun ce hce=>by simpa using hold ce hce
   have hf2:L.toArray.filter (fun e=>decide (e.born >= since))=#[]:=by
    apply Array.ext'
    rw [Array.toList_filter]
    exact List.filter_eq_nil_iff.2 fun ce hce=>by have:=hold ce hce;simp;omega
   have hne:L.toArray.isEmpty=false:=by
    cases L with
    | nil=>simp at hlen
    | cons _ _=>simp
   obtain⟨k,d,hk,hch⟩:∃ k d,k < L.length/\(choose (.mapNext L.length)).run X.P w=.ok k { w with drawn:=d }:=by
    unfold choose
    simp only [Sem.run]
    by_cases hfo:(Question.mapNext L.length).forced=true
    ·exact⟨0,w.drawn,by omega,by rw [if_pos hfo]⟩
    ·refine⟨_,_,?_,by rw [if_neg hfo]⟩
     show _ % L.length < L.length
     exact Nat.mod_lt _ (by omega)
   have hk':k <(e0::rest).length:=by simp;omega
   obtain⟨ce,k1,k2,k3,k4⟩:=hfl.get (List.getElem?_eq_getElem hk')
   obtain⟨hborn,hx9⟩:=guardB_iff.1 (hall _ (List.getElem_mem hk'))
   rw [appK_eq,putK_eq] at hx9
   have hw':=hw.draw d
   have hgi':=getObj_run (P:=X.P) (w:={ w with drawn:=d }) hob (by simp)
   obtain⟨g1,g2⟩:=hw'.turn (b':=.miter (some m) since (seen++[((e0::rest)[k]).2.2]) clock) (o':=.mapIter (some pm.blk) since (seen.toArray.push ce.born) clock) ha hb0 (by simp) (by simp) hH ⟨some pm.blk,by simp [k4],⟨hH,hp0⟩,.inr ⟨m,pm,rfl,hma,rfl⟩⟩
   refine⟨_,_,n,φ,_,.tuple #[.bool true,ce.key,ce.val],hx9,.inl ?_,?_,g1,g2⟩
   ·have hso:=setObj_run (P:=X.P) (w:={ w with drawn:=d }) (.mapIter (some pm.blk) since (seen.toArray.push ce.born) clock) hob (by simp)
    have hcand:((if L.toArray.isEmpty then #[none] else #[])++(L.toArray++(#[]:Array MapEntry)).map some)=L.toArray.map some:=by rw [hne];simp
    have hget:(L.toArray.map some)[k]?=some (some ce):=by simp [k1]
    have hsize:(L.toArray.map some).size=L.length:=by simp
    simp only [execOp,hop,Instr.next,hp,Sem.run_bind,hgi,hgm,Result.andThen_ok,Nat.add_zero,hcond,hl,hf1,hf2,hcand,hsize,Bool.false_eq_true,if_false,Sem.run_pure,hch,hget,hso]
   ·simp only [VRel]
    exact⟨_,rfl,VRels.cons (by simp [VRel]) (VRels.cons k2 (VRels.cons k3 VRels.nil))⟩
theorem scalarEq_true {a b:AV} (h:scalarEq a b=some true):a=b:=by
 cases a<;>cases b<;>simp [scalarEq] at h
 ·rw [h]
 ·obtain⟨h1,h2⟩:=h
  rw [kindEq_iff.1 h1,h2]
 ·rw [h.1,h.2]
theorem flatEq_true:∀ {xs ys:List AV},flatEq xs ys=some true->xs=ys
 | [],[],_=>rfl
 | [],_::_,h=>by simp [flatEq] at h
 | _::_,[],h=>by simp [flatEq] at h
 | x::xs,y::ys,h=>by
  unfold flatEq at h
  split at h
  ·rename_i a b h1 h2
   simp at h
   obtain⟨rfl,rfl⟩:=h
   rw [scalarEq_true h1,flatEq_true h2]
  ·simp at h
def Flat (v:Value):Prop:=(∃ b,v=.bool b)\/(∃ k n,v=.int k n)\/∃ s,v=.string s
theorem fits_flat {φ:Phi}:∀ {sh:List SK} {xs:List AV} {cs ds:List Value},fits sh xs=true->VRels φ xs cs->VRels φ xs ds->cs=ds/\∀ c ∈ cs,Flat c
 | [],[],cs,ds,_,h1,h2=>by
  rw [VRels.nil_iff] at h1 h2
  subst h1;subst h2
  simp
 | [],_::_,cs,ds,h,_,_=>by simp [fits] at h
 | _::_,[],cs,ds,h,_,_=>by simp [fits] at h
 | s::sh,x::xs,cs,ds,h,h1,h2=>by
  obtain⟨c,cr,rfl,k1,k2⟩:=VRels.cons_iff.1 h1
  obtain⟨d,dr,rfl,k3,k4⟩:=VRels.cons_iff.1 h2
  have key:fits sh xs=true/\c=d/\Flat c:=by
   cases s<;>cases x<;>simp [fits] at h<;>simp only [VRel] at k1 k3
   ·exact⟨h,by rw [k1,k3],.inr (.inl ⟨_,_,k1⟩)⟩
   ·exact⟨h,by rw [k1,k3],.inl ⟨_,k1⟩⟩
   ·exact⟨h,by rw [k1.2,k3.2],.inr (.inr ⟨_,k1.2⟩)⟩
  obtain⟨hf,rfl,hfl⟩:=key
  obtain⟨rfl,hall⟩:=fits_flat hf k2 k4
  exact⟨rfl,by simpa using ⟨hfl,hall⟩⟩
theorem sameBits_flat {m:Nat} {c:Value} (h:Flat c):Instr.sameBits m c c=true:=by
 rcases h with ⟨b,rfl⟩ |⟨k,n,rfl⟩ |⟨s,rfl⟩
 ·simp [Instr.sameBits]
 ·simp [Instr.sameBits]
 ·simp only [Instr.sameBits]
  rw [beq_toListBytes]
  simp
theorem keySame {sh:List SK} {g:Bool} {key k:AV} {c d:Value} {P:Program} {kt:TypeId} (hg:TI.isAgg P kt=some g) (hk:keyOk sh g key=true) (he:keyEq sh g key k=some true) (r1:VRel φ key c) (r2:VRel φ k d):Instr.sameBits 10000 d c=true:=by
 obtain⟨xs,cx,fx,rx,tx,ex⟩:=key_tyv (P:=P) hg hk r1
 obtain⟨ys,cy,fy,ry,ty,ey⟩:=key_tyv (P:=P) hg (keyEq_ok he) r2
 have hf:=flatEq_true (keyEq_flat ex ey fx he)
 subst hf
 rcases ex with ⟨rfl,rfl⟩ |⟨rfl,hxs⟩
 ·rcases ey with ⟨_,rfl⟩ |⟨h',_⟩
  ·simp only [VRel] at r1 r2
   obtain⟨x1,rfl,q1,_⟩:=r1
   obtain⟨x2,rfl,q2,_⟩:=r2
   obtain⟨e1,hall⟩:=fits_flat fx q1 q2
   have:x2=x1:=by rw [<- Array.toArray_toList (xs:=x2),<- e1]
   subst this
   rw [Instr.sameBits]
   simp only [beq_self_eq_true,Bool.true_and]
   rw [List.all_eq_true]
   intro y hy
   have hz:y.1=y.2/\y.1 ∈ x2.toList:=by
    have:∀ (l:List Value) (y:Value × Value),y ∈ l.zip l->y.1=y.2/\y.1 ∈ l:=by
     intro l
     induction l with
     | nil=>intro y hy;simp at hy
     | cons v l ih =>
      intro y hy
      simp only [List.zip_cons_cons,List.mem_cons] at hy
      rcases hy with rfl|hy
      ·simp
      ·obtain⟨h1,h2⟩:=ih y hy
       exact⟨h1,by simp [h2]⟩
    exact this _ _ hy
   rw [<- hz.1]
   exact sameBits_flat (hall _ hz.2)
  ·simp at h'
 ·rcases ey with ⟨h',_⟩ |⟨_,hys⟩
  ·simp at h'
  ·subst hxs
   simp only [List.cons.injEq,and_true] at hys
   subst hys
   obtain⟨e1,hall⟩:=fits_flat fx (VRels.cons r1 VRels.nil) (VRels.cons r2 VRels.nil)
   simp only [List.cons.injEq,and_true] at e1
   subst e1
   exact sameBits_flat (hall c (by simp))
theorem modK_iff {key v:AV}:∀ (i:Nat) (es:List (AV × AV × Nat)) (k:List (AV × AV × Nat)->Bool),modK i key v es k=true ↔ ∃ e,es[i]?=some e/\k (es.set i (key,v,e.2.2))=true:=by
 intro i
 induction i with
 | zero =>
  intro es k
  cases es with
  | nil=>exact⟨fun h=>Bool.noConfusion (h:false=true),fun⟨e,h,_⟩=>by simp at h⟩
  | cons e es =>
   show k ((key,v,e.2.2)::es)=true ↔ _
   simp
 | succ i ih =>
  intro es k
  cases es with
  | nil=>exact⟨fun h=>Bool.noConfusion (h:false=true),fun⟨e,h,_⟩=>by simp at h⟩
  | cons e es =>
   show modK i key v es (fun r=>k (e::r))=true ↔ _
   rw [ih]
   simp
theorem ERel.set {key v:AV} {c d:Value} (hk:VRel φ key c) (hv:VRel φ v d):∀ {es:List (AV × AV × Nat)} {ces:List MapEntry} {i:Nat} {e:AV × AV × Nat},ERel φ es ces->es[i]?=some e->ERel φ (es.set i (key,v,e.2.2)) (ces.modify i fun e=>{ e with key:=c,val:=d })
 | [],_,i,e,r,h=>by simp at h
 | x::es,ces,i,e,r,h=>by
  obtain⟨ce,es',rfl,h1,h2,h3,h4⟩:=r
  cases i with
  | zero=>simp at h;subst h;exact⟨_,_,rfl,hk,hv,h3,h4⟩
  | succ i =>
   have:=ERel.set hk hv h4 (i:=i) (by simpa using h)
   exact⟨ce,_,rfl,h1,h2,h3,this⟩
theorem ERel.push {key v:AV} {c d:Value} {born:Nat} (hk:VRel φ key c) (hv:VRel φ v d):∀ {es:List (AV × AV × Nat)} {ces:List MapEntry},ERel φ es ces->ERel φ (es++[(key,v,born)]) (ces++[{ key:=c,val:=d,born:=born }])
 | [],_,r=>by rw [show _=[] from r];exact⟨_,[],rfl,hk,hv,rfl,rfl⟩
 | x::es,ces,r=>by
  obtain⟨ce,es',rfl,h1,h2,h3,h4⟩:=r
  exact⟨ce,_,rfl,h1,h2,h3,ERel.push hk hv h4⟩
theorem mapUpd_eff {t kt e:TypeId} {m k v:Operand} {sh:List SK} {g:Bool} (hop:o.op=.mapUpdate t m k v\/o.op=.insert t m k v) (ht:X.P.underlying t=some (.map kt e)) (hf:flatTy X.P 40 kt=some sh) (hg:TI.isAgg X.P kt=some g) (hx:execV (.mapUpd sh g) vs h n K=true) (hw:W X φ h n w) (hr:VRels φ vs ([m,k,v].map ρ)):Out X o K φ h n w ρ:=by
 obtain⟨mv,key,vv,rfl,hx1⟩:=un3_iff.1 (hx:un3 _ vs=true)
 obtain⟨hk,hx2⟩:=guardB_iff.1 hx1
 rcases ifMap_iff.1 hx2 with ⟨_,hx3⟩ |⟨a,rfl,hx3⟩
 ·exact Bool.noConfusion (hx3:false=true)
 obtain⟨b,hb0,hx4⟩:=blkK_iff.1 hx3
 obtain⟨es,clock,rfl,hx5⟩:=ifMapB_iff.1 hx4
 obtain⟨r1,r2,r3⟩:=rel3 hr
 simp only [VRel] at r1
 obtain⟨p,ha,hp⟩:=r1
 obtain⟨ces,hob,her,hH⟩:=hw.map ha hb0
 generalize hfe:findE sh g key es 0=fe at hx5
 cases fe with
 | none=>exact Bool.noConfusion (hx5:false=true)
 | some fr =>
  obtain⟨fr',hfk,hrel⟩:=findKey_run (P:=X.P) w hf hg hk r2 es ces.toList fr her hfe
  obtain⟨xs,cx,fx,rx,tx,ex⟩:=key_tyv (P:=X.P) hg hk r2
  have hck:(Instr.checkKey false 10000 kt (ρ k)).run X.P w=.ok () w:=check_flat 40 kt sh hf 10000 (by omega) false φ xs cx (ρ k) w fx rx tx
  have hgo:=getObj_run (P:=X.P) hob (by simp)
  have hexec:∀ w',(Instr.mapUpdate t (ρ m) (ρ k) (ρ v)).run X.P w=.ok () w'->(execOp ρ o).run X.P w=.ok .skip w':=by
   intro w' hw'
   rcases hop with hop|hop<;>simp [execOp,hop,hw']
  cases fr with
  | none =>
   rw [appK_eq,force_eq,putK_eq] at hx5
   have hfr':fr'=none:=hrel
   subst hfr'
   obtain⟨g1,g2⟩:=hw.turn (b':=.map (es++[(key,vv,clock)]) (clock+1)) (o':=.map (ces.push { key:=ρ k,val:=ρ v,born:=clock }) (clock+1)) ha hb0 (by simp) (by simp) hH ⟨_,rfl,by simpa using her.push (born:=clock) r2 r3,hH⟩
   refine⟨_,_,n,φ,_,undef,hx5,.inr ⟨hexec _ ?_,rfl⟩,undef_rel,g1,g2⟩
   have hso:=setObj_run (P:=X.P) (.map (ces.push { key:=ρ k,val:=ρ v,born:=clock }) (clock+1)) hob (by simp)
   simp only [Instr.mapUpdate,underlying,Sem.run_bind,run_program,Result.andThen_ok,ht,hp,hgo,hck,hfk,hso,Sem.run_pure]
  | some iv =>
   obtain⟨i,ov⟩:=iv
   obtain⟨cv,rfl,hov,j,k0,b0,hij,hesj,hkeq⟩:=hrel
   have hij':i=j:=by omega
   subst hij'
   obtain⟨e0,he0,hx6⟩:=(modK_iff _ _ _).1 hx5
   rw [hesj] at he0;simp at he0;subst he0
   rw [putK_eq] at hx6
   obtain⟨ce,hce,q1,q2,q3⟩:=her.get hesj
   have hsame:=keySame (P:=X.P) (kt:=kt) hg hk hkeq r2 q1
   have hset:=her.set r2 r3 hesj
   obtain⟨g1,g2⟩:=hw.turn (b':=.map (es.set i (key,vv,b0)) clock) (o':=.map (ces.modify i fun e=>{ e with key:=ρ k,val:=ρ v }) clock) ha hb0 (by simp) (by simp) hH ⟨_,rfl,by simpa using hset,hH⟩
   refine⟨_,_,n,φ,_,undef,hx6,.inr ⟨hexec _ ?_,rfl⟩,undef_rel,g1,g2⟩
   have hso:=setObj_run (P:=X.P) (.map (ces.modify i fun e=>{ e with key:=ρ k,val:=ρ v }) clock) hob (by simp)
   have hce':ces[i]?=some ce:=by simpa using hce
   have hkt:(Instr.keyThatStays ce.key (ρ k)).run X.P w=.ok (ρ k) w:=by simp [Instr.keyThatStays,hsame]
   simp only [Instr.mapUpdate,underlying,Sem.run_bind,run_program,Result.andThen_ok,ht,hp,hgo,hck,hfk,hce',Option.map_some,Option.getD_some,hkt,hso,Sem.run_pure]
end
section
variable {X:Ctx} {o:Oper} {vs:List AV} {h:Hp} {n:Nat} {K:KS} {φ:Phi} {w:World} {ρ:Operand->Value}
theorem growBy_le (L:Nat):∀ r c,c<=2*L+400->Builtin.growBy L r c<=2*L+400
 | 0,c,h=>h
 | r+1,c,h=>by
  unfold Builtin.growBy
  split
  ·exact h
  ·exact growBy_le L r _ (by omega)
theorem nextslicecap_le {L s:Nat} (h:s < L):Builtin.nextslicecap L s<=2*L+400:=by
 unfold Builtin.nextslicecap
 split
 ·omega
 ·split
  ·omega
  ·exact growBy_le L 4 s (by omega)
structure Arg (X:Ctx) (φ:Phi) (esz:Nat) (x:Value) (m:Nat) (new:List AV) (w:World):Prop where
 len:∀ w',(Builtin.lenOf x).run X.P w'=.ok m w'
 cells:∃ cn:Array Value,(∀ d,(Builtin.firstCells esz m x).run X.P { w with drawn:=d }=.ok cn { w with drawn:=d })/\VRels φ new cn.toList/\new.all AV.scalar=true/\new.length=m*esz
theorem cells_run {P:Program} {h:Hp} {a q m esz l c:Nat} {vs:List AV} {p:Pl} (hw:W X φ h n w) (ha:φ a=some p) (hr:ReadableIs h a vs) (hl:m*esz=0\/q+m*esz<=vs.length) :
  ∃ cn:Array Value,(∀ d,(Builtin.firstCells esz m (.slice (some ⟨p.blk,p.off+q,none⟩) l c)).run P { w with drawn:=d }=.ok cn { w with drawn:=d })/\VRels φ ((vs.drop q).take (m*esz)) cn.toList/\((vs.drop q).take (m*esz)).all AV.scalar=true/\((vs.drop q).take (m*esz)).length=m*esz:=by
 obtain⟨c',e,fr,hob,hcr,hsz,hlen⟩:=hw.read ha hr
 by_cases h0:m*esz=0
 ·refine⟨#[],fun d=>?_,by simp [h0,VRels],by simp [h0],by simp [h0]⟩
  simp [Builtin.firstCells,h0,loadCells,loadCellsFrom]
 ·have hl':q+m*esz<=vs.length:=by omega
  obtain⟨hv,hs⟩:=hcr.vrels q (m*esz) hl'
  refine⟨((c'.toList.drop (p.off+q)).take (m*esz)).toArray,fun d=>?_,by simpa using hv,hs,by simp;omega⟩
  have:=loadCells_run (P:=P) (w:={ w with drawn:=d }) (q:=p.off+q) hob (m*esz) 0 #[] (by omega)
  simpa [Builtin.firstCells,loadCells] using this
theorem append_op {P:Program} {c:Call} {s x:Operand} {t u:TypeId} {r:Value} {w':World} (hop:o.op=.call c) (hc:c.callee=.builtin .append) (ha:c.args.toList=[s,x]) (hat:c.argTypes.toList=[t,u])
  (h:(Builtin.append_ #[t,u] o.type #[ρ s,ρ x]).run P w=.ok r w'):(execOp ρ o).run P w=.ok (.value r) w':=by
 have ha':c.args=#[s,x]:=by rw [<- Array.toArray_toList (xs:=c.args),ha]
 have hat':c.argTypes=#[t,u]:=by rw [<- Array.toArray_toList (xs:=c.argTypes),hat]
 simp [execOp,hop,resolve,hc,ha',hat',invoke,builtin,h]
theorem append_stay {t u e ty:TypeId} {d:TypeDesc} {i:TypeInfo} {b:Addr} {l cap m:Nat} {x:Value} {cn:Array Value} {w':World} (ht:X.P.underlying t=some (.slice e)) (hu:X.P.underlying u=some d) (hd:∀ k,d≠.int k) (hi:X.P.info? e=some i)
  (hlen:(Builtin.lenOf x).run X.P w=.ok m w) (hcells:(Builtin.firstCells i.size m x).run X.P w=.ok cn w) (hroom:l+m<=cap) (hst:(storeCells (b.add (l*i.size)) cn.toList).run X.P w=.ok () w') :
  (Builtin.append_ #[t,u] ty #[.slice (some b) l cap,x]).run X.P w=.ok (.slice (some b) (l+m) cap) w':=by
 have hz:(match d with|.int _=>true|_=>false)=false:=by cases d<;>first|rfl|exact absurd rfl (hd _)
 simp [Builtin.append_,underlying,ht,hu,sizeOf,typeInfo,hi,hz,hlen,hcells,hroom,hst]
theorem append_none {t u e ty:TypeId} {d:TypeDesc} {i:TypeInfo} {x:Value} {cn:Array Value} (ht:X.P.underlying t=some (.slice e)) (hu:X.P.underlying u=some d) (hd:∀ k,d≠.int k) (hi:X.P.info? e=some i)
  (hlen:(Builtin.lenOf x).run X.P w=.ok 0 w) (hcells:(Builtin.firstCells i.size 0 x).run X.P w=.ok cn w) :
  (Builtin.append_ #[t,u] ty #[.slice none 0 0,x]).run X.P w=.ok (.slice none 0 0) w:=by
 have hz:(match d with|.int _=>true|_=>false)=false:=by cases d<;>first|rfl|exact absurd rfl (hd _)
 simp [Builtin.append_,underlying,ht,hu,sizeOf,typeInfo,hi,hz,hlen,hcells]
theorem append_grow {t u e ty:TypeId} {d:TypeDesc} {i:TypeInfo} {b:Option Addr} {l cap m:Nat} {x z:Value} {old cn:Array Value} (ht:X.P.underlying t=some (.slice e)) (hu:X.P.underlying u=some d) (hd:∀ k,d≠.int k) (hi:X.P.info? e=some i)
  (hb:i.bytes<=1048576) (hz0:∀ w,(zeroValue e).run X.P w=.ok z w)
  (hlen:∀ w,(Builtin.lenOf x).run X.P w=.ok m w) (hcells:∀ d,(Builtin.firstCells i.size m x).run X.P { w with drawn:=d }=.ok cn { w with drawn:=d }) (hold:∀ d,(Builtin.firstCells i.size l (.slice b l cap)).run X.P { w with drawn:=d }=.ok old { w with drawn:=d })
  (hroom:cap < l+m) (hneed:l+m<=1048576) :
  ∃ nc,l+m<=nc/\(Builtin.append_ #[t,u] ty #[.slice b l cap,x]).run X.P w=.ok (.slice (some ⟨w.heap.size,0,none⟩) (l+m) nc) { w with heap:=w.heap.push (.cells (old++cn++Builtin.zeroCells z.cells (nc - (l+m))) e),drawn:=w.drawn+1 }:=by
 have hz:(match d with|.int _=>true|_=>false)=false:=by cases d<;>first|rfl|exact absurd rfl (hd _)
 obtain⟨nc,hnc,hch⟩:=choose_cap (P:=X.P) (l+m) cap e w
 refine⟨nc,hnc,?_⟩
 have hns:=nextslicecap_le hroom
 have hmul:Builtin.nextslicecap (l+m) cap*i.bytes<=3145728*1048576:=Nat.mul_le_mul (by omega) hb
 have h48:¬ (281474976710656 < Builtin.nextslicecap (l+m) cap*i.bytes):=by omega
 have hmax:IntKind.i64.max=9223372036854775807:=rfl
 have h63:¬ ((9223372036854775807:Int) <(l:Int)+(m:Int)):=by omega
 have hr:¬ (l+m<=cap):=by omega
 have hti:∀ w,(typeInfo e).run X.P w=.ok i w:=fun w=>by simp [typeInfo,hi]
 have hsz:∀ w,(sizeOf e).run X.P w=.ok i.size w:=fun w=>by simp [sizeOf,typeInfo,hi]
 have hc1:=hcells (w.drawn+1)
 have ho1:=hold (w.drawn+1)
 simp [Builtin.append_,underlying,ht,hu,hsz,hti,hz,hlen,hr,hmax,h63,h48,hch,hz0,newRow,-run_choose]
 rw [show w.drew={ w with drawn:=w.drawn+1 } from rfl,ho1,Result.andThen_ok,hc1,Result.andThen_ok]
 rfl
theorem grown_rel {old new:List AV} {co cn:Array Value} (r:Array Value) (h1:VRels φ old co.toList) (h2:VRels φ new cn.toList) (s1:old.all AV.scalar=true) (s2:new.all AV.scalar=true):CRel φ (old++new) 0 (co++cn++r)/\(old++new).length<=(co++cn++r).size:=by
 have hv:=h1.append h2
 have hl:=hv.length
 refine⟨fun i v hi=>?_,by simp at hl ⊢;omega⟩
 obtain⟨c,hc,hvc⟩:=hv.get hi
 have hs:(old++new).all AV.scalar=true:=by simp [List.all_append,s1,s2]
 rw [List.all_eq_true] at hs
 refine⟨hs v (List.mem_of_getElem? hi),c,?_,hvc⟩
 have hlt:i <(co++cn).size:=by
  have:=(List.getElem?_eq_some_iff.1 hc).1
  simpa using this
 rw [Nat.zero_add,Array.getElem?_append_left hlt,<- Array.getElem?_toList,Array.toList_append]
 exact hc
theorem zeroCells_size (z:Array Value) (n:Nat):(Builtin.zeroCells z n).size=n*z.size:=by simp [Builtin.zeroCells]
theorem fresh_app {c:Call} {s x:Operand} {t u e:TypeId} {d:TypeDesc} {i:TypeInfo} {z:AV} {b:Option Addr} {l cap m:Nat} {old new:List AV} {co cn:Array Value}
  (hop:o.op=.call c) (hc:c.callee=.builtin .append) (ha:c.args.toList=[s,x]) (hat:c.argTypes.toList=[t,u]) (ht:X.P.underlying t=some (.slice e)) (hu:X.P.underlying u=some d) (hd:∀ k,d≠.int k) (hi:X.P.info? e=some i) (hz:TI.zero X.P e=some z) (h1:z.cells.length=i.size/\z.noTup=true/\i.bytes<=1048576)
  (hw:W X φ h n w) (hs:ρ s=.slice b l cap) (hlen:∀ w,(Builtin.lenOf (ρ x)).run X.P w=.ok m w) (hcells:∀ d,(Builtin.firstCells i.size m (ρ x)).run X.P { w with drawn:=d }=.ok cn { w with drawn:=d }) (hold:∀ d,(Builtin.firstCells i.size l (.slice b l cap)).run X.P { w with drawn:=d }=.ok co { w with drawn:=d })
  (r1:VRels φ old co.toList) (r2:VRels φ new cn.toList) (s1:old.all AV.scalar=true) (s2:new.all AV.scalar=true) (l1:old.length=l*i.size) (l2:new.length=m*i.size) (hroom:cap < l+m)
  (hk:freshK e i.size old new (l+m) h n K=true):Out X o K φ h n w ρ:=by
 obtain⟨hneed,hk1⟩:=guardB_iff.1 (hk:guardB _ _=true)
 simp only [appK_eq] at hk1
 obtain⟨cz,hcz,hrz⟩:=zero_rel (P:=X.P) (φ:=φ) w hz
 have hz0:∀ w,(zeroValue e).run X.P w=.ok cz w:=fun w'=>by
  obtain⟨cz',hcz',_⟩:=zero_rel (P:=X.P) (φ:=φ) w' hz
  have:cz'=cz:=by
   simp only [zeroValue,typeInfo,Sem.run_bind,run_program,Result.andThen_ok,hi] at hcz hcz'
   cases hzz:i.zero with
   | none=>simp [hzz] at hcz
   | some v=>simp [hzz] at hcz hcz';rw [<- hcz,<- hcz']
  rw [hcz',this]
 obtain⟨nc,hnc,hrun⟩:=append_grow (ty:=o.type) ht hu hd hi h1.2.2 hz0 hlen hcells hold hroom (Nat.le_of_ble_eq_true hneed)
 obtain⟨hcr,hcl⟩:=grown_rel (Builtin.zeroCells cz.cells (nc - (l+m))) r1 r2 s1 s2
 obtain⟨a,h',n',φ',hk2,g1,g2,g3⟩:=fresh_out (l':=0) (u':=0) (d:=w.drawn+1) (e:=e) (z:=0) hw hcr hcl ⟨fun j _ _ h=>by omega,fun _=>.inl rfl⟩ hk1
 refine⟨_,h',n',φ',_,_,hk2,.inl (append_op hop hc ha hat (by rw [hs];exact hrun)),?_,g1,g2⟩
 have hczs:cz.cells.size=i.size:=by rw [<- cells_len hrz];exact h1.1
 have e1:=r1.length
 have e2:=r2.length
 simp only [VRel]
 refine .inl ⟨_,nc,g3,rfl,?_,hnc⟩
 simp only [Array.size_append,zeroCells_size,hczs]
 have e1':co.size=l*i.size:=by simp at e1;omega
 have e2':cn.size=m*i.size:=by simp at e2;omega
 rw [e1',e2']
 have:nc=(l+m)+(nc - (l+m)):=by omega
 conv=>lhs;rw [this]
 simp only [Nat.zero_add,Nat.add_mul]
theorem append_eff {c:Call} {s x:Operand} {t u e:TypeId} {d:TypeDesc} {i:TypeInfo} {z:AV}
  (hop:o.op=.call c) (hc:c.callee=.builtin .append) (ha:c.args.toList=[s,x]) (hat:c.argTypes.toList=[t,u]) (ht:X.P.underlying t=some (.slice e)) (hu:X.P.underlying u=some d) (hd:∀ k,d≠.int k) (hi:X.P.info? e=some i) (hz:TI.zero X.P e=some z) (h1:z.cells.length=i.size/\z.noTup=true/\i.bytes<=1048576)
  (hx:execV (.append e i.size) vs h n K=true) (hw:W X φ h n w) (hr:VRels φ vs ([s,x].map ρ)):Out X o K φ h n w ρ:=by
 obtain⟨hsz,hx1⟩:=guardB_iff.1 (hx:guardB _ _=true)
 have hsz':0 < i.size:=Nat.le_of_ble_eq_true hsz
 obtain⟨sv,xv,rfl,hx2⟩:=un2_iff.1 hx1
 obtain⟨rs,rx⟩:=rel2 hr
 have hArg:∃ m new,appendTo e i.size sv m new h n K=true/\Arg X φ i.size (ρ x) m new w:=by
  cases xv<;>first|exact Bool.noConfusion (hx2:false=true)|skip
  case str l code =>
   obtain⟨hs1,hx3⟩:=guardB_iff.1 (hx2:guardB (Nat.beq i.size 1) (bytesK l code fun new=>appendTo e i.size sv l new h n K)=true)
   have hs1':i.size=1:=Nat.eq_of_beq_eq_true hs1
   rw [bytesK_val] at hx3
   simp only [VRel] at rx
   obtain⟨hcode,rx⟩:=rx
   refine⟨l,_,hx3,⟨fun w'=>by rw [rx];simp only [Builtin.lenOf,str_size];rfl,((bytesOf l code).map fun b=>Value.int .u8 b.toNat).toArray,fun d=>?_,?_,?_,by simp [bytesOf_length,hs1']⟩⟩
   ·rw [rx]
    have:((⟨(bytesOf l code).toArray⟩:ByteArray).extract 0 l).data=(bytesOf l code).toArray:=by
     rw [ByteArray.data_extract]
     simp
     exact List.take_of_length_le (by rw [bytesOf_length];omega)
    simp only [Builtin.firstCells,this]
    simp
   ·simp only []
    generalize bytesOf l code=bs
    induction bs with
    | nil=>simp [VRels]
    | cons b bs ih=>exact VRels.cons (by simp [VRel]) ih
   ·rw [List.all_eq_true]
    intro v hv
    simp only [List.mem_map] at hv
    obtain⟨b,_,rfl⟩:=hv
    rfl
  case slc a q l cp =>
   obtain⟨cs,hrd,hl,hk1,_⟩:=loadN_val (hx2:loadN h a q (Nat.mul l i.size) _=true)
   simp only [VRel] at rx
   obtain⟨p,hpa,rx,_⟩:=rx
   exact⟨l,_,hk1,⟨fun w'=>by rw [rx];rfl,by rw [rx];exact cells_run hw hpa hrd hl⟩⟩
  case gsl a q l cp =>
   obtain⟨cs,hrd,hl,hk1,_⟩:=loadN_val (hx2:loadN h a q (Nat.mul l i.size) _=true)
   simp only [VRel] at rx
   rcases rx with ⟨p,cp',hpa,rx,_⟩ |⟨rfl,rfl,x',c',rx⟩
   rotate_left
   ·rw [show Nat.mul 0 i.size=0 from Nat.zero_mul _,List.take_zero] at hk1
    exact⟨0,[],hk1,⟨fun w'=>by rw [rx];rfl,#[],fun d=>by rw [rx];show (loadCells x' (0*i.size)).run X.P _=_;rw [Nat.zero_mul];rfl,by simp [VRels],rfl,by simp⟩⟩
   exact⟨l,_,hk1,⟨fun w'=>by rw [rx];rfl,by rw [rx];exact cells_run hw hpa hrd hl⟩⟩
  case nils =>
   simp only [VRel] at rx
   exact⟨0,[],hx2,⟨fun w'=>by rw [rx];rfl,#[],fun d=>by rw [rx];rfl,by simp [VRels],rfl,by simp⟩⟩
 obtain⟨m,new,hk,hlen,cn,hcells,r2,s2,l2⟩:=hArg
 rcases ifSl_iff.1 (hk:ifSl _ _ _ _=true) with ⟨rfl,hk1⟩ |⟨a,q,l,cp,rfl,hk1⟩ |⟨a,q,l,e',rfl,hk1⟩
 ·simp only [VRel] at rs
  rw [bool_rec_eq] at hk1
  split at hk1
  ·rename_i hm
   obtain rfl:m=0:=Nat.eq_of_beq_eq_true hm
   exact⟨_,h,n,φ,w,.slice none 0 0,hk1,.inl (append_op hop hc ha hat (by rw [rs];exact append_none ht hu hd hi (hlen w) (hcells w.drawn))),by simp [VRel],hw,Grow.refl _ _ _⟩
  ·rename_i hm
   have hm':m≠0:=fun e=>hm (by rw [e];rfl)
   exact fresh_app (b:=none) (l:=0) (cap:=0) (old:=[]) (co:=#[]) hop hc ha hat ht hu hd hi hz h1 hw rs hlen hcells (fun d=>rfl) (by simp [VRels]) r2 rfl s2 (by simp) l2 (by omega) (by simpa using hk1)
 ·rw [force_eq,force_eq,bool_rec_eq] at hk1
  simp only [VRel] at rs
  obtain⟨p,hpa,rs,hlc⟩:=rs
  split at hk1
  ·rename_i hroom
   rw [force_eq] at hk1
   obtain⟨h',w',hk2,hst,g1,g2⟩:=storeN_out hw hpa r2 s2 hk1
   have hroom':l+m<=cp:=Nat.le_of_ble_eq_true hroom
   refine⟨_,h',n,φ,w',.slice (some ⟨p.blk,p.off+q,none⟩) (l+m) cp,hk2,.inl (append_op hop hc ha hat (by
    rw [rs]
    refine append_stay ht hu hd hi (hlen w) (hcells w.drawn) hroom' ?_
    rw [addr_add,show p.off+q+l*i.size=p.off+(q+Nat.mul l i.size) from Nat.add_assoc _ _ _]
    exact hst)),?_,g1,g2⟩
   simp only [VRel]
   exact⟨p,hpa,rfl,hroom'⟩
  ·rename_i hroom
   have hroom':cp < l+m:=by
    apply Nat.lt_of_not_le
    intro hle
    exact hroom (Nat.ble_eq_true_of_le hle)
   obtain⟨cs,hrd,hl,hk2,_⟩:=loadN_val hk1
   obtain⟨co,hco,r1,s1,l1⟩:=cells_run (P:=X.P) (l:=l) (c:=cp) hw hpa hrd hl
   exact fresh_app hop hc ha hat ht hu hd hi hz h1 hw rs hlen hcells hco r1 r2 s1 s2 l1 l2 hroom' hk2
 ·obtain⟨hee,hk2⟩:=guardB_iff.1 hk1
  obtain rfl:e'=i.size:=Nat.eq_of_beq_eq_true hee
  rw [force_eq,force_eq] at hk2
  obtain⟨b,hb0,hk3⟩:=blkK_iff.1 hk2
  rcases ifCells_iff.1 hk3 with ⟨_,_,_,_,hk4⟩ |⟨cs,el,f,z0,rfl,hk4⟩
  ·exact Bool.noConfusion (hk4:false=true)
  rw [lenK_eq] at hk4
  obtain⟨g,hg,hk5⟩:=blkK_iff.1 hk4
  obtain⟨lo,la,rfl,hk6⟩:=ifFam_iff.1 hk5
  obtain⟨hla,hk7⟩:=guardB_iff.1 hk6
  obtain rfl:la=a:=Nat.eq_of_beq_eq_true hla
  obtain⟨hlo,hk8⟩:=guardB_iff.1 hk7
  have hlo':lo<=la:=Nat.le_of_ble_eq_true hlo
  rw [bool_rec_eq] at hk8
  simp only [VRel] at rs
  obtain⟨p,cp,hpa,rs,hend,hlc⟩ |⟨hbad,_⟩:=rs
  rotate_left
  ·omega
  obtain⟨han,b',ob,hb1,hob,hbr⟩:=hw.dom la p hpa
  rw [hb0] at hb1;simp at hb1;subst hb1
  obtain⟨c',l',u',rfl,q1,q2,q3,q4,hH⟩:=hbr
  have hcr:=q3 ⟨lo,la,hg,hlo'⟩
  have hfz:=q4 ⟨lo,hg⟩
  split at hk8
  ·rename_i hin
   have hin':q+(l+m)*i.size<=cs.length:=Nat.le_of_ble_eq_true hin
   have hroom:l+m<=cp:=by
    have:(l+m)*i.size<=cp*i.size:=by omega
    exact Nat.le_of_mul_le_mul_right this hsz'
   obtain⟨h',w',hk9,hst,g1,g2⟩:=storeN_out hw hpa r2 s2 hk8
   refine⟨_,h',n,φ,w',.slice (some ⟨p.blk,p.off+q,none⟩) (l+m) cp,hk9,.inl (append_op hop hc ha hat (by
    rw [rs]
    refine append_stay ht hu hd hi (hlen w) (hcells w.drawn) hroom ?_
    rw [addr_add,show p.off+q+l*i.size=p.off+(q+Nat.mul l i.size) from Nat.add_assoc _ _ _]
    exact hst)),?_,g1,g2⟩
   simp only [VRel]
   exact .inl ⟨p,cp,hpa,rfl,hend,hroom⟩
  ·obtain⟨hgd,hk9⟩:=guardB_iff.1 hk8
   simp only [Bool.and_eq_true] at hgd
   obtain⟨hat_,hneed,hel⟩:=hgd
   obtain rfl:el=e:=Nat.eq_of_beq_eq_true hel
   have hat':q+l*i.size=cs.length:=Nat.eq_of_beq_eq_true hat_
   have hneed':l+m<=1048576:=Nat.le_of_ble_eq_true hneed
   obtain⟨hz0,hk10⟩:=guardB_iff.1 hk9
   have hz0':z0<=cs.length:=Nat.le_of_ble_eq_true hz0
   rw [dropK_eq,appK_eq,putK_eq] at hk10
   obtain⟨z1,hz1,hk11⟩:∃ z1,(z1=if z0=1 then 1 else z0 - q)/\(newK (.row (cs.drop q++new) el f z1) (hput f (.fam lo n) h) n fun a h n=>K.v (.gsl a 0 (l+m) i.size) h n)=true:=by
    refine⟨_,rfl,?_⟩
    have hk10':Bool.rec (motive:=fun _=>Bool) (force (Nat.sub z0 q) fun z1=>newK (.row (cs.drop q++new) el f z1) (hput f (.fam lo n) h) n fun a h n=>K.v (.gsl a 0 (l+m) i.size) h n) (newK (.row (cs.drop q++new) el f 1) (hput f (.fam lo n) h) n fun a h n=>K.v (.gsl a 0 (l+m) i.size) h n) (Nat.beq z0 1)=true:=hk10
    rw [bool_rec_eq,force_eq] at hk10'
    by_cases e1:z0=1
    ·rw [if_pos e1];subst e1;exact hk10'
    ·rw [if_neg e1];rw [if_neg (fun h=>e1 (Nat.eq_of_beq_eq_true h))] at hk10';exact hk10'
   obtain⟨hn,hk12⟩:=newK_iff.1 hk11
   obtain⟨lo2,la2,hf2,_,hfn⟩:=hw.fam la p cs el f z0 hpa hb0
   have hrd:ReadableIs h la cs:=.inr (.inl ⟨el,f,z0,hb0,lo,la,hg,hlo'⟩)
   obtain⟨co,hco,r1,s1,l1⟩:=cells_run (P:=X.P) (q:=q) (m:=l) (esz:=i.size) (l:=l) (c:=cp) hw hpa hrd (.inr (by omega))
   have hdrop:(cs.drop q).take (l*i.size)=cs.drop q:=by
    apply List.take_of_length_le
    simp;omega
   rw [hdrop] at r1 s1 l1
   have hl2:=r2.length
   by_cases hroom:l+m<=cp
   ·
    have hmul:(l+m)*i.size<=cp*i.size:=Nat.mul_le_mul_right _ hroom
    have hadd:(l+m)*i.size=l*i.size+m*i.size:=Nat.add_mul _ _ _
    have hfit:p.off+(q+l*i.size)+0+cn.toList.length<=c'.size:=by omega
    have hst:=storeCells_run (P:=X.P) cn.toList w p.blk (p.off+(q+l*i.size)) 0 c' el l' u' hob hfit (r2.oneCells s2) (fun j j1 j2=>hfz.1 j (by omega) (by omega))
    have hcr':=hcr
    have hov:(overC c' (p.off+(q+l*i.size)+0) cn.toList).size=c'.size:=by simp only [overC,List.size_toArray];rw [splice_length (by simpa using hfit)];simp
    have hget:∀ j,(overC c' (p.off+(q+l*i.size)+0) cn.toList)[j]?=if p.off+(q+l*i.size)<=j/\j < p.off+(q+l*i.size)+cn.toList.length then cn.toList[j - (p.off+(q+l*i.size))]? else c'[j]?:=by
     intro j
     have:=splice_get (off:=p.off+(q+l*i.size)+0) (new:=cn.toList) (vs:=c'.toList) (by simpa using hfit) j
     unfold overC
     rw [List.getElem?_toArray,this,Nat.add_zero,Array.getElem?_toList (xs:=c')]
    have hle:=hw.le_put (Nat.le_refl n) ⟨p.blk,p.off+q,p.size⟩
    have hcr2:CRel (φ.put n ⟨p.blk,p.off+q,p.size⟩) (cs.drop q++new) (p.off+q) (overC c' (p.off+(q+l*i.size)+0) cn.toList):=by
     intro j v hv
     by_cases hj:j <(cs.drop q).length
     ·rw [List.getElem?_append_left hj,List.getElem?_drop] at hv
      obtain⟨h3,y,h4,h5⟩:=hcr (q+j) v hv
      refine⟨h3,y,?_,VRel.mono hle _ _ h5⟩
      simp at hj
      rw [hget,if_neg (by omega),show p.off+q+j=p.off+(q+j) by omega]
      exact h4
     ·rw [List.getElem?_append_right (by omega)] at hv
      obtain⟨y,h4,h5⟩:=r2.get hv
      rw [List.all_eq_true] at s2
      have hlt:j - (cs.drop q).length < cn.toList.length:=(List.getElem?_eq_some_iff.1 h4).1
      refine⟨s2 v (List.mem_of_getElem? hv),y,?_,VRel.mono hle _ _ h5⟩
      have hdl:(cs.drop q).length=l*i.size:=by simp;omega
      rw [hget,if_pos (by omega),show p.off+q+j - (p.off+(q+l*i.size))=j - (cs.drop q).length by omega]
      exact h4
    have hself:=set_get_self (w:=w) (o:=.cells (overC c' (p.off+(q+l*i.size)+0) cn.toList) el (l',u')) hob
    obtain⟨g1,g2⟩:=hw.newRow hn (f:=f) (lo:=lo) (la:=la) (cs:=cs.drop q++new) (e:=el) (z:=z1) (p':=⟨p.blk,p.off+q,p.size⟩) (w':={ w with heap:=w.heap.setIfInBounds p.blk (.cells (overC c' (p.off+(q+l*i.size)+0) cn.toList) el (l',u')) }) hg hfn (.inl han) hself (by rw [hov];exact q1)
     (by simp;omega) hcr2
     ⟨fun j j1 j2=>hfz.1 j (by simp only [hz1] at j1;split at j1<;>omega) j2,fun hne=>by
      rw [hz1] at hne ⊢
      split at hne
      ·exact absurd rfl hne
      ·rename_i h01
       rw [if_neg h01]
       rcases hfz.2 h01 with h|h
       ·exact .inl h
       ·right;simp only [];omega⟩ hH
     (fun x y _ hne=>set_get_ne hne)
     (fun x y hxy hblk=>by
      by_cases exa:x=la
      ·subst exa
       rw [hpa] at hxy;simp at hxy;subst hxy
       refine⟨cs,z0,c',hb0,hob,hov.symm,by simp;omega,fun j hj=>?_⟩
       rw [hget,if_neg (by omega)]
      ·obtain⟨v1,e1,f1,zz1,v2,e2,zz2,hx1',hx2',hx3'⟩:=(hw.sep x la y p hxy hpa exa hblk).resolve_right (by have:y.blk=p.blk:=hblk;omega)
       rw [hb0] at hx2'
       simp at hx2'
       obtain⟨rfl,rfl,rfl,rfl⟩:=hx2'
       obtain⟨lo3,la3,hf3,hle3,_⟩:=hw.fam x y v1 e1 _ zz1 hxy hx1'
       rw [hg] at hf3;simp at hf3
       have hlt3:x < la:=by omega
       have hlen3:=hx3' hlt3
       obtain⟨_,bx,ox,hbx1,hbx2,hbx3⟩:=hw.dom x y hxy
       rw [hx1'] at hbx1;simp at hbx1;subst hbx1
       obtain⟨cx,lx,ux,hox,_⟩:=hbx3
       have hblk':y.blk=p.blk:=hblk
       rw [hblk',hob] at hbx2
       simp at hbx2
       rw [<- hbx2] at hox
       simp at hox
       obtain⟨_,rfl,_⟩:=hox
       refine⟨v1,zz1,c',hx1',by rw [hblk'];exact hob,hov.symm,by simp;omega,fun j hj=>?_⟩
       rw [hget,if_neg (by omega)])
     (fun b hb=>set_get_ne (by omega)) (by simp) rfl rfl rfl
    refine⟨_,_,_,_,_,.slice (some ⟨p.blk,p.off+q,none⟩) (l+m) cp,hk12,.inl (append_op hop hc ha hat (by
     rw [rs]
     refine append_stay ht hu hd hi (hlen w) (hcells w.drawn) hroom ?_
     rw [addr_add,show p.off+q+l*i.size=p.off+(q+l*i.size) from Nat.add_assoc _ _ _]
     exact hst)),?_,g1,g2⟩
    simp only [VRel]
    exact .inl ⟨_,cp,Phi.put_self _ _ _,rfl,by simpa using hend,hroom⟩
   ·
    have hroom':cp < l+m:=by omega
    obtain⟨cz,hcz,hrz⟩:=zero_rel (P:=X.P) (φ:=φ) w hz
    have hz00:∀ w,(zeroValue el).run X.P w=.ok cz w:=fun w'=>by
     obtain⟨cz',hcz',_⟩:=zero_rel (P:=X.P) (φ:=φ) w' hz
     have:cz'=cz:=by
      simp only [zeroValue,typeInfo,Sem.run_bind,run_program,Result.andThen_ok,hi] at hcz hcz'
      cases hzz:i.zero with
      | none=>simp [hzz] at hcz
      | some v=>simp [hzz] at hcz hcz';rw [<- hcz,<- hcz']
     rw [hcz',this]
    obtain⟨nc,hnc,hrun⟩:=append_grow (ty:=o.type) ht hu hd hi h1.2.2 hz00 hlen hcells hco hroom' hneed'
    obtain⟨hcr3,hcl3⟩:=grown_rel (Builtin.zeroCells cz.cells (nc - (l+m))) r1 r2 s1 s2
    have hczs:cz.cells.size=i.size:=by rw [<- cells_len hrz];exact h1.1
    have e1:=r1.length
    have e1':co.size=l*i.size:=by simp at e1 l1;omega
    have e2':cn.size=m*i.size:=by simp at hl2;omega
    have hsize:(co++cn++Builtin.zeroCells cz.cells (nc - (l+m))).size=nc*i.size:=by
     simp only [Array.size_append,zeroCells_size,hczs]
     rw [e1',e2']
     have:nc=(l+m)+(nc - (l+m)):=by omega
     conv=>rhs;rw [this]
     simp only [Nat.add_mul]
    generalize hc3:co++cn++Builtin.zeroCells cz.cells (nc - (l+m))=c3 at hrun hcr3 hcl3 hsize
    have hle:=hw.le_put (Nat.le_refl n) ⟨w.heap.size,0,c3.size⟩
    obtain⟨g1,g2⟩:=hw.newRow hn (f:=f) (lo:=lo) (la:=la) (cs:=cs.drop q++new) (e:=el) (z:=z1) (p':=⟨w.heap.size,0,c3.size⟩) (c':=c3) (l':=0) (u':=0) (w':={ w with heap:=w.heap.push (.cells c3 el),drawn:=w.drawn+1 }) hg hfn (.inl han) (by simp) rfl
     (by simpa using hcl3) (hcr3.mono hle) ⟨fun j _ _ hh=>by omega,fun _=>.inl rfl⟩ hw.size
     (fun x y hxy _=>by simp only [];rw [push_get (hw.blk_lt hxy)])
     (fun x y hxy hblk=>by have:=hw.blk_lt hxy;simp only [] at hblk;omega)
     (fun b hb=>by have:=hw.size;simp only [];rw [push_get (by omega)]) (by simp) rfl rfl rfl
    refine⟨_,_,_,_,_,.slice (some ⟨w.heap.size,0,none⟩) (l+m) nc,hk12,.inl (append_op hop hc ha hat (by rw [rs];exact hrun)),?_,g1,g2⟩
    simp only [VRel]
    exact .inl ⟨_,nc,Phi.put_self _ _ _,rfl,by simp only [Nat.zero_add];exact hsize.symm,hnc⟩
end
section
variable {X:Ctx} {o:Oper} {vs:List AV} {h:Hp} {n:Nat} {K:KS} {φ:Phi} {w:World} {ρ:Operand->Value}
def extRow:Ext->Array Value->Sem Value
 | .noEscape=>Extern.AbiNoEscape.same
 | .countStr=>Extern.BytealgCount.count
 | .indexByteStr=>Extern.BytealgIndexByte.indexByte
def ExtOk (X:Ctx):Prop:=∀ f x,extN X.N f=some x->∃ fn,X.P.funcs[f]?=some fn/\(fn.name == "runtime.NumGoroutine") = false/\fn.body=none/\Extern.findNext fn=none/\Extern.find fn=some (extRow x)
theorem ext_op {c:Call} {f:FuncId} {x:Ext} {r:Value} {w':World} (hX:ExtOk X) (hop:o.op=.call c) (hc:c.callee=.value (.func f)) (hf:ρ (.func f)=.func (.func f) #[] #[]) (hn:extN X.N f=some x) (h:(extRow x (c.args.map ρ)).run X.P w=.ok r w'):(execOp ρ o).run X.P w=.ok (.value r) w':=by
 obtain⟨fn,h1,h2,h3,h4,h5⟩:=hX f x hn
 have h2':¬ fn.name= "runtime.NumGoroutine":=by simpa using h2
 simp [execOp,hop,resolve,hc,hf,Deferred.ofValue,invoke,callFunc,h1,h2',h3,h4,h5,h]
theorem beq_byte (x b:UInt8):(x == b)=Nat.beq x.toNat b.toNat:=by
 rw [Bool.eq_iff_iff]
 simp [UInt8.toNat_inj]
theorem count_eq (b:UInt8):∀ (l:List UInt8),Lib.countByte l b=countB b.toNat l
 | []=>by simp [countB,Lib.countByte]
 | x::l=>by
  have ih:=count_eq b l
  unfold Lib.countByte at ih ⊢
  rw [List.count_cons,ih,countB,beq_byte]
  split<;>omega
theorem indexB_add (b:Nat):∀ (l:List UInt8) (i:Nat),indexB b l (i+1)=if indexB b l i=-1 then -1 else indexB b l i+1
 | [],i=>by simp [indexB]
 | x::l,i=>by
  unfold indexB
  by_cases h:Nat.beq x.toNat b=true
  ·rw [if_pos h,if_pos h]
   show ((i+1:Nat):Int)=if (i:Int)=-1 then -1 else (i:Int)+1
   rw [if_neg (by omega)];omega
  ·rw [if_neg h,if_neg h]
   exact indexB_add b l (i+1)
theorem index_eq (b:UInt8):∀ (l:List UInt8),Lib.indexByte l b=indexB b.toNat l 0
 | []=>rfl
 | x::l=>by
  have ih:=index_eq b l
  unfold Lib.indexByte indexB
  rw [beq_byte]
  split
  ·rfl
  ·rw [ih,indexB_add]
   simp only [beq_iff_eq]
theorem ext_eff {c:Call} {f:FuncId} {x:Ext} (hX:ExtOk X) (hop:o.op=.call c) (hc:c.callee=.value (.func f)) (hf:ρ (.func f)=.func (.func f) #[] #[]) (hn:extN X.N f=some x) (hx:execV (.ext x) vs h n K=true) (hw:W X φ h n w) (hr:VRels φ vs (c.args.toList.map ρ)):Out X o K φ h n w ρ:=by
 have hargs:∀ l,c.args.toList.map ρ=l->c.args.map ρ=l.toArray:=fun l e=>by
  apply Array.ext'
  simpa using e
 cases x with
 | noEscape =>
  obtain⟨v,rfl,hx1⟩:=un1_iff.1 (hx:un1 _ vs=true)
  obtain⟨a,q,rfl,hx2⟩:=ifPtr_iff.1 hx1
  obtain⟨cv,hl,hv⟩:=VRels.one.1 hr
  exact⟨_,h,n,φ,w,cv,hx2,.inl (ext_op hX hop hc hf hn (by rw [hargs _ hl];rfl)),hv,hw,Grow.refl _ _ _⟩
 | countStr =>
  obtain⟨sv,bv,rfl,hx1⟩:=un2_iff.1 (hx:un2 _ vs=true)
  obtain⟨l,code,rfl,hx2⟩:=ifStr_iff.1 hx1
  obtain⟨k,b,rfl,hx3⟩:=ifInt_iff.1 hx2
  obtain⟨hk,hx4⟩:=guardB_iff.1 hx3
  obtain rfl:=isU8_iff.1 hk
  obtain⟨b,rfl,hx5⟩:=natI_iff.1 hx4
  obtain⟨hb,hx6⟩:=guardB_iff.1 hx5
  have hb':b < 256:=Nat.le_of_ble_eq_true hb
  rw [force_eq] at hx6
  obtain⟨cs,cb,hl,h1,h2⟩:=VRels.two.1 hr
  rw [int_rel] at h2
  simp only [VRel] at h1
  obtain⟨hcode,h1⟩:=h1
  refine⟨_,h,n,φ,w,.int .i64 (countB b (bytesOf l code):Nat),hx6,.inl (ext_op hX hop hc hf hn ?_),by simp [VRel],hw,Grow.refl _ _ _⟩
  rw [hargs _ hl,h1,h2]
  have hb2:((b:Int).toNat.toUInt8).toNat=b:=by simp;omega
  have hrun:=Lib.run_countString (P:=X.P) ⟨(bytesOf l code).toArray⟩ (b:Int) w
  rw [count_eq,hb2] at hrun
  exact hrun
 | indexByteStr =>
  obtain⟨sv,bv,rfl,hx1⟩:=un2_iff.1 (hx:un2 _ vs=true)
  obtain⟨l,code,rfl,hx2⟩:=ifStr_iff.1 hx1
  obtain⟨k,b,rfl,hx3⟩:=ifInt_iff.1 hx2
  obtain⟨hk,hx4⟩:=guardB_iff.1 hx3
  obtain rfl:=isU8_iff.1 hk
  obtain⟨b,rfl,hx5⟩:=natI_iff.1 hx4
  obtain⟨hb,hx6⟩:=guardB_iff.1 hx5
  have hb':b < 256:=Nat.le_of_ble_eq_true hb
  rw [forceI_eq] at hx6
  obtain⟨cs,cb,hl,h1,h2⟩:=VRels.two.1 hr
  rw [int_rel] at h2
  simp only [VRel] at h1
  obtain⟨hcode,h1⟩:=h1
  refine⟨_,h,n,φ,w,.int .i64 (indexB b (bytesOf l code) 0),hx6,.inl (ext_op hX hop hc hf hn ?_),by simp [VRel],hw,Grow.refl _ _ _⟩
  rw [hargs _ hl,h1,h2]
  have hb2:((b:Int).toNat.toUInt8).toNat=b:=by simp;omega
  have hrun:=Lib.run_indexByteString (P:=X.P) ⟨(bytesOf l code).toArray⟩ (b:Int) w
  rw [index_eq,hb2] at hrun
  exact hrun
end
def isCall:OC->Bool
 | .call _|.callv|.invoke _=>true
 | _=>false
section
variable {X:Ctx} {o:Oper} {vs:List AV} {h:Hp} {n:Nat} {K:KS} {φ:Phi} {w:World} {ρ:Operand->Value}
theorem eff_sim {oc:OC} {xs:List Operand} (hX:ExtOk X) (hc:compOp X.P X.N o=some (oc,xs)) (hq:quiet oc=.eff) (hcall:isCall oc=false) (hx:execV oc vs h n K=true) (hw:W X φ h n w) (hf:∀ f,ρ (.func f)=.func (.func f) #[] #[]) (hr:VRels φ vs (xs.map ρ)):Out X o K φ h n w ρ:=by
 have his:=compOp_is hc
 generalize hop:o.op=op at his
 cases his<;>simp [quiet] at hq<;>simp [isCall] at hcall
 case panic=>exact Bool.noConfusion (hx:false=true)
 case defer=>exact Bool.noConfusion (hx:false=true)
 case recover=>exact Bool.noConfusion (hx:false=true)
 case store hs=>exact store_eff hop hs hx hw hr
 case toUns hs ht he=>exact toUns_eff hop hs ht he hx hw hr
 case fromUns hs ht hu=>exact fromUns_eff hop hs ht hu hx hw hr
 case convSB hs ht he=>exact convSB_eff hop hs ht he hx hw hr
 case mapUpd ht hf' hg=>exact mapUpd_eff (.inl hop) ht hf' hg hx hw hr
 case insert ht hf' hg=>exact mapUpd_eff (.inr hop) ht hf' hg hx hw hr
 case range ht=>exact rangeMap_eff hop ht hx hw hr
 case next=>exact nextMap_eff hop hx hw hr
 case ext hcal hn=>exact ext_eff hX hop hcal (hf _) hn hx hw hr
 case append hcal ha hat ht hu hd hi hz h1=>exact append_eff hop hcal ha hat ht hu hd hi hz h1 hx hw hr
 case copyS hcal ha hat ht hu hs=>exact copyS_eff hop hcal ha hat ht hu hs hx hw hr
 case ustr hcal ha hat ht he=>exact ustr_eff hop hcal ha hat ht he hx hw hr
theorem op_out {oc:OC} {xs:List Operand} (hX:ExtOk X) (hc:compOp X.P X.N o=some (oc,xs)) (hcall:isCall oc=false) (hx:execV oc vs h n K=true) (hw:W X φ h n w) (hcst:∀ v,ρ (.const v)=v) (hf:∀ f,ρ (.func f)=.func (.func f) #[] #[]) (hr:VRels φ vs (xs.map ρ)):Out X o K φ h n w ρ:=by
 cases hq:quiet oc with
 | pure =>
  obtain⟨v,h1,h2⟩:=pure_sim hc hq hx
  obtain⟨c,h3,h4⟩:=h2 φ ρ w hcst hr
  rw [h1] at hx
  exact⟨v,h,n,φ,w,c,hx,.inl h3,h4,hw,Grow.refl _ _ _⟩
 | read =>
  obtain⟨v,h1,h2⟩:=read_sim hc hq hx
  obtain⟨c,h3,h4⟩:=h2 φ n w ρ hw hcst hr
  rw [h1] at hx
  exact⟨v,h,n,φ,w,c,hx,.inl h3,h4,hw,Grow.refl _ _ _⟩
 | make =>
  obtain⟨b,val,h1,h2,h3,h4⟩:=make_sim hc hq hx
  obtain⟨ob,sz,c,h5,h6⟩:=h4 φ ρ w hcst hr hw.size
  rw [h1] at hx
  obtain⟨hn,hx1⟩:=newK_iff.1 hx
  obtain⟨h7,h8⟩:=h6 (φ.put n ⟨w.heap.size,0,sz⟩) (hput n b h) n (hw.le_put (Nat.le_refl n) _) (Phi.put_self _ _ _)
  obtain⟨g1,g2⟩:=hw.new hn h2 h8
  exact⟨_,_,_,_,_,c,hx1,.inl h5,h7,g1,g2⟩
 | eff=>exact eff_sim hX hc hq hcall hx hw hf hr
end
section
variable {X:Ctx} {o:Oper} {vs:List AV} {h:Hp} {n:Nat} {K:KS} {φ:Phi} {w:World} {ρ:Operand->Value}
def CallOut (X:Ctx) (o:Oper) (K:KS) (φ:Phi) (h:Hp) (n:Nat) (w:World) (ρ:Operand->Value):Prop :=
 (∃ f args cargs,K.call f args h n=true/\VRels φ args cargs.toList/\(execOp ρ o).run X.P w=(callFunc f cargs).run X.P w) \/
 (∃ l args cargs p,K.yld l args h n=true/\φ l=some p/\VRels φ args cargs.toList/\(execOp ρ o).run X.P w=(Instr.yield p.blk cargs).run X.P w)
theorem call_out {c:Call} {f:FuncId} (hop:o.op=.call c) (hc:c.callee=.value (.func f)) (hf:ρ (.func f)=.func (.func f) #[] #[]) (hx:execV (.call f) vs h n K=true) (hr:VRels φ vs (c.args.toList.map ρ)):CallOut X o K φ h n w ρ:=by
 refine .inl ⟨f,vs,c.args.map ρ,hx,by simpa using hr,?_⟩
 simp [execOp,hop,resolve,hc,hf,Deferred.ofValue,invoke]
theorem callv_out {c:Call} {g:Operand} (hop:o.op=.call c) (hc:c.callee=.value g) (hx:execV .callv vs h n K=true) (hr:VRels φ vs ((g::c.args.toList).map ρ)):CallOut X o K φ h n w ρ:=by
 obtain⟨fv,args,rfl,hx1⟩:=consK_iff.1 (hx:List.casesOn (motive:=fun _=>Bool) vs false _=true)
 rw [List.map_cons,VRels.cons_cons] at hr
 obtain⟨r1,r2⟩:=hr
 rcases ifFn_iff.1 hx1 with ⟨f,a,b,rfl,hx2⟩ |⟨l,rfl,hx2⟩
 ·rw [appK_eq,appK_eq] at hx2
  simp only [VRel] at r1
  obtain⟨x,y,hg,r3,r4⟩:=r1
  refine .inl ⟨f,_,x++c.args.map ρ++y,hx2,?_,?_⟩
  ·have:=r3.append (r2.append r4)
   simpa using this
  ·simp [execOp,hop,resolve,hc,hg,Deferred.ofValue,invoke]
 ·simp only [VRel] at r1
  obtain⟨p,hp,hg⟩:=r1
  refine .inr ⟨l,args,c.args.map ρ,p,hx2,hp,by simpa using r2,?_⟩
  simp [execOp,hop,resolve,hc,hg,Deferred.ofValue,invoke]
theorem method_run {P:Program} {t:TypeId} {name:String} {f:FuncId} {v:Value} (m:Nat) (hm:compM P t name=some f):(method (m+1) t v name).run P w=.ok (f,v) w:=by
 unfold compM at hm
 split at hm<;>try (simp at hm;done)
 rename_i i hi
 split at hm<;>try (simp at hm;done)
 rename_i mt hmt
 split at hm<;>first |(simp at hm;done)|skip
 rename_i g d hd hfunc hpath hu
 simp only [Option.some.injEq] at hm
 subst hm
 have hpath':mt.path.toList=[]:=by
  have:mt.path=#[]:=by simpa using hpath
  rw [this]
 have hrec:∀ wr,(receiverAt t (.val v) false wr).run P w=.ok v w:=by
  intro wr
  unfold receiverAt
  have hund:(underlying t).run P w=.ok d w:=by
   unfold TI.und at hu
   simp [underlying,hu]
  rw [Sem.run_bind,hund,Result.andThen_ok]
  cases d<;>first|rfl |(exact (hd _ rfl).elim)
 unfold method
 simp [typeInfo,hi,hmt,hpath',follow,hfunc,hrec]
theorem invoke_out {c:Call} {r:Operand} {name:String} (hop:o.op=.call c) (hc:c.callee=.invoke r name) (hK:K.meth=compM X.P) (hx:execV (.invoke name) vs h n K=true) (hr:VRels φ vs ((r::c.args.toList).map ρ)):CallOut X o K φ h n w ρ:=by
 obtain⟨rv,args,rfl,hx1⟩:=consK_iff.1 (hx:List.casesOn (motive:=fun _=>Bool) vs false _=true)
 rw [List.map_cons,VRels.cons_cons] at hr
 obtain⟨r1,r2⟩:=hr
 obtain⟨t,v,rfl,hx2⟩:=ifIfc_iff.1 hx1
 rw [hK] at hx2
 simp only [VRel] at r1
 obtain⟨y,hy,ry⟩:=r1
 cases hm:compM X.P t name with
 | none=>rw [hm] at hx2;exact Bool.noConfusion (hx2:false=true)
 | some f =>
  rw [hm] at hx2
  refine .inl ⟨f,v::args,#[y]++c.args.map ρ,hx2,by simpa using VRels.cons ry r2,?_⟩
  have hmr:=method_run (P:=X.P) (v:=y) (w:=w) (X.P.types.size+Made.depth - 1) hm
  have hd:X.P.types.size+Made.depth - 1+1=X.P.types.size+Made.depth:=by
   have:0 < Made.depth:=by decide
   omega
  rw [hd] at hmr
  have h0:(#[Value.iface t y]++Array.map ρ c.args)[0]?=some (.iface t y):=by rw [Array.getElem?_append_left (by simp)];rfl
  have h1:(Array.map ρ c.args).extract 0 c.args.size=Array.map ρ c.args:=by have:=Array.extract_size (xs:=Array.map ρ c.args);simpa only [Array.size_map] using this
  simp only [execOp,hop,resolve,hc,hy,invoke,Sem.run_bind,Sem.run_pure,Result.andThen_ok,h0,callMethod,run_program,hmr]
  congr 2
  simp
  rw [h1]
theorem calls_out {oc:OC} {xs:List Operand} (hc:compOp X.P X.N o=some (oc,xs)) (hcall:isCall oc=true) (hK:K.meth=compM X.P) (hf:∀ f,ρ (.func f)=.func (.func f) #[] #[]) (hx:execV oc vs h n K=true) (hr:VRels φ vs (xs.map ρ)):CallOut X o K φ h n w ρ:=by
 have his:=compOp_is hc
 generalize hop:o.op=op at his
 cases his<;>simp [isCall] at hcall
 case call hcal hn=>exact call_out hop hcal (hf _) hx hr
 case callv hcal hn=>exact callv_out hop hcal hx hr
 case invoke hcal=>exact invoke_out hop hcal hK hx hr
end
def ev (tmps:Array Value):Operand->Value
 | .tmp t=>tmps.getD t undef
 | .const v=>v
 | .global g=>.pointer (some ⟨g,0,none⟩)
 | .func f=>.func (.func f) #[] #[]
def RRelOn (φ:Phi) (S:Nat->Prop) (t:Tr) (tmps:Array Value):Prop :=
 ∀ (i:Nat) (v:AV),S i->i < 256->reg t i=some v->∃ c,tmps[i]?=some c/\VRel φ v c
theorem RRelOn.mono {φ φ':Phi} {S:Nat->Prop} {t:Tr} {tmps:Array Value} (h:φ.le φ') (r:RRelOn φ S t tmps):RRelOn φ' S t tmps:=fun i v hs hi hv=>by
 obtain⟨x,h2,h3⟩:=r i v hs hi hv
 exact⟨x,h2,VRel.mono h _ _ h3⟩
theorem RRelOn.weaken {φ:Phi} {S S':Nat->Prop} {t:Tr} {tmps:Array Value} (h:∀ i,S' i->S i) (r:RRelOn φ S t tmps):RRelOn φ S' t tmps:=fun i v hs hi hv=>r i v (h i hs) hi hv
theorem RRel.on {φ:Phi} {S:Nat->Prop} {t:Tr} {tmps:Array Value} (r:RRel φ t tmps):RRelOn φ S t tmps:=fun i v _ hi hv=>r i v hi hv
theorem RRelOn.all {φ:Phi} {S:Nat->Prop} {t:Tr} {tmps:Array Value} (h:∀ i,S i) (r:RRelOn φ S t tmps):RRel φ t tmps:=fun i v hi hv=>r i v (h i) hi hv
theorem reg_eq {t:Tr} {i:Nat} {v:AV}:reg t i=some v ↔ getP (pathOf depth i) t=.leaf v:=by
 unfold reg
 cases getP (pathOf depth i) t<;>simp
theorem val_rel {N:FuncId->Option Ext} {φ:Phi} {S:Nat->Prop} {t:Tr} {tmps:Array Value} {x:Operand} {c:CX} {v:AV} (hc:cx N x=some c) (hv:c.val t=some v) (hS:∀ i,x=.tmp i->S i) (hr:RRelOn φ S t tmps) (hG:∀ g,N (1000000+g)≠none->∃ sz,φ g=some ⟨g,0,sz⟩):VRel φ v (ev tmps x):=by
 cases x with
 | tmp i =>
  simp only [cx] at hc
  split at hc
  ·rename_i hi
   simp at hc
   subst hc
   have hv':reg t i=some v:=by
    rw [reg_eq]
    simp only [CX.val] at hv
    cases hg:getP (pathOf depth i) t<;>rw [hg] at hv<;>simp at hv
    rw [hv]
   obtain⟨c,h1,h2⟩:=hr i v (hS i rfl) hi hv'
   simpa [ev,h1] using h2
  ·simp at hc
 | const u =>
  simp only [cx,Option.map_eq_some_iff] at hc
  obtain⟨a,h1,rfl⟩:=hc
  simp [CX.val] at hv;subst hv
  exact ofValue_rel _ _ h1
 | global g =>
  simp only [cx] at hc
  split at hc
  ·rename_i e he
   simp at hc;subst hc
   simp [CX.val] at hv;subst hv
   obtain⟨sz,hsz⟩:=hG g (by rw [he];simp)
   simp only [VRel]
   exact⟨_,hsz,rfl⟩
  ·simp at hc
 | func f =>
  simp [cx] at hc;subst hc
  simp [CX.val] at hv;subst hv
  simp only [VRel]
  exact⟨#[],#[],rfl,by simp [VRels],by simp [VRels]⟩
theorem vals_rel {N:FuncId->Option Ext} {φ:Phi} {S:Nat->Prop} {t:Tr} {tmps:Array Value} (hG:∀ g,N (1000000+g)≠none->∃ sz,φ g=some ⟨g,0,sz⟩):∀ {xs:List Operand} {cs:List CX} {vs:List AV},cxs N xs=some cs->vals cs t=some vs->(∀ i,Operand.tmp i ∈ xs->S i)->RRelOn φ S t tmps->VRels φ vs (xs.map (ev tmps))
 | [],cs,vs,hc,hv,hS,hr=>by
  simp [cxs] at hc;subst hc
  simp [vals] at hv;subst hv
  simp [VRels]
 | x::xs,cs,vs,hc,hv,hS,hr=>by
  simp only [cxs] at hc
  split at hc
  ·rename_i c cs' h1 h2
   simp at hc;subst hc
   simp only [vals] at hv
   split at hv
   ·rename_i v vs' h3 h4
    simp at hv;subst hv
    exact VRels.cons (val_rel h1 h3 (fun i e=>hS i (by simp [e])) hr hG) (vals_rel hG h2 h4 (fun i e=>hS i (List.mem_cons_of_mem _ e)) hr)
   ·simp at hv
  ·simp at hc
theorem cx_tmp {N:FuncId->Option Ext} {x:Operand} {c:CX} {i:Nat} (hc:cx N x=some c) (hx:x=.tmp i):i < 256/\c=.r (pathOf depth i):=by
 subst hx
 simp only [cx] at hc
 split at hc
 ·rename_i hi;simp at hc;exact⟨hi,hc.symm⟩
 ·simp at hc
theorem cxs_mem {N:FuncId->Option Ext}:∀ {xs:List Operand} {cs:List CX} {i:Nat},cxs N xs=some cs->Operand.tmp i ∈ xs->i < 256/\CX.r (pathOf depth i) ∈ cs
 | [],cs,i,hc,hx=>by simp at hx
 | x::xs,cs,i,hc,hx=>by
  simp only [cxs] at hc
  split at hc
  ·rename_i c cs' h1 h2
   simp at hc;subst hc
   rcases List.mem_cons.1 hx with hx|hx
   ·obtain⟨h3,rfl⟩:=cx_tmp h1 hx.symm
    exact⟨h3,by simp⟩
   ·obtain⟨h3,h4⟩:=cxs_mem h2 hx
    exact⟨h3,List.mem_cons_of_mem _ h4⟩
  ·simp at hc
structure OpOk (X:Ctx) (nt:Nat) (ops:Array Oper) (o:Oper) (c:COp) (oxs:List Operand):Prop where
 op:compOp X.P X.N o=some (c.k,oxs)
 xs:cxs X.N oxs=some c.xs
 dst:(o.dst=none/\c.dst=none)\/∃ d,o.dst=some d/\d < nt/\c.dst=some (pathOf depth d)
 guard:(o.guard=none/\c.guard=none)\/∃ j b g,o.guard=some (j,b)/\(ops[j]?).bind (·.dst)=some g/\g < nt/\c.guard=some (pathOf depth g,b)
theorem tpath_some {nt t:Nat} {p:Path} (h:tpath nt t=some p):t < nt/\p=pathOf depth t:=by
 unfold tpath at h
 split at h
 ·rename_i hi;simp at h;exact⟨hi,h.symm⟩
 ·simp at h
theorem compO_cases (X:Ctx) (nt:Nat) (ops:Array Oper) (o:Oper):compO X.P X.N nt ops o=badOp\/∃ oxs,OpOk X nt ops o (compO X.P X.N nt ops o) oxs:=by
 unfold compO
 cases h1:compOp X.P X.N o with
 | none=>exact .inl rfl
 | some p =>
  obtain⟨oc,oxs⟩:=p
  simp only []
  cases h2:cxs X.N oxs with
  | none=>exact .inl rfl
  | some xs =>
   simp only []
   cases hd:o.dst with
   | none =>
    cases hg:o.guard with
    | none=>exact .inr ⟨oxs,⟨h1,h2,.inl ⟨hd,rfl⟩,.inl ⟨hg,rfl⟩⟩⟩
    | some jb =>
     obtain⟨j,b⟩:=jb
     simp only []
     cases hj:(ops[j]?).bind (·.dst) with
     | none=>exact .inl rfl
     | some g =>
      simp only []
      cases hp:tpath nt g with
      | none=>exact .inl rfl
      | some p =>
       obtain⟨h3,rfl⟩:=tpath_some hp
       exact .inr ⟨oxs,⟨h1,h2,.inl ⟨hd,rfl⟩,.inr ⟨j,b,g,hg,hj,h3,rfl⟩⟩⟩
   | some d =>
    cases hg:o.guard with
    | none =>
     simp only []
     cases hp:tpath nt d with
     | none=>exact .inl rfl
     | some p =>
      obtain⟨h3,rfl⟩:=tpath_some hp
      exact .inr ⟨oxs,⟨h1,h2,.inr ⟨d,hd,h3,rfl⟩,.inl ⟨hg,rfl⟩⟩⟩
    | some jb =>
     obtain⟨j,b⟩:=jb
     simp only []
     cases hj:(ops[j]?).bind (·.dst) with
     | none=>exact .inl rfl
     | some g =>
      simp only []
      cases hp:tpath nt g with
      | none=>exact .inl rfl
      | some p =>
       obtain⟨h3,rfl⟩:=tpath_some hp
       simp only []
       cases hq:tpath nt d with
       | none=>exact .inl rfl
       | some q =>
        obtain⟨h4,rfl⟩:=tpath_some hq
        exact .inr ⟨oxs,⟨h1,h2,.inr ⟨d,hd,h4,rfl⟩,.inr ⟨j,b,g,hg,hj,h3,rfl⟩⟩⟩
theorem wantK_iff {g:Option (Path × Bool)} {t:Tr} {yes no:Bool}:wantK g t yes no=true ↔
  (g=none/\yes=true)\/∃ p b v,g=some (p,b)/\getP p t=.leaf v/\((v=.bool b/\yes=true)\/(v≠.bool b/\no=true)):=by
 cases g with
 | none=>simp [wantK]
 | some pb =>
  obtain⟨p,b⟩:=pb
  have:wantK (some (p,b)) t yes no=leafK (getP p t) fun v=>AV.casesOn v (fun c=>Bool.rec (motive:=fun _=>Bool) no yes (c == b)) (fun _ _=>no) (fun _ _=>no) (fun _ _=>no) no (fun _ _ _ _=>no) (fun _ _ _ _=>no) no (fun _=>no) no (fun _ _ _=>no) (fun _=>no) no (fun _ _=>no) no (fun _=>no) (fun _=>no):=rfl
  rw [this,leafK_iff]
  constructor
  ·rintro⟨v,hv,h⟩
   refine .inr ⟨p,b,v,rfl,hv,?_⟩
   cases v
   case bool c =>
    by_cases e:c=b
    ·subst e
     exact .inl ⟨rfl,by simpa using h⟩
    ·refine .inr ⟨by simpa using e,?_⟩
     have:(c == b)=false:=by simpa using e
     simp only [this] at h
     exact h
   all_goals exact .inr ⟨by simp,h⟩
  ·rintro (⟨h,_⟩ |⟨p',b',v,h1,h2,h3⟩)
   ·simp at h
   ·simp only [Option.some.injEq,Prod.mk.injEq] at h1
    obtain⟨rfl,rfl⟩:=h1
    refine⟨v,h2,?_⟩
    rcases h3 with ⟨rfl,h3⟩ |⟨h4,h3⟩
    ·simpa using h3
    ·cases v
     case bool c =>
      have:(c == b)=false:=by simpa using h4
      simp only [this]
      exact h3
     all_goals exact h3
theorem VRel.bool_inv {φ:Phi} {v:AV} {b:Bool} (h:VRel φ v (.bool b)):v=.bool b:=by
 cases v<;>simp only [VRel] at h
 case bool c=>simp at h;rw [h]
 case int=>simp at h
 case str=>simp at h
 case ptr=>obtain⟨_,_,h⟩:=h;simp at h
 case nilp=>simp at h
 case slc=>obtain⟨_,_,h,_⟩:=h;simp at h
 case gsl=>rcases h with ⟨_,_,_,h,_⟩ |⟨_,_,_,_,h⟩<;>simp at h
 case nils=>simp at h
 case map=>obtain⟨_,_,h⟩:=h;simp at h
 case nilm=>simp at h
 case fn=>obtain⟨_,_,h,_⟩:=h;simp at h
 case yld=>obtain⟨_,_,h⟩:=h;simp at h
 case nilf=>simp at h
 case ifc=>obtain⟨_,h,_⟩:=h;simp at h
 case nili=>simp at h
 case agg=>obtain⟨_,h,_⟩:=h;simp at h
 case tup=>obtain⟨_,h,_⟩:=h;simp at h
def Wants (t:Tr) (c:COp):Prop:=∀ p b,c.guard=some (p,b)->getP p t=.leaf (.bool b)
def Wants0 (t:Tr) (c:COp):Prop:=∃ p b v,c.guard=some (p,b)/\getP p t=.leaf v/\v≠.bool b
theorem want_cases {c:COp} {t:Tr} {yes no:Bool} (h:wantK c.guard t yes no=true):(Wants t c/\yes=true)\/(Wants0 t c/\no=true):=by
 rcases wantK_iff.1 h with ⟨h1,h2⟩ |⟨p,b,v,h1,h2,⟨rfl,h3⟩ |⟨h3,h4⟩⟩
 ·exact .inl ⟨fun p b e=>by rw [h1] at e;simp at e,h2⟩
 ·refine .inl ⟨fun p' b' e=>?_,h3⟩
  rw [h1] at e
  simp only [Option.some.injEq,Prod.mk.injEq] at e
  obtain⟨rfl,rfl⟩:=e
  exact h2
 ·exact .inr ⟨⟨p,b,v,h1,h2,h3⟩,h4⟩
def GuardIn (S:Nat->Prop) (ops:Array Oper) (o:Oper):Prop:=∀ j b g,o.guard=some (j,b)->(ops[j]?).bind (·.dst)=some g->S g
theorem wanted_yes {X:Ctx} {nt:Nat} {ops:Array Oper} {o:Oper} {c:COp} {oxs:List Operand} {φ:Phi} {S:Nat->Prop} {t:Tr} {tmps:Array Value} (hk:OpOk X nt ops o c oxs) (hnt:nt<=256) (hr:RRelOn φ S t tmps) (hS:GuardIn S ops o) (hw:Wants t c) :
  Region.wanted o (yielded ops tmps)=true:=by
 unfold Region.wanted
 rcases hk.guard with ⟨h1,h2⟩ |⟨j,b,g,h1,h2,h3,h4⟩
 ·rw [h1]
 ·rw [h1]
  have h5:=hw _ _ h4
  obtain⟨x,h6,h7⟩:=hr g _ (hS j b g h1 h2) (Nat.lt_of_lt_of_le h3 hnt) (reg_eq.2 h5)
  simp only [VRel] at h7
  subst h7
  simp [yielded,h2,h6]
theorem wanted_no {X:Ctx} {nt:Nat} {ops:Array Oper} {o:Oper} {c:COp} {oxs:List Operand} {φ:Phi} {S:Nat->Prop} {t:Tr} {tmps:Array Value} (hk:OpOk X nt ops o c oxs) (hnt:nt<=256) (hr:RRelOn φ S t tmps) (hS:GuardIn S ops o) (hw:Wants0 t c) :
  Region.wanted o (yielded ops tmps)=false:=by
 unfold Region.wanted
 obtain⟨p,b,v,h1,h2,h3⟩:=hw
 rcases hk.guard with ⟨h4,h5⟩ |⟨j,b',g,h4,h5,h6,h7⟩
 ·rw [h5] at h1;simp at h1
 ·rw [h7] at h1
  simp only [Option.some.injEq,Prod.mk.injEq] at h1
  obtain⟨rfl,rfl⟩:=h1
  rw [h4]
  obtain⟨x,h8,h9⟩:=hr g _ (hS j b' g h4 h5) (Nat.lt_of_lt_of_le h6 hnt) (reg_eq.2 h2)
  have hx:x≠.bool b':=fun e=>h3 (by subst e;exact h9.bool_inv)
  simp only [yielded,h5,Option.bind_some,h8]
  cases x<;>simp
  case bool c=>intro e;exact hx (by rw [e])
def mkF (kd:CallKind) (fn:FuncId) (T:Array Value) (todo:List Item) (ds:List Deferred) (ro:Option Nat):Frame :=
 { fn:=fn,tmps:=T,todo:=todo,defers:=ds,mode:=.run,kind:=kd,roundOf:=ro }
def kdOf (cs:List AF):CallKind:=if unwTop cs then .deferred else .normal
def putT (T:Array Value) (d:Option Tmp) (v:Value):Array Value:=match d with
 | some d=>T.setIfInBounds d v
 | none=>T
theorem putT_size (T:Array Value) (d:Option Tmp) (v:Value):(putT T d v).size=T.size:=by cases d<;>simp [putT]
theorem eval_mkF (kd:CallKind) (fn:FuncId) (T:Array Value) (todo:List Item) (ds:List Deferred) (ro:Option Nat):(mkF kd fn T todo ds ro).eval=ev T:=by
 funext x;cases x<;>rfl
section
variable {P:Program} {kd:CallKind} {fn:FuncId} {T:Array Value} {k:List Item} {ds:List Deferred} {ro:Option Nat} {cs:List Frame} {w:World} {ops:Array Oper} {i:Nat} {rest:List Nat} {o:Oper}
theorem finish_mkF (ho:ops[i]?=some o) (v:Value):(mkF kd fn T (.inRegion ops (i::rest)::k) ds ro).finish v=mkF kd fn (putT T o.dst v) (.inRegion ops rest::k) ds ro:=by
 cases hd:o.dst<;>simp [Frame.finish,mkF,ho,hd,putT]
theorem st_skip:step P (lone (mkF kd fn T (.code .skip::k) ds ro) cs w)=.next (lone (mkF kd fn T k ds ro) cs w):=step_lone_go (by simp [stepG,stepG.exec,mkF])
theorem st_inBlock {id:Nat}:step P (lone (mkF kd fn T (.inBlock id::k) ds ro) cs w)=.next (lone (mkF kd fn T k ds ro) cs w):=step_lone_go (by simp [stepG,stepG.exec,mkF])
theorem st_seq {a b:Code}:step P (lone (mkF kd fn T (.code (.seq a b)::k) ds ro) cs w)=.next (lone (mkF kd fn T (.code a::.code b::k) ds ro) cs w):=step_lone_go (by simp [stepG,stepG.exec,mkF])
theorem st_cond {x:Operand} {a b:Code} {t:Bool} (h:ev T x=.bool t):step P (lone (mkF kd fn T (.code (.cond x a b)::k) ds ro) cs w)=.next (lone (mkF kd fn T (.code (if t then a else b)::k) ds ro) cs w):=step_lone_go (by
 have:=congrFun (eval_mkF kd fn T (.code (.cond x a b)::k) ds ro) x
 simp only [mkF] at this
 simp [stepG,stepG.exec,mkF,this,h])
theorem st_block {id:Nat} {c:Code}:step P (lone (mkF kd fn T (.code (.block id c)::k) ds ro) cs w)=.next (lone (mkF kd fn T (.code c::.inBlock id::k) ds ro) cs w):=step_lone_go (by simp [stepG,stepG.exec,mkF])
theorem st_loop {c:Code}:step P (lone (mkF kd fn T (.code (.loop c)::k) ds ro) cs w)=.next (lone (mkF kd fn T (.code c::.inLoop c::k) ds ro) cs w):=step_lone_go (by simp [stepG,stepG.exec,mkF])
theorem st_inLoop {c:Code}:step P (lone (mkF kd fn T (.inLoop c::k) ds ro) cs w)=.next (lone (mkF kd fn T (.code c::.inLoop c::k) ds ro) cs w):=step_lone_go (by simp [stepG,stepG.exec,mkF])
theorem st_exit {id:Nat} {k':List Item} (h:exitTo id k=some k'):step P (lone (mkF kd fn T (.code (.exit id)::k) ds ro) cs w)=.next (lone (mkF kd fn T k' ds ro) cs w):=step_lone_go (by simp [stepG,stepG.exec,mkF,h])
theorem st_ret:step P (lone (mkF kd fn T (.code .ret::k) ds none) cs w)=.next (lone { mkF kd fn T (.code .ret::k) ds none with mode:=.returning } cs w):=step_lone_go (by simp [stepG,stepG.exec,mkF])
theorem st_end:step P (lone (mkF kd fn T [] ds none) cs w)=.next (lone { mkF kd fn T [] ds none with mode:=.returning } cs w):=step_lone_go (by simp [stepG,stepG.exec,mkF])
theorem st_region {id:Nat}:step P (lone (mkF kd fn T (.code (.region id ops false)::k) ds ro) cs w)=.next (lone (mkF kd fn T (.inRegion ops (List.range ops.size)::k) ds ro) cs w):=step_lone_go (by simp [stepG,stepG.exec,mkF])
theorem st_regionD {id:Nat}:step P (lone (mkF kd fn T (.code (.region id ops true)::k) ds ro) cs w) =
  .next (lone (mkF kd fn T (.inRegion ops (Region.schedule (P.follows .mixedOrders) ops (w.tape w.drawn (.order fn id)))::k) ds ro) cs { w with drawn:=w.drawn+1 }) :=
 step_lone_go (by simp [stepG,stepG.exec,mkF,choose,Sem.run,Question.forced,Question.cut])
theorem st_regionEnd:step P (lone (mkF kd fn T (.inRegion ops []::k) ds ro) cs w)=.next (lone (mkF kd fn T k ds ro) cs w):=step_lone_go (by simp [stepG,stepG.exec,mkF])
theorem st_opSkip (ho:ops[i]?=some o) (h:Region.wanted o (yielded ops T)=false):step P (lone (mkF kd fn T (.inRegion ops (i::rest)::k) ds ro) cs w)=.next (lone (mkF kd fn (putT T o.dst undef) (.inRegion ops rest::k) ds ro) cs w):=by
 rw [<- finish_mkF ho]
 exact step_lone_go (by simp [stepG,stepG.exec,mkF,ho,h])
theorem stG_op (ho:ops[i]?=some o) (hw:Region.wanted o (yielded ops T)=true) (hd:∀ c,o.op≠.defer c) :
  stepG P true { frame:=mkF kd fn T (.inRegion ops (i::rest)::k) ds ro,callers:=cs,status:=.running,dying:=none } w =
   stepG.apply P true (mkF kd fn T (.inRegion ops (i::rest)::k) ds ro) cs none (execOp (ev T) o) w:=by
 have he:=eval_mkF kd fn T (.inRegion ops (i::rest)::k) ds ro
 simp only [mkF] at he
 simp only [stepG,stepG.exec,mkF,ho,hw,Option.map_some,Option.getD_some,if_true,stepG.oper,Frame.oper?]
 split
 ·rename_i c h2
  exact absurd h2 (hd _)
 ·rw [he]
theorem st_opValue {v:Value} {w':World} (ho:ops[i]?=some o) (hw:Region.wanted o (yielded ops T)=true) (hd:∀ c,o.op≠.defer c) (hr:(execOp (ev T) o).run P w=.ok (.value v) w'\/((execOp (ev T) o).run P w=.ok .skip w'/\v=undef)) :
  step P (lone (mkF kd fn T (.inRegion ops (i::rest)::k) ds ro) cs w)=.next (lone (mkF kd fn (putT T o.dst v) (.inRegion ops rest::k) ds ro) cs w'):=by
 rw [<- finish_mkF ho]
 refine step_lone_go ?_
 rw [stG_op ho hw hd]
 rcases hr with hr |⟨hr,rfl⟩<;>simp [stepG.apply,hr]
theorem st_opEnter {f:FuncId} {args:Array Value} {w':World} (ho:ops[i]?=some o) (hw:Region.wanted o (yielded ops T)=true) (hd:∀ c,o.op≠.defer c) (hr:(execOp (ev T) o).run P w=.ok (.enter f args) w') :
  step P (lone (mkF kd fn T (.inRegion ops (i::rest)::k) ds ro) cs w)=.next (lone (Frame.enter P f args .normal) (mkF kd fn T (.inRegion ops (i::rest)::k) ds ro::cs) w'):=by
 refine step_lone_go ?_
 rw [stG_op ho hw hd]
 simp [stepG.apply,hr,mkF]
theorem st_opRound {l:Nat} {f:FuncId} {tmps:Array Value} {assign body:Code} {w':World} (ho:ops[i]?=some o) (hw:Region.wanted o (yielded ops T)=true) (hd:∀ c,o.op≠.defer c) (hr:(execOp (ev T) o).run P w=.ok (.round l f tmps assign body) w') :
  step P (lone (mkF kd fn T (.inRegion ops (i::rest)::k) ds ro) cs w)=.next (lone (mkF .normal f tmps [.code assign,.beginRound,.code body] [] (some l)) (mkF kd fn T (.inRegion ops (i::rest)::k) ds ro::cs) w'):=by
 refine step_lone_go ?_
 rw [stG_op ho hw hd]
 simp [stepG.apply,hr,mkF,Frame.round]
end
theorem enter_mkF {P:Program} {kd:CallKind} {f:FuncId} {F:Func} {body:Code} (args:Array Value) (hf:P.funcs[f]?=some F) (hb:F.body=some body) :
  Frame.enter P f args kd=mkF kd f (args++Array.replicate (F.ntmps - args.size) undef) [.code body] [] none:=by
 simp [Frame.enter,mkF,hf,hb]
inductive IRel (X:Ctx) (φ:Phi) (nt:Nat):AItem->Item->Prop where
 | code (c:Code):IRel X φ nt (.code (compC X.P X.N nt c)) (.code c)
 | inBlock (id:Nat):IRel X φ nt (.inBlock id) (.inBlock id)
 | inLoop (c:Code):IRel X φ nt (.inLoop (compC X.P X.N nt c)) (.inLoop c)
 | beginRound:IRel X φ nt .beginRound .beginRound
 | endRF (l:Nat) (p:Pl) (h:φ l=some p):IRel X φ nt (.endRF l) (.endRangeFunc p.blk)
def IRels (X:Ctx) (φ:Phi) (nt:Nat):List AItem->List Item->Prop
 | [],ks=>ks=[]
 | i::is,ks=>∃ k ks',ks=k::ks'/\IRel X φ nt i k/\IRels X φ nt is ks'
theorem IRel.mono {X:Ctx} {φ φ':Phi} {nt:Nat} {i:AItem} {k:Item} (h:φ.le φ') (r:IRel X φ nt i k):IRel X φ' nt i k:=by
 cases r
 case code c=>exact .code c
 case inBlock id=>exact .inBlock id
 case inLoop c=>exact .inLoop c
 case beginRound=>exact .beginRound
 case endRF l p hl=>exact .endRF l p (h _ _ hl)
theorem IRels.mono {X:Ctx} {φ φ':Phi} {nt:Nat} (h:φ.le φ'):∀ {is:List AItem} {ks:List Item},IRels X φ nt is ks->IRels X φ' nt is ks
 | [],_,r=>r
 | i::is,ks,r=>by
  obtain⟨k,ks',rfl,h1,h2⟩:=r
  exact⟨k,ks',rfl,h1.mono h,IRels.mono h h2⟩
theorem IRels.cons {X:Ctx} {φ:Phi} {nt:Nat} {i:AItem} {k:Item} {is:List AItem} {ks:List Item} (h:IRel X φ nt i k) (h':IRels X φ nt is ks):IRels X φ nt (i::is) (k::ks):=⟨k,ks,rfl,h,h'⟩
theorem exit_rel {X:Ctx} {φ:Phi} {nt:Nat} {id:Nat}:∀ {is:List AItem} {ks:List Item},IRels X φ nt is ks ->
  (∃ is' ks',exitA id is=some is'/\exitTo id ks=some ks'/\IRels X φ nt is' ks')\/(exitA id is=none/\exitTo id ks=none)
 | [],ks,r=>by rw [show ks=[] from r];exact .inr ⟨rfl,rfl⟩
 | i::is,ks,r=>by
  obtain⟨k,ks',rfl,h1,h2⟩:=r
  have ih:=exit_rel (id:=id) h2
  cases h1
  case inBlock id' =>
   by_cases e:id'=id
   ·subst e
    exact .inl ⟨is,ks',by simp [exitA],by simp [exitTo],h2⟩
   ·have e1:Nat.beq id' id=false:=by
     cases hb:Nat.beq id' id
     ·rfl
     ·exact absurd (Nat.eq_of_beq_eq_true hb) e
    have e2:(id' == id)=false:=by simpa using e
    simp only [exitA,exitTo,e1,e2]
    simpa using ih
  all_goals simpa [exitA,exitTo] using ih
def DfRel (φ:Phi):List Df->List Deferred->Prop
 | [],ds=>ds=[]
 | .mark d::r,ds=>∃ p ds',φ d=some p/\ds={ target:=.collected p.blk,args:=#[] }::ds'/\DfRel φ r ds'
 | .call g args::r,ds=>∃ (ca cb:Array Value) (ds':List Deferred),ds={ target:=.fn (.func g) cb,args:=ca }::ds'/\VRels φ args (ca++cb).toList/\DfRel φ r ds'
theorem DfRel.mono {φ φ':Phi} (h:φ.le φ'):∀ {r:List Df} {ds:List Deferred},DfRel φ r ds->DfRel φ' r ds
 | [],_,r=>r
 | .mark d::r,ds,x=>by
  obtain⟨p,ds',h1,rfl,h2⟩:=x
  exact⟨p,ds',h _ _ h1,rfl,DfRel.mono h h2⟩
 | .call g args::r,ds,x=>by
  obtain⟨ca,cb,ds',rfl,h1,h2⟩:=x
  exact⟨ca,cb,ds',rfl,VRels.mono h _ _ h1,DfRel.mono h h2⟩
def RoRel (φ:Phi):Option Nat->Option Nat->Prop
 | none,r=>r=none
 | some l,r=>∃ p,φ l=some p/\r=some p.blk
theorem RoRel.mono {φ φ':Phi} (h:φ.le φ') {a b:Option Nat} (r:RoRel φ a b):RoRel φ' a b:=by
 cases a with
 | none=>exact r
 | some l=>obtain⟨p,h1,h2⟩:=r;exact⟨p,h _ _ h1,h2⟩
structure FB (X:Ctx) (φ:Phi) (S:Nat->Prop) (nt:Nat) (fn:FuncId) (regs:Tr) (rest:List AItem) (defers:List Df) (round:Option Nat) (T:Array Value) (k:List Item) (ds:List Deferred) (ro:Option Nat):Prop where
 func:∃ F,X.P.funcs[fn]?=some F/\F.ntmps=nt
 small:nt<=256
 size:T.size=nt
 regs:RRelOn φ S regs T
 rest:IRels X φ nt rest k
 dfr:DfRel φ defers ds
 round:RoRel φ round ro
abbrev All:Nat->Prop:=fun _=>True
theorem FB.mono {X:Ctx} {φ φ':Phi} {S:Nat->Prop} {nt fn regs rest defers round T k ds ro} (h:φ.le φ') (r:FB X φ S nt fn regs rest defers round T k ds ro):FB X φ' S nt fn regs rest defers round T k ds ro :=
 ⟨r.func,r.small,r.size,r.regs.mono h,r.rest.mono h,r.dfr.mono h,r.round.mono h⟩
theorem RRelOn.set {φ:Phi} {S:Nat->Prop} {t:Tr} {T:Array Value} {nt d:Nat} {v:AV} {c:Value} (r:RRelOn φ (fun i=>S i/\i≠d) t T) (hs:T.size=nt) (hd:d < nt) (hn:nt<=256) (hv:VRel φ v c) :
  RRelOn φ S (setP (pathOf depth d) v t) (T.setIfInBounds d c):=by
 intro i u hi h256 hu
 rw [reg_set _ _ _ _ (by omega) h256] at hu
 by_cases e:i=d
 ·subst e
  rw [if_pos rfl] at hu
  simp at hu;subst hu
  exact⟨c,by simp [hs,hd],hv⟩
 ·rw [if_neg e] at hu
  obtain⟨x,h1,h2⟩:=r i u ⟨hi,e⟩ h256 hu
  exact⟨x,by rw [Array.getElem?_setIfInBounds_ne (by omega)];exact h1,h2⟩
theorem putD_iff {d:Option Path} {v:AV} {t:Tr} {k:Tr->Bool}:putD d v t k=k (match d with|some p=>setP p v t|none=>t):=by
 cases d with
 | none=>rfl
 | some p=>exact setPK_eq _ _ _ _
def putR (t:Tr) (d:Option Path) (v:AV):Tr:=match d with|some p=>setP p v t|none=>t
theorem putD_eq (d:Option Path) (v:AV) (t:Tr) (k:Tr->Bool):putD d v t k=k (putR t d v):=putD_iff
theorem FB.put {X:Ctx} {φ:Phi} {nt fn regs rest defers round T k ds ro} (r:FB X φ All nt fn regs rest defers round T k ds ro) {dst:Option Path} {d:Option Tmp} (hd:(d=none/\dst=none)\/∃ t,d=some t/\t < nt/\dst=some (pathOf depth t)) {v:AV} {c:Value} (hv:VRel φ v c) :
  FB X φ All nt fn (putR regs dst v) rest defers round (putT T d c) k ds ro:=by
 refine⟨r.func,r.small,by rw [putT_size];exact r.size,?_,r.rest,r.dfr,r.round⟩
 rcases hd with ⟨rfl,rfl⟩ |⟨t,rfl,h1,rfl⟩
 ·exact r.regs
 ·exact RRelOn.set (nt:=nt) (fun i v h=>r.regs i v trivial) r.size h1 r.small hv
end Go.Ev
