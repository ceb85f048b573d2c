/- The abstract interpreter: regions whose order is drawn. -/
import Derived.Test.YtognadjclbihgaaGreatDoorE3
set_option linter.all false
namespace Go.Ev
mutual
theorem AV.beq_eq:(a b:AV)->AV.beq a b=true->a=b
 | .bool a,b,h=>by cases b<;>simp [AV.beq] at h;rw [h]
 | .int k n,b,h=>by
  cases b<;>simp [AV.beq] at h
  rw [kindEq_iff.1 h.1,h.2]
 | .str l c,b,h=>by cases b<;>simp [AV.beq] at h;rw [h.1,h.2]
 | .ptr l c,b,h=>by cases b<;>simp [AV.beq] at h;rw [h.1,h.2]
 | .nilp,b,h=>by cases b<;>simp [AV.beq] at h;rfl
 | .slc x y z u,b,h=>by cases b<;>simp [AV.beq] at h;rw [h.1.1.1,h.1.1.2,h.1.2,h.2]
 | .gsl x y z u,b,h=>by cases b<;>simp [AV.beq] at h;rw [h.1.1.1,h.1.1.2,h.1.2,h.2]
 | .nils,b,h=>by cases b<;>simp [AV.beq] at h;rfl
 | .map x,b,h=>by cases b<;>simp [AV.beq] at h;rw [h]
 | .nilm,b,h=>by cases b<;>simp [AV.beq] at h;rfl
 | .fn f x y,b,h=>by
  cases b<;>simp [AV.beq] at h
  rw [h.1.1,AV.beqs_eq _ _ h.1.2,AV.beqs_eq _ _ h.2]
 | .yld x,b,h=>by cases b<;>simp [AV.beq] at h;rw [h]
 | .nilf,b,h=>by cases b<;>simp [AV.beq] at h;rfl
 | .ifc t x,b,h=>by
  cases b<;>simp [AV.beq] at h
  rw [h.1,AV.beq_eq _ _ h.2]
 | .nili,b,h=>by cases b<;>simp [AV.beq] at h;rfl
 | .agg x,b,h=>by
  cases b<;>simp [AV.beq] at h
  rw [AV.beqs_eq _ _ h]
 | .tup x,b,h=>by
  cases b<;>simp [AV.beq] at h
  rw [AV.beqs_eq _ _ h]
theorem AV.beqs_eq:(a b:List AV)->AV.beqs a b=true->a=b
 | [],b,h=>by cases b<;>simp [AV.beqs] at h;rfl
 | a::as,b,h=>by
  cases b<;>simp [AV.beqs] at h
  rw [AV.beq_eq _ _ h.1,AV.beqs_eq _ _ h.2]
end
theorem Path.beq_iff:∀ {p q:Path},p.beq q=true ↔ p=q
 | .e,q=>by cases q<;>simp [Path.beq]
 | .a p,q=>by cases q<;>simp [Path.beq,Path.beq_iff (p:=p)]
 | .b p,q=>by cases q<;>simp [Path.beq,Path.beq_iff (p:=p)]
 | .c p,q=>by cases q<;>simp [Path.beq,Path.beq_iff (p:=p)]
 | .d p,q=>by cases q<;>simp [Path.beq,Path.beq_iff (p:=p)]
section
variable (X:Ctx) (nt:Nat) (ops:Array Oper)
def CS:List COp:=ops.toList.map (compO X.P X.N nt ops)
def BS:List Nat:=befores ops.toList []
def QS:List QK:=kinds (BS ops) (CS X nt ops) (CS X nt ops) 0
def MB (i:Nat):Nat:=(BS ops).getD i 0
end
section
variable {X:Ctx} {nt:Nat} {ops:Array Oper}
theorem CS_at {i:Nat} {o:Oper} (ho:ops[i]?=some o):(CS X nt ops)[i]?=some (compO X.P X.N nt ops o):=by
 simp only [CS,List.getElem?_map,Array.getElem?_toList,ho,Option.map_some]
theorem CS_getD {i:Nat} {o:Oper} (ho:ops[i]?=some o):(CS X nt ops).getD i badOp=compO X.P X.N nt ops o:=by
 rw [List.getD_eq_getElem?_getD,CS_at ho];rfl
theorem CS_length:(CS X nt ops).length=ops.size:=by simp [CS]
theorem kinds_at {bs:List Nat} {all:List COp}:∀ (ds:List COp) (j i:Nat),(kinds bs all ds j)[i]?=(ds[i]?).map fun d=>kindOf bs all (j+i) d
 | [],j,i=>by simp [kinds]
 | d::ds,j,0=>by simp [kinds]
 | d::ds,j,i+1=>by simp only [kinds,List.getElem?_cons_succ];rw [kinds_at ds (j+1) i,show j+1+i=j+(i+1) by omega]
theorem QS_at {i:Nat} {o:Oper} (ho:ops[i]?=some o):∃ q,(QS X nt ops)[i]?=some q/\(q=.eff\/q=quiet (compO X.P X.N nt ops o).k):=by
 refine⟨kindOf (BS ops) (CS X nt ops) (0+i) (compO X.P X.N nt ops o),by unfold QS;rw [kinds_at,CS_at ho];rfl,?_⟩
 unfold kindOf
 split
 ·split
  ·exact .inl rfl
  ·exact .inr rfl
 ·exact .inr rfl
theorem isEff_of {i:Nat} {o:Oper} (ho:ops[i]?=some o) (h:quiet (compO X.P X.N nt ops o).k=.eff):isEff (QS X nt ops) i=true:=by
 obtain⟨q,h1,h2⟩:=QS_at (X:=X) (nt:=nt) ho
 rw [h,or_self] at h2
 subst h2
 unfold isEff;rw [h1]
theorem QS_quiet {i:Nat} {o:Oper} (ho:ops[i]?=some o) (h:isEff (QS X nt ops) i=false):(QS X nt ops)[i]?=some (quiet (compO X.P X.N nt ops o).k):=by
 obtain⟨q,h1,h2⟩:=QS_at (X:=X) (nt:=nt) ho
 rcases h2 with rfl|rfl
 ·unfold isEff at h;rw [h1] at h;simp at h
 ·exact h1
theorem isRead_of {i:Nat} {o:Oper} (ho:ops[i]?=some o) (h:isRead (QS X nt ops) i=true):quiet (compO X.P X.N nt ops o).k=.read:=by
 obtain⟨q,h1,h2⟩:=QS_at (X:=X) (nt:=nt) ho
 unfold isRead at h
 rw [h1] at h
 rcases h2 with rfl|rfl
 ·simp at h
 ·generalize quiet (compO X.P X.N nt ops o).k=q at h ⊢
  cases q<;>simp at h ⊢
theorem eff_kinds {i:Nat} (h:isEff (QS X nt ops) i=true):isPure (QS X nt ops) i=false/\isRead (QS X nt ops) i=false:=by
 unfold isEff at h
 unfold isPure isRead
 cases hq:(QS X nt ops)[i]? with
 | none=>exact⟨rfl,rfl⟩
 | some q=>rw [hq] at h;cases q<;>simp at h ⊢
theorem maskFold (acc:List Nat) (j:Nat):∀ (es:List Edge) (s:Nat),Nat.testBit (es.foldl (fun s e=>if Region.binds .any e then Nat.lor (Nat.lor s (Nat.pow 2 e.on)) (acc.getD e.on 0) else s) s) j=true ->
  Nat.testBit s j=true\/∃ e ∈ es,Region.binds .any e=true/\(e.on=j\/Nat.testBit (acc.getD e.on 0) j=true)
 | [],s,h=>.inl h
 | e::es,s,h=>by
  simp only [List.foldl_cons] at h
  rcases maskFold acc j es _ h with h |⟨e',h1,h2,h3⟩
  ·split at h
   ·rename_i hb
    have h':Nat.testBit ((s ||| 2 ^ e.on) ||| acc.getD e.on 0) j=true:=h
    rw [Nat.testBit_or,Nat.testBit_or,Nat.testBit_two_pow] at h'
    simp only [Bool.or_eq_true,decide_eq_true_eq] at h'
    rcases h' with (h'|h')|h'
    ·exact .inl h'
    ·exact .inr ⟨e,by simp,hb,.inl h'⟩
    ·exact .inr ⟨e,by simp,hb,.inr h'⟩
   ·exact .inl h
  ·exact .inr ⟨e',List.mem_cons_of_mem _ h1,h2,h3⟩
theorem befores_old:∀ (os:List Oper) (acc:List Nat) (i:Nat),i < acc.length->(befores os acc)[i]?=acc[i]?
 | [],acc,i,h=>rfl
 | o::os,acc,i,h=>by
  simp only [befores]
  rw [befores_old os _ i (by simp;omega),List.getElem?_append_left h]
theorem befores_new:∀ (os:List Oper) (acc:List Nat) (i:Nat) (o:Oper),os[i]?=some o->(befores os acc)[acc.length+i]?=some (maskOf ((befores os acc).take (acc.length+i)) o)
 | [],acc,i,o,h=>by simp at h
 | x::os,acc,0,o,h=>by
  simp at h;subst h
  simp only [befores,Nat.add_zero]
  rw [befores_old os _ _ (by simp)]
  have:(befores os (acc++[maskOf acc x])).take acc.length=acc:=by
   apply List.ext_getElem?
   intro i
   by_cases hi:i < acc.length
   ·rw [List.getElem?_take_of_lt hi,befores_old os _ _ (by simp;omega),List.getElem?_append_left hi]
   ·rw [List.getElem?_take_eq_none (by omega),List.getElem?_eq_none (by omega)]
  rw [this]
  simp
 | x::os,acc,i+1,o,h=>by
  simp at h
  have ih:=befores_new os (acc++[maskOf acc x]) i o h
  simp only [befores]
  have e:(acc++[maskOf acc x]).length+i=acc.length+(i+1):=by simp;omega
  rw [e] at ih
  exact ih
theorem MB_mem {i j:Nat} {o:Oper} (ho:ops[i]?=some o) (he:∀ e ∈ o.after.toList,Region.binds .any e=true->e.on < i) (h:Nat.testBit (MB ops i) j=true) :
  ∃ e ∈ o.after.toList,Region.binds .any e=true/\(e.on=j\/Nat.testBit (MB ops e.on) j=true):=by
 have h1:=befores_new ops.toList [] i o (by rw [Array.getElem?_toList];exact ho)
 simp only [List.length_nil,Nat.zero_add] at h1
 unfold MB at h
 rw [List.getD_eq_getElem?_getD] at h
 unfold BS at h
 rw [h1] at h
 simp only [Option.getD_some] at h
 unfold maskOf at h
 rcases maskFold _ j _ 0 h with h |⟨e,h2,h3,h4⟩
 ·simp at h
 ·refine⟨e,h2,h3,h4.imp id fun h5=>?_⟩
  have hlt:=he e h2 h3
  unfold MB BS
  rw [List.getD_eq_getElem?_getD] at h5 ⊢
  rwa [List.getElem?_take_of_lt hlt] at h5
def EdgesP (ops:Array Oper):Prop:=∀ (i:Nat) (o:Oper),ops[i]?=some o->∀ e ∈ o.after.toList,Region.binds .any e=true->e.on < i
theorem edgesOk_p:∀ (os:List Oper) (i:Nat),edgesOk os i=true->∀ j o,os[j]?=some o->∀ e ∈ o.after.toList,Region.binds .any e=true->e.on < i+j
 | [],i,h,j,o,ho=>by simp at ho
 | x::os,i,h,j,o,ho=>by
  simp only [edgesOk,Bool.and_eq_true] at h
  cases j with
  | zero =>
   simp at ho;subst ho
   intro e h1 h2
   have:=List.all_eq_true.1 h.1 e h1
   rw [h2] at this
   simp only [Bool.not_true,Bool.false_or] at this
   have:=Nat.le_of_ble_eq_true (this:Nat.ble (e.on+1) i=true)
   omega
  | succ j =>
   simp at ho
   intro e h1 h2
   have:=edgesOk_p os (i+1) h.2 j o ho e h1 h2
   omega
def SsaP (qs:List QK) (bs:List Nat) (cs:List COp):Prop:=∀ (i j:Nat) (c d:COp) (p:Path),cs[i]?=some c->cs[j]?=some d->d.dst=some p->(usesP c p=true->Nat.testBit (bs.getD i 0) j=true\/(isEff qs j=true/\(Nat.testBit (bs.getD j 0) i=true\/i=j)))/\(i=j\/dstIs c p=false)
theorem rowOk_p {qs:List QK} {bs:List Nat} {i:Nat} {c:COp}:∀ (ds:List COp) (j:Nat),rowOk qs bs i c ds j=true->∀ m d p,ds[m]?=some d->d.dst=some p->(usesP c p=true->Nat.testBit (bs.getD i 0) (j+m)=true\/(isEff qs (j+m)=true/\(Nat.testBit (bs.getD (j+m) 0) i=true\/i=j+m)))/\(i=j+m\/dstIs c p=false)
 | [],j,h,m,d,p,hd,hp=>by simp at hd
 | x::ds,j,h,m,d,p,hd,hp=>by
  simp only [rowOk,Bool.and_eq_true] at h
  cases m with
  | zero =>
   simp at hd;subst hd
   have h1:=h.1
   unfold pairOk at h1
   rw [hp] at h1
   simp only [Bool.and_eq_true,Bool.or_eq_true,Bool.not_eq_true'] at h1
   refine⟨fun hu=>?_,?_⟩
   ·rcases h1.1 with h2|h2 |⟨h2,h3⟩
    ·rw [hu] at h2;simp at h2
    ·exact .inl h2
    ·exact .inr ⟨h2,h3.imp id Nat.eq_of_beq_eq_true⟩
   ·rcases h1.2 with h2|h2
    ·exact .inl (Nat.eq_of_beq_eq_true h2)
    ·exact .inr h2
  | succ m =>
   simp at hd
   have:=rowOk_p ds (j+1) h.2 m d p hd hp
   rwa [show j+1+m=j+(m+1) by omega] at this
theorem ssaOk_p {qs:List QK} {bs:List Nat} {all:List COp}:∀ (cs:List COp) (i:Nat),ssaOk qs bs all cs i=true->∀ m c,cs[m]?=some c->rowOk qs bs (i+m) c all 0=true
 | [],i,h,m,c,hc=>by simp at hc
 | x::cs,i,h,m,c,hc=>by
  simp only [ssaOk,Bool.and_eq_true] at h
  cases m with
  | zero=>simp at hc;subst hc;exact h.1
  | succ m =>
   simp at hc
   have:=ssaOk_p cs (i+1) h.2 m c hc
   rwa [show i+1+m=i+(m+1) by omega] at this
theorem ssaOk_P {qs:List QK} {bs:List Nat} {cs:List COp} (h:ssaOk qs bs cs cs 0=true):SsaP qs bs cs:=by
 intro i j c d p hc hd hp
 have h1:=ssaOk_p cs 0 h i c hc
 rw [Nat.zero_add] at h1
 have:=rowOk_p cs 0 h1 j d p hd hp
 rwa [Nat.zero_add] at this
def OrdP (qs:List QK) (bs:List Nat) (n:Nat):List Nat->List Nat->Prop
 | [],A=>∀ i,i < n->i ∈ A
 | i::rest,A=>i < n/\i ∉ A/\(∀ j,Nat.testBit (bs.getD i 0) j=true->j ∈ A)/\(isEff qs i=true->∀ j ∈ rest,Nat.testBit (bs.getD j 0) i=true)/\OrdP qs bs n rest (i::A)
theorem ordOk_p {qs:List QK} {bs:List Nat} {n:Nat}:∀ (L:List Nat) (done:Nat) (A:List Nat),ordOk qs bs n L done=true->(∀ j,Nat.testBit done j=true ↔ j ∈ A)->OrdP qs bs n L A
 | [],done,A,h,hA=>by
  intro i hi
  have h':done=2 ^ n - 1:=Nat.eq_of_beq_eq_true h
  rw [<- hA,h',Nat.testBit_two_pow_sub_one]
  simpa using hi
 | i::rest,done,A,h,hA=>by
  simp only [ordOk,Bool.and_eq_true,Bool.or_eq_true,Bool.not_eq_true'] at h
  obtain⟨h1,h2,h3,h4,h5⟩:=h
  have h1':i < n:=Nat.le_of_ble_eq_true h1
  have h3':bs.getD i 0 &&& done=bs.getD i 0:=Nat.eq_of_beq_eq_true h3
  refine⟨h1',fun hm=>?_,fun j hj=>?_,fun he j hj=>?_,ordOk_p rest _ _ h5 fun j=>?_⟩
  ·rw [(hA i).2 hm] at h2;simp at h2
  ·rw [<- h3',Nat.testBit_and] at hj
   simp only [Bool.and_eq_true] at hj
   exact (hA j).1 hj.2
  ·rcases h4 with h4|h4
   ·rw [he] at h4;simp at h4
   ·exact List.all_eq_true.1 h4 j hj
  ·show Nat.testBit (done ||| 2 ^ i) j=true ↔ _
   rw [Nat.testBit_or,Nat.testBit_two_pow,Bool.or_eq_true,hA,decide_eq_true_eq,List.mem_cons]
   constructor
   ·rintro (h|h)
    ·exact .inr h
    ·exact .inl h.symm
   ·rintro (h|h)
    ·exact .inr h.symm
    ·exact .inl h
theorem OrdP.mem {qs:List QK} {bs:List Nat} {n:Nat}:∀ {L A:List Nat},OrdP qs bs n L A->∀ j,j < n->j ∈ A\/j ∈ L
 | [],A,h,j,hj=>.inl (h j hj)
 | i::L,A,h,j,hj=>by
  rcases OrdP.mem h.2.2.2.2 j hj with h1|h1
  ·rcases List.mem_cons.1 h1 with h2|h2
   ·exact .inr (by rw [h2];simp)
   ·exact .inl h2
  ·exact .inr (List.mem_cons_of_mem _ h1)
def SchP (bs:List Nat) (n:Nat):List Nat->List Nat->Prop
 | [],C=>∀ i,i < n->i ∈ C
 | i::rest,C=>i < n/\i ∉ C/\(∀ j,Nat.testBit (bs.getD i 0) j=true->j ∈ C)/\SchP bs n rest (i::C)
theorem filter_lt {p q:Nat->Bool} {i:Nat} (hi:p i=true) (hq:q i=false) (hpq:∀ x,q x=true->p x=true):∀ (l:List Nat),i ∈ l->(l.filter q).length <(l.filter p).length
 | [],h=>by simp at h
 | x::l,h=>by
  have hle:∀ (l:List Nat),(l.filter q).length<=(l.filter p).length:=by
   intro l
   induction l with
   | nil=>simp
   | cons y l ih =>
    simp only [List.filter_cons]
    by_cases hy:q y=true
    ·rw [if_pos hy,if_pos (hpq y hy)];simpa using ih
    ·rw [if_neg hy]
     split
     ·simp;omega
     ·exact ih
  rcases List.mem_cons.1 h with rfl|h
  ·simp only [List.filter_cons,hi,hq,if_true]
   have:=hle l
   simp;omega
  ·have ih:=filter_lt hi hq hpq l h
   simp only [List.filter_cons]
   by_cases hy:q x=true
   ·rw [if_pos hy,if_pos (hpq x hy)];simpa using ih
   ·rw [if_neg hy]
    split
    ·simp;omega
    ·exact ih
theorem lin_sch (hE:EdgesP ops):∀ (fuel t:Nat) (listed:Array Bool) (C:List Nat),listed.size=ops.size->(∀ j,j < ops.size->(listed[j]?=some true ↔ j ∈ C))->(∀ c ∈ C,∀ j,Nat.testBit (MB ops c) j=true->j ∈ C) ->
  ((List.range ops.size).filter fun i=>!C.contains i).length<=fuel->SchP (BS ops) ops.size (Region.linearise.go .any ops fuel t listed []) C
 | 0,t,listed,C,hs,hl,hcl,hf=>by
  simp only [Region.linearise.go,List.reverse_nil]
  intro i hi
  have h0:(List.range ops.size).filter (fun i=>!C.contains i)=[]:=List.eq_nil_of_length_eq_zero (by omega)
  have:=List.filter_eq_nil_iff.1 h0 i (List.mem_range.2 hi)
  simpa using this
 | fuel+1,t,listed,C,hs,hl,hcl,hf=>by
  simp only [Region.linearise.go]
  have hget:∀ j,j < ops.size->∀ d,listed.getD j d=true ↔ j ∈ C:=by
   intro j hj d
   rw [<- hl j hj,Array.getD_eq_getD_getElem?]
   have:j < listed.size:=by omega
   rw [Array.getElem?_eq_getElem this]
   simp
  generalize hrs:(List.range ops.size).filter (fun i=>!listed.getD i true&&((ops[i]?).map (·.after.all fun e=>!Region.binds .any e||listed.getD e.on false)).getD false)=rs
  have hmem:∀ i,i ∈ rs->i < ops.size/\i ∉ C/\∀ o,ops[i]?=some o->∀ e ∈ o.after.toList,Region.binds .any e=true->e.on ∈ C:=by
   intro i hi
   rw [<- hrs,List.mem_filter] at hi
   obtain⟨h1,h2⟩:=hi
   have h1':=List.mem_range.1 h1
   simp only [Bool.and_eq_true,Bool.not_eq_true'] at h2
   refine⟨h1',fun hc=>?_,fun o ho e he hb=>?_⟩
   ·rw [(hget i h1' true).2 hc] at h2;simp at h2
   ·have h3:=h2.2
    rw [ho] at h3
    simp only [Option.map_some,Option.getD_some] at h3
    have h4:=Array.all_eq_true_iff_forall_mem.1 h3 e (Array.mem_toList_iff.1 he)
    rw [hb] at h4
    simp only [Bool.not_true,Bool.false_or] at h4
    have h5:=hE i o ho e he hb
    exact (hget e.on (by omega) false).1 h4
  cases hr:rs[t % rs.length]? with
  | none =>
   simp only [List.reverse_nil]
   have hnil:rs=[]:=by
    cases hrr:rs with
    | nil=>rfl
    | cons x xs =>
     rw [List.getElem?_eq_none_iff] at hr
     have:0 < rs.length:=by rw [hrr];simp
     have:=Nat.mod_lt t this
     omega
   intro i
   induction i using Nat.strongRecOn with
   | _ i ih =>
    intro hi
    refine Classical.byContradiction fun hc=>?_
    have:i ∈ rs:=by
     rw [<- hrs,List.mem_filter]
     refine⟨List.mem_range.2 hi,?_⟩
     have h1:listed.getD i true=false:=by
      cases h:listed.getD i true
      ·rfl
      ·exact absurd ((hget i hi true).1 h) hc
     rw [h1]
     rw [Array.getElem?_eq_getElem hi]
     simp only [Option.map_some,Option.getD_some,Bool.not_false,Bool.true_and]
     rw [Array.all_eq_true_iff_forall_mem]
     intro e he
     cases hb:Region.binds .any e
     ·rfl
     ·simp only [Bool.not_true,Bool.false_or]
      have h5:=hE i _ (Array.getElem?_eq_getElem hi) e (Array.mem_toList_iff.2 he) hb
      exact (hget e.on (by omega) false).2 (ih e.on h5 (by omega))
    rw [hnil] at this
    simp at this
  | some i =>
   simp only []
   have hi:=List.mem_of_getElem? hr
   obtain⟨h1,h2,h3⟩:=hmem i hi
   rw [linearise_go_acc]
   simp only [List.reverse_cons,List.reverse_nil,List.nil_append,List.singleton_append]
   have hM:∀ j,Nat.testBit (MB ops i) j=true->j ∈ C:=by
    intro j hj
    have ho:ops[i]?=some ops[i]:=Array.getElem?_eq_getElem h1
    obtain⟨e,h4,h5,h6⟩:=MB_mem ho (hE i _ ho) hj
    have h7:=h3 _ ho e h4 h5
    rcases h6 with h6|h6
    ·rw [<- h6];exact h7
    ·exact hcl _ h7 j h6
   refine⟨h1,h2,hM,lin_sch hE fuel _ _ _ (by simpa using hs) ?_ ?_ ?_⟩
   ·intro j hj
    by_cases e:j=i
    ·subst e
     simp [hs,hj]
    ·rw [Array.getElem?_setIfInBounds_ne (by omega),hl j hj,List.mem_cons]
     simp [e]
   ·intro c hc j hj
    rcases List.mem_cons.1 hc with rfl|hc
    ·exact List.mem_cons_of_mem _ (hM j hj)
    ·exact List.mem_cons_of_mem _ (hcl c hc j hj)
   ·have:=filter_lt (p:=fun x=>!C.contains x) (q:=fun x=>!(i::C).contains x) (i:=i) (by simpa using h2) (by simp) (by
     intro x hx
     simp only [List.contains_cons,Bool.not_or,Bool.and_eq_true] at hx
     exact hx.2) (List.range ops.size) (List.mem_range.2 h1)
    omega
theorem schedule_sch (hE:EdgesP ops) (t:Nat):SchP (BS ops) ops.size (Region.schedule true ops t) []:=by
 simp only [Region.schedule,Bool.true_or,if_true,Region.linearise]
 refine lin_sch hE _ _ _ _ (by simp) (fun j hj=>?_) (by simp) ?_
 ·simp [hj]
 ·have:=List.length_filter_le (fun i=>!List.contains ([]:List Nat) i) (List.range ops.size)
  simpa using this
structure RegOk (X:Ctx) (nt:Nat) (ops:Array Oper):Prop where
 good:∀ (i:Nat) (o:Oper),ops[i]?=some o->∃ oxs,OpOk X nt ops o (compO X.P X.N nt ops o) oxs
 nodf:∀ (i:Nat) (o:Oper),ops[i]?=some o->(compO X.P X.N nt ops o).k≠.defer
 edges:EdgesP ops
 ssa:SsaP (QS X nt ops) (BS ops) (CS X nt ops)
theorem drawOk_p {order:List Nat} (h:drawOk ops (CS X nt ops) (QS X nt ops) (BS ops) order=true):RegOk X nt ops/\OrdP (QS X nt ops) (BS ops) ops.size order []:=by
 simp only [drawOk,Bool.and_eq_true] at h
 obtain⟨h1,h2,h3,h4⟩:=h
 refine⟨⟨fun i o ho=>?_,fun i o ho e=>?_,fun i o ho e h5 h6=>?_,ssaOk_P h3⟩,ordOk_p order 0 [] h4 fun j=>by simp⟩
 ·rcases compO_cases X nt ops o with h5|h5
  ·have:=List.all_eq_true.1 h1 _ (List.mem_of_getElem? (CS_at (X:=X) (nt:=nt) ho))
   rw [h5] at this
   exact Bool.noConfusion (this:false=true)
  ·exact h5
 ·have:=List.all_eq_true.1 h1 _ (List.mem_of_getElem? (CS_at (X:=X) (nt:=nt) ho))
  unfold notBad at this
  rw [e] at this
  exact Bool.noConfusion (this:false=true)
 ·have:=edgesOk_p ops.toList 0 h2 i o (by rw [Array.getElem?_toList];exact ho) e h5 h6
  omega
end
end Go.Ev
namespace Go.Ev
def DstIs (t:Tr) (c:COp) (v:AV):Prop:=∀ p,c.dst=some p->getP p t=.leaf v
def Settled (ops:Array Oper) (A C:List Nat) (t:Nat):Prop:=∀ (i:Nat) (o:Oper),ops[i]?=some o->o.dst=some t->i ∈ A->i ∈ C
def PureV (P:Program) (o:Oper) (oc:OC) (xs:List Operand) (vs:List AV) (v:AV):Prop :=
 ∀ (φ:Phi) (ρ:Operand->Value) (w:World),(∀ v,ρ (.const v)=v)->VRels φ vs (xs.map ρ)->∃ c,(execOp ρ o).run P w=.ok (.value c) w/\VRel φ v c
def Pend (X:Ctx) (nt:Nat) (ops:Array Oper) (t:Tr) (φ:Phi) (h:Hp) (α:Nat->Option Nat) (live:Bool) (j:Nat) (o:Oper) (oxs:List Operand):Prop :=
 (Wants0 t (compO X.P X.N nt ops o)/\DstIs t (compO X.P X.N nt ops o) undefA) \/
 (Wants t (compO X.P X.N nt ops o)/\∃ vs v,vals (compO X.P X.N nt ops o).xs t=some vs/\DstIs t (compO X.P X.N nt ops o) v /\
  ((quiet (compO X.P X.N nt ops o).k=.pure/\PureV X.P o (compO X.P X.N nt ops o).k oxs vs v) \/
   (quiet (compO X.P X.N nt ops o).k=.read/\(live=true->ReadTo X o (compO X.P X.N nt ops o).k oxs vs h v)) \/
   (quiet (compO X.P X.N nt ops o).k=.make/\∃ a b val,α j=some a/\φ a=none/\hb h a=some b/\v=val a/\MakeTo X o (compO X.P X.N nt ops o).k oxs vs b val)))
structure DR (X:Ctx) (φ:Phi) (h:Hp) (n lo:Nat) (nt:Nat) (fn:FuncId) (regs:Tr) (rest:List AItem) (defers:List Df) (round:Option Nat) (T:Array Value) (k:List Item) (ds:List Deferred) (ro:Option Nat)
  (ops:Array Oper) (L A C is:List Nat) (α:Nat->Option Nat) (live:Bool):Prop where
 ok:RegOk X nt ops
 ord:OrdP (QS X nt ops) (BS ops) ops.size L A
 sch:SchP (BS ops) ops.size is C
 sub:∀ i ∈ C,i ∈ A
 eff:∀ i ∈ A,isEff (QS X nt ops) i=true->i ∈ C
 closed:∀ i ∈ A,∀ j,Nat.testBit ((BS ops).getD i 0) j=true->j ∈ A
 lt:∀ i ∈ A,i < ops.size
 fb:FB X φ (Settled ops A C) nt fn regs rest defers round T k ds ro
 pend:∀ j ∈ A,j ∉ C->∀ o oxs,ops[j]?=some o->OpOk X nt ops o (compO X.P X.N nt ops o) oxs->Pend X nt ops regs φ h α live j o oxs
 inj:∀ i j a,α i=some a->α j=some a->i=j
 bnd:∀ i a,α i=some a->lo<=a/\a < n
section
variable {X:Ctx} {nt:Nat} {ops:Array Oper}
theorem usesP_xs {c:COp} {p:Path} (h:usesP c p=false):∀ q,CX.r q ∈ c.xs->q≠p:=by
 intro q hq e
 subst e
 unfold usesP at h
 rw [Bool.or_eq_false_iff] at h
 have:=List.any_eq_false.1 h.1 _ hq
 simp [Path.beq_iff.2] at this
theorem usesP_guard {c:COp} {p:Path} (h:usesP c p=false):∀ q b,c.guard=some (q,b)->q≠p:=by
 intro q b hg e
 subst e
 unfold usesP at h
 rw [Bool.or_eq_false_iff,hg] at h
 have h2:=h.2
 simp [Path.beq_iff.2] at h2
theorem dstIs_ne {c:COp} {p:Path} (h:dstIs c p=false):∀ q,c.dst=some q->q≠p:=by
 intro q hd e
 subst e
 unfold dstIs at h
 rw [hd] at h
 simp [Path.beq_iff.2] at h
theorem usesP_of_xs {c:COp} {p:Path} (h:CX.r p ∈ c.xs):usesP c p=true:=by
 unfold usesP
 rw [Bool.or_eq_true]
 exact .inl (List.any_eq_true.2 ⟨_,h,Path.beq_iff.2 rfl⟩)
theorem usesP_of_guard {c:COp} {p:Path} {b:Bool} (h:c.guard=some (p,b)):usesP c p=true:=by
 unfold usesP
 rw [Bool.or_eq_true,h]
 exact .inr (Path.beq_iff.2 rfl)
theorem cxs_paths {N:FuncId->Option Ext}:∀ {xs:List Operand} {cs:List CX},cxs N xs=some cs->∀ q,CX.r q ∈ cs->∃ t,q=pathOf depth t
 | [],cs,h,q,hq=>by simp [cxs] at h;subst h;simp at hq
 | x::xs,cs,h,q,hq=>by
  simp only [cxs] at h
  split at h
  ·rename_i c cs' h1 h2
   simp at h;subst h
   rcases List.mem_cons.1 hq with e|hq
   ·subst e
    cases x with
    | tmp i=>exact⟨i,by have:=(cx_tmp h1 rfl).2;simpa using this⟩
    | const v=>simp only [cx,Option.map_eq_some_iff] at h1;obtain⟨_,_,h1⟩:=h1;simp at h1
    | global g=>simp only [cx] at h1;split at h1<;>simp at h1
    | func f=>simp [cx] at h1
   ·exact cxs_paths h2 q hq
  ·simp at h
theorem getP_put {t:Tr} {m m':Nat} {v:AV} (h:pathOf depth m≠pathOf depth m'):getP (pathOf depth m) (setP (pathOf depth m') v t)=getP (pathOf depth m) t :=
 getP_setP_ne _ _ _ _ (by rw [pathOf_len,pathOf_len]) (Ne.symm h)
theorem vals_put {t:Tr} {m:Nat} {v:AV}:∀ {cs:List CX},(∀ q,CX.r q ∈ cs->(∃ i,q=pathOf depth i)/\q≠pathOf depth m)->vals cs (setP (pathOf depth m) v t)=vals cs t
 | [],_=>rfl
 | c::cs,h=>by
  have ih:=vals_put (t:=t) (v:=v) (m:=m) (cs:=cs) fun q hq=>h q (List.mem_cons_of_mem _ hq)
  have hc:c.val (setP (pathOf depth m) v t)=c.val t:=by
   cases c with
   | c u=>rfl
   | r q =>
    obtain⟨⟨i,rfl⟩,hne⟩:=h q (by simp)
    simp only [CX.val,getP_put hne]
  simp only [vals,ih,hc]
def Apart (c:COp) (d:Option Path):Prop:=∀ p,d=some p->usesP c p=false/\dstIs c p=false
theorem OpOk.paths {o:Oper} {c:COp} {oxs:List Operand} (hk:OpOk X nt ops o c oxs):(∀ q,CX.r q ∈ c.xs->∃ i,q=pathOf depth i)/\(∀ q b,c.guard=some (q,b)->∃ i,q=pathOf depth i)/\(∀ q,c.dst=some q->∃ i,q=pathOf depth i):=by
 refine⟨cxs_paths hk.xs,fun q b h=>?_,fun q h=>?_⟩
 ·rcases hk.guard with ⟨_,h2⟩ |⟨j,b',g,h1,h2,h3,h4⟩
  ·rw [h2] at h;simp at h
  ·rw [h4] at h;simp only [Option.some.injEq,Prod.mk.injEq] at h;exact⟨g,h.1.symm⟩
 ·rcases hk.dst with ⟨_,h2⟩ |⟨d,h1,h2,h3⟩
  ·rw [h2] at h;simp at h
  ·rw [h3] at h;simp at h;exact⟨d,h.symm⟩
theorem Pend.put {t:Tr} {φ:Phi} {h:Hp} {α:Nat->Option Nat} {live:Bool} {j:Nat} {o:Oper} {oxs:List Operand} (hk:OpOk X nt ops o (compO X.P X.N nt ops o) oxs) {d:Option Path} {v:AV} (hd:∀ p,d=some p->∃ i,p=pathOf depth i) (ha:Apart (compO X.P X.N nt ops o) d) (hp:Pend X nt ops t φ h α live j o oxs) :
  Pend X nt ops (putR t d v) φ h α live j o oxs:=by
 cases d with
 | none=>exact hp
 | some p =>
  obtain⟨m,rfl⟩:=hd p rfl
  obtain⟨h1,h2⟩:=ha _ rfl
  obtain⟨p1,p2,p3⟩:=hk.paths
  have hv:vals (compO X.P X.N nt ops o).xs (putR t (some (pathOf depth m)) v)=vals (compO X.P X.N nt ops o).xs t:=vals_put fun q hq=>⟨p1 q hq,usesP_xs h1 q hq⟩
  have hg:∀ q b,(compO X.P X.N nt ops o).guard=some (q,b)->getP q (putR t (some (pathOf depth m)) v)=getP q t:=by
   intro q b hq
   obtain⟨i,rfl⟩:=p2 q b hq
   exact getP_put (usesP_guard h1 _ b hq)
  have hds:∀ u,DstIs t (compO X.P X.N nt ops o) u->DstIs (putR t (some (pathOf depth m)) v) (compO X.P X.N nt ops o) u:=by
   intro u hu q hq
   have h3:=dstIs_ne h2 q hq
   have h4:=hu q hq
   obtain⟨i,rfl⟩:=p3 q hq
   rw [show getP (pathOf depth i) (putR t (some (pathOf depth m)) v)=_ from getP_put h3]
   exact h4
  rcases hp with ⟨⟨q,b,u,h3,h4,h5⟩,h6⟩ |⟨h3,vs,u,h4,h5,h6⟩
  ·exact .inl ⟨⟨q,b,u,h3,by rw [hg q b h3];exact h4,h5⟩,hds _ h6⟩
  ·exact .inr ⟨fun q b hq=>by rw [hg q b hq];exact h3 q b hq,vs,u,by rw [hv];exact h4,hds _ h5,h6⟩
structure GrowB (m:Nat) (φ:Phi) (h:Hp) (φ':Phi) (h':Hp):Prop where
 phi:φ.le φ'
 keeps:∀ a,a < m->φ a=none->(∀ lo la,hb h a≠some (.fam lo la))->φ' a=none/\hb h' a=hb h a
theorem GrowB.refl (m:Nat) (φ:Phi) (h:Hp):GrowB m φ h φ h:=⟨Phi.le_refl _,fun _ _ hn _=>⟨hn,rfl⟩⟩
theorem GrowB.trans {m:Nat} {φ φ' φ'':Phi} {h h' h'':Hp} (g:GrowB m φ h φ' h') (g':GrowB m φ' h' φ'' h''):GrowB m φ h φ'' h'' :=
 ⟨Phi.le_trans g.phi g'.phi,fun a ha hn hf=>by
  obtain⟨h1,h2⟩:=g.keeps a ha hn hf
  obtain⟨h3,h4⟩:=g'.keeps a ha h1 (fun lo la=>by rw [h2];exact hf lo la)
  exact⟨h3,h4.trans h2⟩⟩
theorem Grow.b {m n n':Nat} {φ φ':Phi} {h h':Hp} (hm:m<=n) (g:Grow φ h n φ' h' n'):GrowB m φ h φ' h':=⟨g.phi,fun a ha=>g.keeps a (by omega)⟩
theorem Pend.grow {t:Tr} {φ φ':Phi} {h h':Hp} {α:Nat->Option Nat} {live:Bool} {j m:Nat} {o:Oper} {oxs:List Operand} (g:GrowB m φ h φ' h') (hb0:∀ a,α j=some a->a < m) (hp:Pend X nt ops t φ h α live j o oxs) :
  Pend X nt ops t φ' h' α false j o oxs:=by
 rcases hp with hp |⟨h3,vs,u,h4,h5,h6 |⟨h6,_⟩ |⟨h6,a,b,val,h7,h8,h9,h10,h11⟩⟩
 ·exact .inl hp
 ·exact .inr ⟨h3,vs,u,h4,h5,.inl h6⟩
 ·exact .inr ⟨h3,vs,u,h4,h5,.inr (.inl ⟨h6,by simp⟩)⟩
 ·obtain⟨g1,g2⟩:=g.keeps a (hb0 a h7) h8 (fun lo la=>by rw [h9];simp;exact h11.2.2.1 lo la)
  exact .inr ⟨h3,vs,u,h4,h5,.inr (.inr ⟨h6,a,b,val,h7,g1,by rw [g2];exact h9,h10,h11⟩)⟩
variable {φ:Phi} {h:Hp} {n lo:Nat} {fn:FuncId} {regs:Tr} {rest:List AItem} {defers:List Df} {round:Option Nat} {T:Array Value} {k:List Item} {ds:List Deferred} {ro:Option Nat} {L A C is:List Nat} {α:Nat->Option Nat} {live:Bool} {w:World}
theorem DR.grow {φ':Phi} {h':Hp} {n' m:Nat} (hd:DR X φ h n lo nt fn regs rest defers round T k ds ro ops L A C is α live) (g:GrowB m φ h φ' h') (hm:n<=m) (hn:n<=n') :
  DR X φ' h' n' lo nt fn regs rest defers round T k ds ro ops L A C is α false :=
 ⟨hd.ok,hd.ord,hd.sch,hd.sub,hd.eff,hd.closed,hd.lt,hd.fb.mono g.phi,fun j h1 h2 o oxs h3 h4=>(hd.pend j h1 h2 o oxs h3 h4).grow g (fun a ha=>by have:=hd.bnd j a ha;omega),hd.inj,fun i a ha=>by have:=hd.bnd i a ha;omega⟩
theorem recheckK_cons (c:COp) (os:List COp) (t:Tr) (h:Hp) (n:Nat) (k:Bool):recheckK (c::os) t h n k =
  wantK c.guard t (rds c.xs t fun vs=>execV c.k vs h n ⟨fun v _ _=>Option.casesOn c.dst false fun p=>leafK (getP p t) fun u=>guardB (AV.beq u v) (recheckK os t h n k),noCall,noCall,noMeth⟩) (recheckK os t h n k):=by
 cases c;rfl
theorem recheck_ok:∀ (os:List COp) {t:Tr} {k:Bool},recheckK os t h n k=true->(∀ c ∈ os,∃ o oxs,OpOk X nt ops o c oxs/\quiet c.k=.read) ->
  k=true/\∀ c ∈ os,∀ o oxs,OpOk X nt ops o c oxs->Wants0 t c\/(Wants t c/\∃ vs v,vals c.xs t=some vs/\DstIs t c v/\ReadTo X o c.k oxs vs h v)
 | [],t,k,hk,hos=>⟨hk,by simp⟩
 | c::os,t,k,hk,hos=>by
  rw [recheckK_cons] at hk
  obtain⟨o,oxs,ho,hq⟩:=hos c (by simp)
  rcases want_cases hk with ⟨h1,h2⟩ |⟨h1,h2⟩
  ·obtain⟨vs,h3,h4⟩:=rds_iff.1 h2
   obtain⟨v,hv⟩:=read_sim ho.op hq h4
   have h5:=h4
   rw [hv.1] at h5
   simp only at h5
   cases hd:c.dst with
   | none=>rw [hd] at h5;exact Bool.noConfusion (h5:false=true)
   | some p =>
    rw [hd] at h5
    obtain⟨u,h6,h7⟩:=leafK_iff.1 (h5:leafK (getP p t) _=true)
    obtain⟨h8,h9⟩:=guardB_iff.1 h7
    obtain⟨h10,h11⟩:=recheck_ok os h9 fun c' hc'=>hos c' (List.mem_cons_of_mem _ hc')
    refine⟨h10,fun c' hc' o' oxs' ho'=>?_⟩
    rcases List.mem_cons.1 hc' with rfl|hc'
    ·obtain⟨v',hv'⟩:=read_sim ho'.op hq h4
     have h12:=h4
     rw [hv'.1] at h12
     simp only at h12
     rw [hd] at h12
     obtain⟨u',h13,h14⟩:=leafK_iff.1 (h12:leafK (getP p t) _=true)
     obtain⟨h15,_⟩:=guardB_iff.1 h14
     refine .inr ⟨h1,vs,v',h3,fun q hq'=>?_,hv'⟩
     rw [hd] at hq'
     simp at hq';subst hq'
     rw [h13,AV.beq_eq _ _ h15]
    ·exact h11 c' hc' o' oxs' ho'
  ·obtain⟨h10,h11⟩:=recheck_ok os h2 fun c' hc'=>hos c' (List.mem_cons_of_mem _ hc')
   refine⟨h10,fun c' hc' o' oxs' ho'=>?_⟩
   rcases List.mem_cons.1 hc' with rfl|hc'
   ·exact .inl h1
   ·exact h11 c' hc' o' oxs' ho'
theorem Wants.not0 {t:Tr} {c:COp} (h:Wants t c) (h':Wants0 t c):False:=by
 obtain⟨p,b,v,h1,h2,h3⟩:=h'
 have:=h p b h1
 rw [h2] at this
 simp at this
 exact h3 this
theorem Pend.relive {t:Tr} {j:Nat} {o:Oper} {oxs:List Operand} (hp:Pend X nt ops t φ h α live j o oxs)
  (hr:quiet (compO X.P X.N nt ops o).k=.read->Wants0 t (compO X.P X.N nt ops o)\/(Wants t (compO X.P X.N nt ops o)/\∃ vs v,vals (compO X.P X.N nt ops o).xs t=some vs/\DstIs t (compO X.P X.N nt ops o) v/\ReadTo X o (compO X.P X.N nt ops o).k oxs vs h v)) :
  Pend X nt ops t φ h α true j o oxs:=by
 rcases hp with hp |⟨h3,vs,u,h4,h5,h6 |⟨h6,_⟩|h6⟩
 ·exact .inl hp
 ·exact .inr ⟨h3,vs,u,h4,h5,.inl h6⟩
 ·rcases hr h6 with h7 |⟨h7,vs',u',h8,h9,h10⟩
  ·exact (h3.not0 h7).elim
  ·exact .inr ⟨h7,vs',u',h8,h9,.inr (.inl ⟨h6,fun _=>h10⟩)⟩
 ·exact .inr ⟨h3,vs,u,h4,h5,.inr (.inr h6)⟩
theorem again_reads (hok:RegOk X nt ops) {i:Nat}:∀ c ∈ again (CS X nt ops) (QS X nt ops) (BS ops) i A,∃ o oxs,OpOk X nt ops o c oxs/\quiet c.k=.read:=by
 intro c hc
 unfold again at hc
 split at hc
 ·simp at hc
 ·obtain⟨j,hj,rfl⟩:=List.mem_map.1 hc
  have hj':=(List.mem_filter.1 hj).2
  rw [Bool.and_eq_true] at hj'
  cases ho:ops[j]? with
  | none =>
   have:(QS X nt ops)[j]?=none:=by
    unfold QS
    rw [kinds_at,List.getElem?_eq_none]
    ·rfl
    ·rw [Array.getElem?_eq_none_iff] at ho
     rw [CS_length];exact ho
   have h1:=hj'.1
   unfold isRead at h1
   rw [this] at h1
   simp at h1
  | some o =>
   rw [CS_getD ho]
   obtain⟨oxs,hk⟩:=hok.good j o ho
   exact⟨o,oxs,hk,isRead_of ho hj'.1⟩
theorem again_mem {i j:Nat} {o o':Oper} (ho:ops[i]?=some o) (hj:ops[j]?=some o') (hA:j ∈ A) (hje:isEff (QS X nt ops) j=false) (hq:quiet (compO X.P X.N nt ops o').k=.read) (hi:(isEff (QS X nt ops) i=false/\quiet (compO X.P X.N nt ops o).k=.make)\/(isEff (QS X nt ops) i=true/\Nat.testBit ((BS ops).getD i 0) j=false)) :
  compO X.P X.N nt ops o' ∈ again (CS X nt ops) (QS X nt ops) (BS ops) i A:=by
 unfold again
 have h12:isPure (QS X nt ops) i=false/\isRead (QS X nt ops) i=false:=by
  rcases hi with ⟨h1,h2⟩ |⟨h1,_⟩
  ·have:=QS_quiet ho h1
   rw [h2] at this
   unfold isPure isRead
   rw [this]
   exact⟨rfl,rfl⟩
  ·exact eff_kinds h1
 rw [h12.1,h12.2]
 simp only [Bool.or_self,Bool.false_eq_true,if_false]
 refine List.mem_map.2 ⟨j,List.mem_filter.2 ⟨hA,?_⟩,CS_getD hj⟩
 have hr:isRead (QS X nt ops) j=true:=by
  have:=QS_quiet hj hje
  rw [hq] at this
  unfold isRead;rw [this]
 rw [hr,Bool.true_and]
 rcases hi with ⟨hi,_⟩ |⟨hi,hb⟩
 ·rw [hi];rfl
 ·rw [hb];simp
theorem again_nil {i:Nat} {o:Oper} (ho:ops[i]?=some o) (he:isEff (QS X nt ops) i=false) (hi:quiet (compO X.P X.N nt ops o).k=.pure\/quiet (compO X.P X.N nt ops o).k=.read):again (CS X nt ops) (QS X nt ops) (BS ops) i A=[]:=by
 have h1:=QS_quiet ho he
 unfold again isPure isRead
 rw [h1]
 rcases hi with hi|hi<;>rw [hi]<;>simp
theorem DR.apart (hd:DR X φ h n lo nt fn regs rest defers round T k ds ro ops L A C is α live) {i j:Nat} {o o':Oper} (hi:i ∉ A) (hj:j ∈ A) (hne:isEff (QS X nt ops) i=true->Nat.testBit ((BS ops).getD i 0) j=true->False) (ho:ops[i]?=some o) (ho':ops[j]?=some o') :
  Apart (compO X.P X.N nt ops o') (compO X.P X.N nt ops o).dst:=by
 intro p hp
 obtain⟨h1,h2⟩:=hd.ok.ssa j i _ _ p (CS_at ho') (CS_at ho) hp
 refine⟨?_,h2.resolve_left fun e=>hi (e ▸ hj)⟩
 cases hu:usesP (compO X.P X.N nt ops o') p
 ·rfl
 ·rcases h1 hu with h3 |⟨h3,h4|h4⟩
  ·exact absurd (hd.closed j hj i h3) hi
  ·exact (hne h3 h4).elim
  ·exact absurd (h4 ▸ hj) hi
theorem DR.settled (hd:DR X φ h n lo nt fn regs rest defers round T k ds ro ops L A C is α live) {i:Nat} {o:Oper} {oxs:List Operand} (ho:ops[i]?=some o) (hk:OpOk X nt ops o (compO X.P X.N nt ops o) oxs) (hm:∀ j,Nat.testBit ((BS ops).getD i 0) j=true->j ∈ C) :
  (∀ t,Operand.tmp t ∈ oxs->Settled ops A C t)/\GuardIn (Settled ops A C) ops o:=by
 have key:∀ t,usesP (compO X.P X.N nt ops o) (pathOf depth t)=true->Settled ops A C t:=by
  intro t hu j o' ho' hdst hjA
  obtain⟨oxs',hk'⟩:=hd.ok.good j o' ho'
  have hdp:(compO X.P X.N nt ops o').dst=some (pathOf depth t):=by
   rcases hk'.dst with ⟨h1,_⟩ |⟨d,h1,_,h3⟩
   ·rw [h1] at hdst;simp at hdst
   ·rw [h1] at hdst;simp at hdst;subst hdst;exact h3
  rcases (hd.ok.ssa i j _ _ _ (CS_at ho) (CS_at ho') hdp).1 hu with h3 |⟨h3,_⟩
  ·exact hm j h3
  ·exact hd.eff j hjA h3
 refine⟨fun t ht=>key t (usesP_of_xs (cxs_mem hk.xs ht).2),fun j b g hg hdst=>?_⟩
 rcases hk.guard with ⟨h1,_⟩ |⟨j',b',g',h1,h2,h3,h4⟩
 ·rw [h1] at hg;simp at hg
 ·rw [h1] at hg
  simp only [Option.some.injEq,Prod.mk.injEq] at hg
  obtain⟨rfl,rfl⟩:=hg
  rw [h2] at hdst;simp at hdst;subst hdst
  exact key _ (usesP_of_guard h4)
theorem OpOk.dst_path {o:Oper} {c:COp} {oxs:List Operand} (hk:OpOk X nt ops o c oxs):∀ p,c.dst=some p->∃ i,p=pathOf depth i:=hk.paths.2.2
theorem OpOk.put_dst {o:Oper} {c:COp} {oxs:List Operand} (hk:OpOk X nt ops o c oxs) (t:Tr) (v:AV):DstIs (putR t c.dst v) c v:=by
 intro p hp
 rw [hp]
 exact getP_setP_same _ _ _
theorem DR.regs_ahead (hd:DR X φ h n lo nt fn regs rest defers round T k ds ro ops L A C is α live) {i:Nat} {o:Oper} {oxs:List Operand} (hi:i ∉ C) (ho:ops[i]?=some o) (hk:OpOk X nt ops o (compO X.P X.N nt ops o) oxs) (v:AV) :
  FB X φ (Settled ops (i::A) C) nt fn (putR regs (compO X.P X.N nt ops o).dst v) rest defers round T k ds ro:=by
 refine⟨hd.fb.func,hd.fb.small,hd.fb.size,?_,hd.fb.rest,hd.fb.dfr,hd.fb.round⟩
 have hsub:∀ t,Settled ops (i::A) C t->Settled ops A C t:=fun t hS j o' ho' hdj hj=>hS j o' ho' hdj (List.mem_cons_of_mem _ hj)
 rcases hk.dst with ⟨_,h2⟩ |⟨d,h1,h2,h3⟩
 ·rw [h2];exact hd.fb.regs.weaken hsub
 ·rw [h3]
  intro t u hS h256 hu
  have hne:t≠d:=fun e=>hi (hS i o ho (by rw [h1,e]) (by simp))
  rw [show reg (putR regs (some (pathOf depth d)) v) t=reg regs t from by
   rw [show putR regs (some (pathOf depth d)) v=setP (pathOf depth d) v regs from rfl,reg_set _ _ _ _ (Nat.lt_of_lt_of_le h2 hd.fb.small) h256,if_neg hne]] at hu
  exact hd.fb.regs t u (hsub t hS) h256 hu
theorem stDraw_cons (E:Env) (c:COp) (rc:List COp) (ds':List DStep) (fn:FuncId) (regs:Tr) (todo:List AItem) (defers:List Df) (round:Option Nat) (cs:List AF) (h:Hp) (n:Nat) (K:Kont) :
  stDraw E (⟨c,rc⟩::ds') (.mk fn regs todo defers round) cs h n K =
   wantK c.guard regs
    (rds c.xs regs fun vs=>execV c.k vs h n
     ⟨fun v h n=>putD c.dst v regs fun regs=>recheckK rc regs h n (K (.draw ds' (.mk fn regs todo defers round) cs) h n),
      fun g args h n=>enterK E g args (.mk fn regs (.inDraw c.dst rc ds'::todo) defers round) cs h n K,
      fun l args h n=>yieldK l args (.mk fn regs (.inDraw c.dst rc ds'::todo) defers round) cs h n K,
      E.meth⟩)
    (putD c.dst undefA regs fun regs=>K (.draw ds' (.mk fn regs todo defers round) cs) h n):=by
 cases c;rfl
theorem draw_quiet {E:Env} {cs:List AF} {K:Kont} {i:Nat} (hd:DR X φ h n lo nt fn regs rest defers round T k ds ro ops (i::L) A C is α true) (hw:W X φ h n w) (hlo:lo<=n) (hq:isEff (QS X nt ops) i=false)
  (hK:stDraw E (dsteps (CS X nt ops) (QS X nt ops) (BS ops) (i::L) A) (.mk fn regs rest defers round) cs h n K=true) :
  ∃ regs' h' n' α',K (.draw (dsteps (CS X nt ops) (QS X nt ops) (BS ops) L (i::A)) (.mk fn regs' rest defers round) cs) h' n'=true /\
   DR X φ h' n' lo nt fn regs' rest defers round T k ds ro ops L (i::A) C is α' true/\W X φ h' n' w/\GrowB lo φ h φ h'/\n<=n':=by
 obtain⟨hi1,hi2,hi3,hi4,hi5⟩:=hd.ord
 obtain⟨o,ho⟩:∃ o,ops[i]?=some o:=⟨_,Array.getElem?_eq_getElem hi1⟩
 obtain⟨oxs,hk⟩:=hd.ok.good i o ho
 have hiC:i ∉ C:=fun hc=>hi2 (hd.sub i hc)
 have hq':quiet (compO X.P X.N nt ops o).k≠.eff:=fun e=>by rw [isEff_of ho e] at hq;simp at hq
 simp only [dsteps] at hK
 rw [stDraw_cons,CS_getD ho] at hK
 have hnoeff:∀ j ∈ A,j ∉ C->isEff (QS X nt ops) j=false:=fun j hj hjC=>by
  cases he:isEff (QS X nt ops) j
  ·rfl
  ·exact absurd (hd.eff j hj he) hjC
 have mk:∀ (v:AV) (h':Hp) (n':Nat) (α':Nat->Option Nat),n<=n'->(∀ i a,α' i=some a->lo<=a/\a < n')->(∀ i j a,α' i=some a->α' j=some a->i=j) ->
   (∀ j ∈ A,j ∉ C->∀ o' oxs',ops[j]?=some o'->OpOk X nt ops o' (compO X.P X.N nt ops o') oxs'->Pend X nt ops (putR regs (compO X.P X.N nt ops o).dst v) φ h' α' true j o' oxs') ->
   (∀ oxs',OpOk X nt ops o (compO X.P X.N nt ops o) oxs'->Pend X nt ops (putR regs (compO X.P X.N nt ops o).dst v) φ h' α' true i o oxs') ->
   DR X φ h' n' lo nt fn (putR regs (compO X.P X.N nt ops o).dst v) rest defers round T k ds ro ops L (i::A) C is α' true:=by
  intro v h' n' α' hn hbnd hinj hold hnew
  refine⟨hd.ok,hi5,hd.sch,fun j hj=>List.mem_cons_of_mem _ (hd.sub j hj),?_,?_,?_,hd.regs_ahead hiC ho hk v,?_,hinj,hbnd⟩
  ·intro j hj he
   rcases List.mem_cons.1 hj with rfl|hj
   ·rw [hq] at he;simp at he
   ·exact hd.eff j hj he
  ·intro j hj m hm
   rcases List.mem_cons.1 hj with rfl|hj
   ·exact List.mem_cons_of_mem _ (hi3 m hm)
   ·exact List.mem_cons_of_mem _ (hd.closed j hj m hm)
  ·intro j hj
   rcases List.mem_cons.1 hj with rfl|hj
   ·exact hi1
   ·exact hd.lt j hj
  ·intro j hj hjC o' oxs' ho' hk'
   rcases List.mem_cons.1 hj with rfl|hj
   ·rw [ho] at ho';simp at ho';subst ho'
    exact hnew oxs' hk'
   ·exact hold j hj hjC o' oxs' ho' hk'
 have old:∀ v,∀ j ∈ A,j ∉ C->∀ o' oxs',ops[j]?=some o'->OpOk X nt ops o' (compO X.P X.N nt ops o') oxs'->Pend X nt ops (putR regs (compO X.P X.N nt ops o).dst v) φ h α true j o' oxs':=by
  intro v j hj hjC o' oxs' ho' hk'
  exact (hd.pend j hj hjC o' oxs' ho' hk').put hk' hk.dst_path (hd.apart hi2 hj (fun e _=>by rw [hq] at e;simp at e) ho ho')
 have own:∀ p,(compO X.P X.N nt ops o).dst=some p->usesP (compO X.P X.N nt ops o) p=false:=by
  intro p hp
  cases hu:usesP (compO X.P X.N nt ops o) p
  ·rfl
  ·rcases (hd.ok.ssa i i _ _ p (CS_at ho) (CS_at ho) hp).1 hu with h3 |⟨h3,_⟩
   ·exact absurd (hi3 i h3) hi2
   ·rw [hq] at h3;simp at h3
 have ownV:∀ v,vals (compO X.P X.N nt ops o).xs (putR regs (compO X.P X.N nt ops o).dst v)=vals (compO X.P X.N nt ops o).xs regs:=by
  intro v
  cases hdst:(compO X.P X.N nt ops o).dst with
  | none=>rfl
  | some p =>
   obtain⟨m,rfl⟩:=hk.dst_path p hdst
   exact vals_put fun q hq=>⟨hk.paths.1 q hq,usesP_xs (own _ hdst) q hq⟩
 have ownG:∀ v q b,(compO X.P X.N nt ops o).guard=some (q,b)->getP q (putR regs (compO X.P X.N nt ops o).dst v)=getP q regs:=by
  intro v q b hg
  cases hdst:(compO X.P X.N nt ops o).dst with
  | none=>rfl
  | some p =>
   obtain⟨m,rfl⟩:=hk.dst_path p hdst
   obtain⟨m',rfl⟩:=hk.paths.2.1 q b hg
   exact getP_put (usesP_guard (own _ hdst) _ b hg)
 rcases want_cases hK with ⟨hwt,h1⟩ |⟨hwt,h1⟩
 ·obtain⟨vs,hvs,h2⟩:=rds_iff.1 h1
  have hwt':∀ v,Wants (putR regs (compO X.P X.N nt ops o).dst v) (compO X.P X.N nt ops o):=fun v q b hg=>by rw [ownG v q b hg];exact hwt q b hg
  cases hkind:quiet (compO X.P X.N nt ops o).k with
  | eff=>exact absurd hkind hq'
  | pure =>
   obtain⟨v,hv1,hv2⟩:=pure_sim hk.op hkind h2
   rw [hv1] at h2
   dsimp only at h2
   rw [putD_eq,again_nil ho hq (.inl hkind)] at h2
   refine⟨_,h,n,α,h2,mk v h n α (Nat.le_refl _) hd.bnd hd.inj (old v) (fun oxs' hk'=>?_),hw,GrowB.refl _ _ _,Nat.le_refl _⟩
   obtain rfl:oxs'=oxs:=by have:=hk'.op.symm.trans hk.op;simpa using this
   exact .inr ⟨hwt' v,vs,v,by rw [ownV];exact hvs,hk.put_dst _ _,.inl ⟨hkind,hv2⟩⟩
  | read =>
   obtain⟨v,hv⟩:=read_sim hk.op hkind h2
   rw [hv.1] at h2
   dsimp only at h2
   rw [putD_eq,again_nil ho hq (.inr hkind)] at h2
   refine⟨_,h,n,α,h2,mk v h n α (Nat.le_refl _) hd.bnd hd.inj (old v) (fun oxs' hk'=>?_),hw,GrowB.refl _ _ _,Nat.le_refl _⟩
   obtain rfl:oxs'=oxs:=by have:=hk'.op.symm.trans hk.op;simpa using this
   exact .inr ⟨hwt' v,vs,v,by rw [ownV];exact hvs,hk.put_dst _ _,.inr (.inl ⟨hkind,fun _=>hv⟩)⟩
  | make =>
   obtain⟨b,val,hv⟩:=make_sim hk.op hkind h2
   rw [hv.1] at h2
   obtain⟨hn,h3⟩:=newK_iff.1 h2
   dsimp only at h3
   rw [putD_eq] at h3
   obtain⟨h4,h5⟩:=recheck_ok (X:=X) (nt:=nt) (ops:=ops) _ h3 (again_reads hd.ok)
   obtain⟨g1,g2⟩:=hw.ghost hn b
   have hlt:∀ a,a < n->hb (hput n b h) a=hb h a:=fun a ha=>by rw [hb_hput _ _ hn trivial,if_neg (by omega)]
   refine⟨_,_,_,fun j=>if j=i then some n else α j,h4,mk (val n) _ _ _ (Nat.le_succ n) ?_ ?_ ?_ ?_,g1,g2.b hlo,Nat.le_succ n⟩
   ·intro j a ha
    split at ha
    ·simp at ha;omega
    ·have:=hd.bnd j a ha;omega
   ·intro j j' a ha ha'
    split at ha
    ·split at ha'
     ·rename_i e e';rw [e,e']
     ·simp at ha;have:=hd.bnd j' a ha';omega
    ·split at ha'
     ·simp at ha';have:=hd.bnd j a ha;omega
     ·exact hd.inj j j' a ha ha'
   ·intro j hj hjC o' oxs' ho' hk'
    have hne:j≠i:=fun e=>hi2 (e ▸ hj)
    have hp:=old (val n) j hj hjC o' oxs' ho' hk'
    have hp':Pend X nt ops (putR regs (compO X.P X.N nt ops o).dst (val n)) φ (hput n b h) (fun j=>if j=i then some n else α j) false j o' oxs':=by
     rcases hp with hp |⟨h6,vs',u,h7,h8,h9 |⟨h9,_⟩ |⟨h9,a,b',val',h10,h11,h12,h13,h14⟩⟩
     ·exact .inl hp
     ·exact .inr ⟨h6,vs',u,h7,h8,.inl h9⟩
     ·exact .inr ⟨h6,vs',u,h7,h8,.inr (.inl ⟨h9,by simp⟩)⟩
     ·exact .inr ⟨h6,vs',u,h7,h8,.inr (.inr ⟨h9,a,b',val',by simp only [if_neg hne];exact h10,h11,by rw [hlt a (hd.bnd j a h10).2];exact h12,h13,h14⟩)⟩
    refine hp'.relive fun hr=>?_
    exact h5 _ (again_mem ho ho' hj (hnoeff j hj hjC) hr (.inl ⟨hq,hkind⟩)) o' oxs' hk'
   ·intro oxs' hk'
    obtain rfl:oxs'=oxs:=by have:=hk'.op.symm.trans hk.op;simpa using this
    refine .inr ⟨hwt' _,vs,val n,by rw [ownV];exact hvs,hk.put_dst _ _,.inr (.inr ⟨hkind,n,b,val,by simp,hw.phi_none (Nat.le_refl n),by rw [hb_hput _ _ hn hn,if_pos rfl],rfl,hv⟩)⟩
 ·rw [putD_eq] at h1
  refine⟨_,h,n,α,h1,mk undefA h n α (Nat.le_refl _) hd.bnd hd.inj (old undefA) (fun oxs' hk'=>?_),hw,GrowB.refl _ _ _,Nat.le_refl _⟩
  obtain⟨q,b,v,h2,h3,h4⟩:=hwt
  exact .inl ⟨⟨q,b,v,h2,by rw [ownG undefA q b h2];exact h3,h4⟩,hk.put_dst _ _⟩
end
section
variable {X:Ctx} {nt:Nat} {ops:Array Oper} {φ:Phi} {h:Hp} {n lo:Nat} {kd:CallKind} {fn:FuncId} {regs:Tr} {rest:List AItem} {defers:List Df} {round:Option Nat} {T:Array Value} {k:List Item} {ds:List Deferred} {ro:Option Nat} {L A C is:List Nat} {α:Nat->Option Nat} {live:Bool} {w:World}
theorem compOp_noDefer {P:Program} {N:FuncId->Option Ext} {o:Oper} {oc:OC} {xs:List Operand} (h:compOp P N o=some (oc,xs)) (hne:oc≠.defer):∀ c,o.op≠.defer c:=by
 intro c e
 unfold compOp at h
 rw [e] at h
 simp only at h
 split at h
 ·simp only [Option.some.injEq,Prod.mk.injEq] at h
  exact hne h.1.symm
 ·simp at h
theorem ev_const (T:Array Value):∀ v,ev T (.const v)=v:=fun _=>rfl
theorem ev_func (T:Array Value):∀ f,ev T (.func f)=.func (.func f) #[] #[]:=fun _=>rfl
theorem settled_cons {j t:Nat} {o:Oper} (ho:ops[j]?=some o) (hS:Settled ops A (j::C) t) (hne:o.dst≠some t):Settled ops A C t:=by
 intro i o' ho' hd hi
 rcases List.mem_cons.1 (hS i o' ho' hd hi) with rfl|h
 ·rw [ho] at ho';simp at ho';subst ho';exact absurd hd hne
 ·exact h
theorem settled_both {j t:Nat} {o:Oper} (ho:ops[j]?=some o) (hS:Settled ops (j::A) (j::C) t) (hne:o.dst≠some t):Settled ops A C t :=
 settled_cons ho (fun i o' ho' hd hi=>hS i o' ho' hd (List.mem_cons_of_mem _ hi)) hne
theorem putT_self {d t:Nat} {c:Value} (hd:d < T.size):(putT T (some d) c)[d]?=some c:=by simp [putT,hd]
theorem putT_ne {d:Option Tmp} {t:Nat} {c:Value} (hd:d≠some t):(putT T d c)[t]?=T[t]?:=by
 cases d with
 | none=>rfl
 | some d=>simp only [putT];rw [Array.getElem?_setIfInBounds_ne (fun e=>hd (by rw [e]))]
theorem mach_quiet {cs:List Frame} {j:Nat} (hd:DR X φ h n lo nt fn regs rest defers round T k ds ro ops L A C (j::is) α true) (hw:W X φ h n w) (hjA:j ∈ A) :
  ∃ φ' w' T',step X.P (lone (mkF kd fn T (.inRegion ops (j::is)::k) ds ro) cs w)=.next (lone (mkF kd fn T' (.inRegion ops is::k) ds ro) cs w') /\
   DR X φ' h n lo nt fn regs rest defers round T' k ds ro ops L A (j::C) is α true/\W X φ' h n w'/\GrowB lo φ h φ' h:=by
 obtain⟨hj1,hjC,hjm,hj5⟩:=hd.sch
 obtain⟨o,ho⟩:∃ o,ops[j]?=some o:=⟨_,Array.getElem?_eq_getElem hj1⟩
 obtain⟨oxs,hk⟩:=hd.ok.good j o ho
 obtain⟨hs1,hs2⟩:=hd.settled ho hk hjm
 have hnd:=compOp_noDefer hk.op (hd.ok.nodf j o ho)
 have mk:∀ (φ':Phi) (v:AV) (c:Value),φ.le φ'->VRel φ' v c->DstIs regs (compO X.P X.N nt ops o) v->(∀ i a,i≠j->α i=some a->φ a=none->φ' a=none) ->
   DR X φ' h n lo nt fn regs rest defers round (putT T o.dst c) k ds ro ops L A (j::C) is α true:=by
  intro φ' v c hle hv hdst hkeep
  have fb':=hd.fb.mono hle
  refine⟨hd.ok,hd.ord,hj5,?_,fun i hi he=>List.mem_cons_of_mem _ (hd.eff i hi he),hd.closed,hd.lt,⟨fb'.func,fb'.small,by rw [putT_size];exact fb'.size,?_,fb'.rest,fb'.dfr,fb'.round⟩,?_,hd.inj,hd.bnd⟩
  ·intro i hi
   rcases List.mem_cons.1 hi with rfl|hi
   ·exact hjA
   ·exact hd.sub i hi
  ·intro t u hS h256 hu
   by_cases e:o.dst=some t
   ·rcases hk.dst with ⟨h1,_⟩ |⟨d,h1,h2,h3⟩
    ·rw [h1] at e;simp at e
    ·rw [h1] at e;simp at e;subst e
     have:=hdst _ h3
     rw [reg_eq,this] at hu
     simp at hu;subst hu
     exact⟨c,by rw [h1];exact putT_self (t:=d) (by rw [fb'.size];exact h2),hv⟩
   ·rw [putT_ne e]
    exact fb'.regs t u (settled_cons ho hS e) h256 hu
  ·intro i hi hiC o' oxs' ho' hk'
   have hij:i≠j:=fun e=>hiC (by rw [e];simp)
   rcases hd.pend i hi (fun hc=>hiC (List.mem_cons_of_mem _ hc)) o' oxs' ho' hk' with hp |⟨h3,vs,u,h4,h5,h6|h6 |⟨h6,a,b,val,h7,h8,h9⟩⟩
   ·exact .inl hp
   ·exact .inr ⟨h3,vs,u,h4,h5,.inl h6⟩
   ·exact .inr ⟨h3,vs,u,h4,h5,.inr (.inl h6)⟩
   ·exact .inr ⟨h3,vs,u,h4,h5,.inr (.inr ⟨h6,a,b,val,h7,hkeep i a hij h7 h8,h9⟩)⟩
 rcases hd.pend j hjA hjC o oxs ho hk with ⟨h1,h2⟩ |⟨h3,vs,v,h4,h5,⟨h6,h7⟩ |⟨h6,h7⟩ |⟨h6,a,b,val,h7,h8,h9,rfl,h10⟩⟩
 ·exact⟨φ,w,_,st_opSkip ho (wanted_no hk hd.fb.small hd.fb.regs hs2 h1),mk φ undefA undef (Phi.le_refl _) undef_rel h2 (fun _ _ _ _ h=>h),hw,GrowB.refl _ _ _⟩
 ·have hr:=vals_rel hw.glob hk.xs h4 hs1 hd.fb.regs
  obtain⟨c,h8,h9⟩:=h7 φ (ev T) w (ev_const T) hr
  exact⟨φ,w,_,st_opValue ho (wanted_yes hk hd.fb.small hd.fb.regs hs2 h3) hnd (.inl h8),mk φ v c (Phi.le_refl _) h9 h5 (fun _ _ _ _ h=>h),hw,GrowB.refl _ _ _⟩
 ·have hr:=vals_rel hw.glob hk.xs h4 hs1 hd.fb.regs
  obtain⟨c,h8,h9⟩:=(h7 rfl).2 φ n w (ev T) hw (ev_const T) hr
  exact⟨φ,w,_,st_opValue ho (wanted_yes hk hd.fb.small hd.fb.regs hs2 h3) hnd (.inl h8),mk φ v c (Phi.le_refl _) h9 h5 (fun _ _ _ _ h=>h),hw,GrowB.refl _ _ _⟩
 ·have hr:=vals_rel hw.glob hk.xs h4 hs1 hd.fb.regs
  obtain⟨hm1,hm2,hm3,hm4⟩:=h10
  obtain⟨ob,sz,c,h11,h12⟩:=hm4 φ (ev T) w (ev_const T) hr hw.size
  have hle:φ.le (φ.put a ⟨w.heap.size,0,sz⟩):=fun x q e=>by rw [Phi.put_ne _ _ (fun ex=>by rw [ex,h8] at e;simp at e),e]
  obtain⟨h13,h14⟩:=h12 (φ.put a ⟨w.heap.size,0,sz⟩) h a hle (Phi.put_self _ _ _)
  obtain⟨g1,g2⟩:=hw.late (hd.bnd j a h7).2 h8 h9 hm2 rfl h14
  refine⟨_,_,_,st_opValue ho (wanted_yes hk hd.fb.small hd.fb.regs hs2 h3) hnd (.inl h11),mk _ _ c g2 h13 h5 ?_,g1,⟨g2,?_⟩⟩
  ·intro i a' hij ha' hn'
   have:a'≠a:=fun e=>hij (hd.inj i j a' ha' (by rw [e];exact h7))
   rw [Phi.put_ne _ _ this];exact hn'
  ·intro x hx hxn _
   have:x≠a:=fun e=>by have:=(hd.bnd j a h7).1;omega
   exact⟨by rw [Phi.put_ne _ _ this];exact hxn,rfl⟩
theorem mach_catch {cs:List Frame} (hL:L=[]\/∃ i L',L=i::L'/\isEff (QS X nt ops) i=true):∀ (is:List Nat) {C:List Nat} {T:Array Value} {φ:Phi} {w:World},
  DR X φ h n lo nt fn regs rest defers round T k ds ro ops L A C is α true->W X φ h n w ->
  ∃ φ' w' T' C' is',Steps X.P (lone (mkF kd fn T (.inRegion ops is::k) ds ro) cs w) (lone (mkF kd fn T' (.inRegion ops is'::k) ds ro) cs w') /\
   DR X φ' h n lo nt fn regs rest defers round T' k ds ro ops L A C' is' α true/\W X φ' h n w'/\GrowB lo φ h φ' h/\((L=[]/\is'=[])\/∃ i L' is'',L=i::L'/\is'=i::is'')
 | [],C,T,φ,w,hd,hw=>by
  refine⟨φ,w,T,C,[],.refl _ _,hd,hw,GrowB.refl _ _ _,?_⟩
  rcases hL with rfl |⟨i,L',rfl,_⟩
  ·exact .inl ⟨rfl,rfl⟩
  ·have h1:=hd.ord.1
   exact absurd (hd.sub i (hd.sch i h1)) hd.ord.2.1
 | j::is,C,T,φ,w,hd,hw=>by
  by_cases hj:j ∈ A
  ·obtain⟨φ1,w1,T1,h1,h2,h3,h4⟩:=mach_quiet (cs:=cs) hd hw hj
   obtain⟨φ2,w2,T2,C2,is2,h5,h6,h7,h8,h9⟩:=mach_catch hL is h2 h3
   exact⟨φ2,w2,T2,C2,is2,.head h1 h5,h6,h7,h4.trans h8,h9⟩
  ·refine⟨φ,w,T,C,j::is,.refl _ _,hd,hw,GrowB.refl _ _ _,?_⟩
   have hj1:=hd.sch.1
   rcases hL with rfl |⟨i,L',rfl,he⟩
   ·exact absurd (hd.ord j hj1) hj
   ·rcases hd.ord.mem j hj1 with h1|h1
    ·exact absurd h1 hj
    ·rcases List.mem_cons.1 h1 with rfl|h1
     ·exact .inr ⟨j,L',is,rfl,rfl⟩
     ·have h2:=hd.ord.2.2.2.1 he j h1
      exact absurd (hd.sub i (hd.sch.2.2.1 i h2)) hd.ord.2.1
theorem DR.advance {i:Nat} {o:Oper} {oxs:List Operand} {v:AV} {c:Value} {live':Bool} (hd:DR X φ h n lo nt fn regs rest defers round T k ds ro ops (i::L) A C (i::is) α live) (ho:ops[i]?=some o) (hk:OpOk X nt ops o (compO X.P X.N nt ops o) oxs) (hv:VRel φ v c)
  (hp:∀ j ∈ A,j ∉ C->∀ o' oxs',ops[j]?=some o'->OpOk X nt ops o' (compO X.P X.N nt ops o') oxs'->Pend X nt ops (putR regs (compO X.P X.N nt ops o).dst v) φ h α live' j o' oxs') :
  DR X φ h n lo nt fn (putR regs (compO X.P X.N nt ops o).dst v) rest defers round (putT T o.dst c) k ds ro ops L (i::A) (i::C) is α live':=by
 obtain⟨hi1,hi2,hi3,hi4,hi5⟩:=hd.ord
 obtain⟨hj1,hj2,hj3,hj5⟩:=hd.sch
 refine⟨hd.ok,hi5,hj5,?_,?_,?_,?_,⟨hd.fb.func,hd.fb.small,by rw [putT_size];exact hd.fb.size,?_,hd.fb.rest,hd.fb.dfr,hd.fb.round⟩,?_,hd.inj,hd.bnd⟩
 ·intro j hj
  rcases List.mem_cons.1 hj with rfl|hj
  ·simp
  ·exact List.mem_cons_of_mem _ (hd.sub j hj)
 ·intro j hj he
  rcases List.mem_cons.1 hj with rfl|hj
  ·simp
  ·exact List.mem_cons_of_mem _ (hd.eff j hj he)
 ·intro j hj m hm
  rcases List.mem_cons.1 hj with rfl|hj
  ·exact List.mem_cons_of_mem _ (hi3 m hm)
  ·exact List.mem_cons_of_mem _ (hd.closed j hj m hm)
 ·intro j hj
  rcases List.mem_cons.1 hj with rfl|hj
  ·exact hi1
  ·exact hd.lt j hj
 ·intro t u hS h256 hu
  rcases hk.dst with ⟨h1,h2⟩ |⟨d,h1,h2,h3⟩
  ·rw [h2] at hu
   rw [h1]
   exact hd.fb.regs t u (settled_both ho hS (by rw [h1];simp)) h256 hu
  ·rw [h3] at hu
   rw [h1]
   have hsm:=hd.fb.small
   rw [show putR regs (some (pathOf depth d)) v=setP (pathOf depth d) v regs from rfl,reg_set _ _ _ _ (Nat.lt_of_lt_of_le h2 hsm) h256] at hu
   by_cases e:t=d
   ·subst e
    rw [if_pos rfl] at hu
    simp at hu;subst hu
    exact⟨c,putT_self (t:=t) (by rw [hd.fb.size];exact h2),hv⟩
   ·rw [if_neg e] at hu
    have hne:(some d:Option Tmp)≠some t:=fun e'=>e (Option.some.inj e').symm
    rw [putT_ne hne]
    exact hd.fb.regs t u (settled_both ho hS (by rw [h1];exact hne)) h256 hu
 ·intro j hj hjC o' oxs' ho' hk'
  rcases List.mem_cons.1 hj with rfl|hj
  ·exact absurd (by simp) hjC
  ·exact hp j hj (fun hc=>hjC (List.mem_cons_of_mem _ hc)) o' oxs' ho' hk'
theorem DR.resume {i m:Nat} {o:Oper} {v:AV} {c:Value} {kk:Bool} (hd:DR X φ h n lo nt fn regs rest defers round T k ds ro ops (i::L) A C (i::is) α live) (ho:ops[i]?=some o) (he:isEff (QS X nt ops) i=true) (hv:VRel φ v c)
  (hr:recheckK (again (CS X nt ops) (QS X nt ops) (BS ops) i A) (putR regs (compO X.P X.N nt ops o).dst v) h m kk=true) :
  kk=true/\DR X φ h n lo nt fn (putR regs (compO X.P X.N nt ops o).dst v) rest defers round (putT T o.dst c) k ds ro ops L (i::A) (i::C) is α true:=by
 obtain⟨oxs,hk⟩:=hd.ok.good i o ho
 obtain⟨h1,h2⟩:=recheck_ok (X:=X) (nt:=nt) (ops:=ops) _ hr (again_reads hd.ok)
 refine⟨h1,hd.advance ho hk hv fun j hj hjC o' oxs' ho' hk'=>?_⟩
 have hp:=(hd.pend j hj hjC o' oxs' ho' hk').put (v:=v) hk' hk.dst_path (hd.apart hd.ord.2.1 hj (fun _ e=>hjC (hd.sch.2.2.1 j e)) ho ho')
 have hje:isEff (QS X nt ops) j=false:=by
  cases hje:isEff (QS X nt ops) j
  ·rfl
  ·exact absurd (hd.eff j hj hje) hjC
 refine hp.relive fun hread=>h2 _ (again_mem ho ho' hj hje hread (.inr ⟨he,?_⟩)) o' oxs' hk'
 cases hb:Nat.testBit ((BS ops).getD i 0) j
 ·rfl
 ·exact absurd (hd.sch.2.2.1 j hb) hjC
theorem DR.pass {i:Nat} {o:Oper} {v:AV} {c:Value} (hd:DR X φ h n lo nt fn regs rest defers round T k ds ro ops (i::L) A C (i::is) α live) (ho:ops[i]?=some o) (hv:VRel φ v c) :
  DR X φ h n lo nt fn (putR regs (compO X.P X.N nt ops o).dst v) rest defers round (putT T o.dst c) k ds ro ops L (i::A) (i::C) is α live:=by
 obtain⟨oxs,hk⟩:=hd.ok.good i o ho
 exact hd.advance ho hk hv fun j hj hjC o' oxs' ho' hk'=>(hd.pend j hj hjC o' oxs' ho' hk').put (v:=v) hk' hk.dst_path (hd.apart hd.ord.2.1 hj (fun _ e=>hjC (hd.sch.2.2.1 j e)) ho ho')
theorem DR.done (hd:DR X φ h n lo nt fn regs rest defers round T k ds ro ops [] A C [] α live):FB X φ All nt fn regs rest defers round T k ds ro:=by
 refine⟨hd.fb.func,hd.fb.small,hd.fb.size,fun t u _ h256 hu=>hd.fb.regs t u (fun i o ho _ _=>?_) h256 hu,hd.fb.rest,hd.fb.dfr,hd.fb.round⟩
 refine hd.sch i ?_
 rw [Array.getElem?_eq_some_iff] at ho
 exact ho.1
theorem DR.begin {order:List Nat} (fb:FB X φ All nt fn regs rest defers round T k ds ro) (hok:drawOk ops (CS X nt ops) (QS X nt ops) (BS ops) order=true) (t lo:Nat) :
  DR X φ h n lo nt fn regs rest defers round T k ds ro ops order [] [] (Region.schedule true ops t) (fun _=>none) true:=by
 obtain⟨h1,h2⟩:=drawOk_p hok
 exact⟨h1,h2,schedule_sch h1.edges t,by simp,by simp,by simp,by simp,⟨fb.func,fb.small,fb.size,fb.regs.weaken fun _ _=>trivial,fb.rest,fb.dfr,fb.round⟩,by simp,by simp,by simp⟩
end
def UnRel (φ:Phi):Un->FrameMode->Prop
 | .ret,m=>m=.returning
 | .pan v got,m=>∃ c,VRel φ v c/\m=.panicking [{ v:=c,recovered:=got }]
theorem UnRel.mono {φ φ':Phi} (h:φ.le φ') {u:Un} {m:FrameMode} (r:UnRel φ u m):UnRel φ' u m:=by
 cases u with
 | ret=>exact r
 | pan v got=>obtain⟨c,h1,h2⟩:=r;exact⟨c,VRel.mono h _ _ h1,h2⟩
def mkU (md:FrameMode) (kd:CallKind) (fn:FuncId) (T:Array Value) (todo:List Item) (ds:List Deferred):Frame :=
 { fn:=fn,tmps:=T,todo:=todo,defers:=ds,mode:=md,kind:=kd,roundOf:=none }
def Susp (X:Ctx) (φ:Phi) (h:Hp) (lo hi:Nat) (kd:CallKind):AF->Frame->Prop
 | .mk fn regs (.inReg dst os::rest) defers round,fr=>∃ nt T k ds ro ops i is o,fr=mkF kd fn T (.inRegion ops (i::is)::k) ds ro/\FB X φ All nt fn regs rest defers round T k ds ro/\ops[i]?=some o /\
   ((o.dst=none/\dst=none)\/∃ t,o.dst=some t/\t < nt/\dst=some (pathOf depth t))/\os=is.map (fun i=>(CS X nt ops).getD i badOp)/\∀ i ∈ is,i < ops.size
 | .mk fn regs (.inDraw dst rc ds'::rest) defers round,fr=>∃ nt T k ds ro ops i L A C is α o live,fr=mkF kd fn T (.inRegion ops (i::is)::k) ds ro /\
   DR X φ h hi lo nt fn regs rest defers round T k ds ro ops (i::L) A C (i::is) α live/\ops[i]?=some o/\isEff (QS X nt ops) i=true/\dst=(compO X.P X.N nt ops o).dst/\rc=again (CS X nt ops) (QS X nt ops) (BS ops) i A /\
   ds'=dsteps (CS X nt ops) (QS X nt ops) (BS ops) L (i::A)
 | .mk fn regs (.inRF l::rest) defers round,fr=>∃ nt T k ds ro p,φ l=some p/\fr=mkF kd fn T (.inRangeFunc p.blk::k) ds ro/\FB X φ All nt fn regs rest defers round T k ds ro
 | .mk fn regs (.inUnw u::rest) defers round,fr=>∃ nt T k ds md,fr=mkU md kd fn T k ds/\UnRel φ u md/\round=none/\FB X φ All nt fn regs [] defers none T [] ds none
 | _,_=>False
def AF.isBot (f0:FuncId):AF->Prop
 | .mk fn _ _ _ round=>fn=f0/\round=none
def Stack (X:Ctx) (f0:FuncId) (φ:Phi) (h:Hp):Nat->List AF->List Frame->Prop
 | m,[],frs=>frs=[]
 | m,f::fs,frs=>∃ fr frs' lo hi,frs=fr::frs'/\lo<=hi/\hi<=m/\Susp X φ h lo hi (kdOf fs) f fr/\(fs=[]->f.isBot f0)/\Stack X f0 φ h lo fs frs'
theorem Susp.grow {X:Ctx} {φ φ':Phi} {h h':Hp} {lo hi m:Nat} {kd:CallKind} {f:AF} {fr:Frame} (g:GrowB m φ h φ' h') (hm:hi<=m) (s:Susp X φ h lo hi kd f fr):Susp X φ' h' lo hi kd f fr:=by
 obtain⟨fn,regs,todo,defers,round⟩:=f
 cases todo with
 | nil=>exact s.elim
 | cons i rest =>
  cases i with
  | inReg dst os =>
   obtain⟨nt,T,k,ds,ro,ops,i,is,o,h1,h2,h3⟩:=s
   exact⟨nt,T,k,ds,ro,ops,i,is,o,h1,h2.mono g.phi,h3⟩
  | inDraw dst rc ds' =>
   obtain⟨nt,T,k,ds,ro,ops,i,L,A,C,is,α,o,live,h1,h2,h3⟩:=s
   exact⟨nt,T,k,ds,ro,ops,i,L,A,C,is,α,o,false,h1,h2.grow g hm (Nat.le_refl _),h3⟩
  | inRF l =>
   obtain⟨nt,T,k,ds,ro,p,h1,h2,h3⟩:=s
   exact⟨nt,T,k,ds,ro,p,g.phi _ _ h1,h2,h3.mono g.phi⟩
  | inUnw u =>
   obtain⟨nt,T,k,ds,md,h1,h2,h3,h4⟩:=s
   exact⟨nt,T,k,ds,md,h1,h2.mono g.phi,h3,h4.mono g.phi⟩
  | code c=>exact s.elim
  | inBlock id=>exact s.elim
  | inLoop c=>exact s.elim
  | endRF l=>exact s.elim
  | beginRound=>exact s.elim
theorem Stack.grow {X:Ctx} {f0:FuncId} {φ φ':Phi} {h h':Hp}:∀ {fs:List AF} {m m':Nat} {frs:List Frame},GrowB m φ h φ' h'->m'<=m->Stack X f0 φ h m' fs frs->Stack X f0 φ' h' m' fs frs
 | [],m,m',frs,g,hm,s=>s
 | f::fs,m,m',frs,g,hm,s=>by
  obtain⟨fr,frs',lo,hi,h1,h2,h3,h4,h5,h6⟩:=s
  exact⟨fr,frs',lo,hi,h1,h2,h3,h4.grow g (by omega),h5,Stack.grow g (by omega) h6⟩
def opsOf (X:Ctx) (nt:Nat) (ops:Array Oper) (is:List Nat):List COp:=is.map (fun i=>(CS X nt ops).getD i badOp)
def Leaves (P:Program) (fr:Frame) (w:World) (v:Value) (kd:CallKind):Prop :=
 fr.mode=.returning/\fr.defers=[]/\fr.kind=kd/\∃ fn,P.funcs[fr.fn]?=some fn/\(results fn fr.tmps).run P w=.ok v w
theorem Leaves.normal {P:Program} {fr:Frame} {w:World} {v:Value} (h:Leaves P fr w v .normal):fr.leaving P w (.returned v):=h
theorem step_leave_deferred {P:Program} {fr c:Frame} {cs:List Frame} {w:World} {v:Value} (h:Leaves P fr w v .deferred) :
  step P (lone fr (c::cs) w)=.next (lone (match c.mode with
    | .panicking ({ recovered:=true,.. }::older)=>(match older.dropWhile (!·.goexit) with|[]=>{ c with mode:=.returning }|rest=>{ c with mode:=.panicking rest })
    | _=>c) cs w):=by
 obtain⟨hm,hd,hk,fn,hf,hr⟩:=h
 refine step_lone_go ?_
 simp [stepG,unwind,doReturn,hm,hd,hk,hf,hr]
 generalize c.mode=md
 cases md with
 | panicking l =>
  cases l with
  | nil=>rfl
  | cons p l =>
   obtain⟨v,b,g⟩:=p
   cases b with
   | false=>rfl
   | true =>
    dsimp only
    generalize List.dropWhile (fun x=>!x.goexit) l=r
    cases r<;>rfl
 | _=>rfl
def SR (X:Ctx) (f0:FuncId) (cs0:List Frame) (φ:Phi) (h:Hp) (n:Nat) (w:World):St->Machine->Prop
 | .run (.mk fn regs todo defers round) cs,M=>∃ nt T k ds ro frs m,M=lone (mkF (kdOf cs) fn T k ds ro) (frs++cs0) w/\FB X φ All nt fn regs todo defers round T k ds ro/\m<=n/\Stack X f0 φ h m cs frs/\(cs=[]->fn=f0/\round=none)
 | .ops os (.mk fn regs todo defers round) cs,M=>∃ nt T k ds ro frs m ops is,M=lone (mkF (kdOf cs) fn T (.inRegion ops is::k) ds ro) (frs++cs0) w/\FB X φ All nt fn regs todo defers round T k ds ro/\os=opsOf X nt ops is/\(∀ i ∈ is,i < ops.size) /\
   m<=n/\Stack X f0 φ h m cs frs/\(cs=[]->fn=f0/\round=none)
 | .draw ds' (.mk fn regs todo defers round) cs,M=>ds'=[⟨badOp,[]⟩]\/∃ nt T k ds ro frs m ops L A C is α,M=lone (mkF (kdOf cs) fn T (.inRegion ops is::k) ds ro) (frs++cs0) w/\DR X φ h n m nt fn regs todo defers round T k ds ro ops L A C is α true /\
   ds'=dsteps (CS X nt ops) (QS X nt ops) (BS ops) L A/\m<=n/\Stack X f0 φ h m cs frs/\(cs=[]->fn=f0/\round=none)
 | .give v cs,M=>∃ c frs m,VRel φ v c/\m<=n/\Stack X f0 φ h m cs frs /\
   ((∃ fr,M=lone fr (frs++cs0) w/\Leaves X.P fr w c (kdOf cs)/\(cs=[]->fr.fn=f0))\/∃ fr frs',frs=fr::frs'/\unwTop cs=false/\M=lone (fr.finish c) (frs'++cs0) w)
 | .unw u (.mk fn regs todo defers round) cs,M=>∃ nt T k ds md frs m,M=lone (mkU md (kdOf cs) fn T k ds) (frs++cs0) w/\UnRel φ u md/\FB X φ All nt fn regs [] defers none T [] ds none/\m<=n/\Stack X f0 φ h m cs frs/\(cs=[]->fn=f0)
 | .raise v cs,M=>∃ c frs m fr,VRel φ v c/\m<=n/\Stack X f0 φ h m cs frs/\M=lone fr (frs++cs0) w/\fr.leaving X.P w (.panicked [{ v:=c,recovered:=false }])
def Ends (X:Ctx) (fin:AV->Bool) (f0:FuncId) (cs0:List Frame) (M:Machine):Prop :=
 ∃ v c φ h n w fr,fin v=true/\VRel φ v c/\W X φ h n w/\Steps X.P M (lone fr cs0 w)/\fr.fn=f0/\fr.leaving X.P w (.returned c)
def Nx (X:Ctx) (fin:AV->Bool) (f0:FuncId) (cs0:List Frame) (φ0:Phi) (K:Kont) (M:Machine):Prop :=
 Ends X fin f0 cs0 M\/∃ st h n φ w M',φ0.le φ/\K st h n=true/\Steps X.P M M'/\SR X f0 cs0 φ h n w st M'/\W X φ h n w
theorem Nx.of_steps {X:Ctx} {fin:AV->Bool} {f0:FuncId} {cs0:List Frame} {φ0 φ1:Phi} {K:Kont} {M M':Machine} (hle:φ0.le φ1) (s:Steps X.P M M') (x:Nx X fin f0 cs0 φ1 K M'):Nx X fin f0 cs0 φ0 K M:=by
 rcases x with ⟨v,c,φ,h,n,w,fr,h1,h2,h3,h4,h5⟩ |⟨st,h,n,φ,w,M2,h0,h1,h2,h3⟩
 ·exact .inl ⟨v,c,φ,h,n,w,fr,h1,h2,h3,s.trans h4,h5⟩
 ·exact .inr ⟨st,h,n,φ,w,M2,Phi.le_trans hle h0,h1,s.trans h2,h3⟩
noncomputable def env (X:Ctx) (fin:AV->Bool):Env:=⟨fun f=>(X.P.funcs[f]?).bind (compF X.P X.N),compM X.P,fin⟩
structure POk (X:Ctx):Prop where
 ext:ExtOk X
 mixed:X.P.follows .mixedOrders=true
 name:∀ (f:Nat) (F:Func),X.P.funcs[f]?=some F->(F.name == "runtime.NumGoroutine") = false
theorem compF_inv {X:Ctx} {F:Func} {cf:CF} (h:compF X.P X.N F=some cf):∃ body rs,F.body=some body/\compR X.P F.ntmps F.results.toList=some rs/\F.ntmps<=256/\F.params.size+F.nfree<=F.ntmps/\cf=⟨firstPaths (F.params.size+F.nfree),rs,compC X.P X.N F.ntmps body⟩:=by
 unfold compF at h
 split at h
 ·rename_i body rs h1 h2
  split at h
  ·rename_i h3
   simp at h
   exact⟨body,rs,h1,h2,h3.1,h3.2,h.symm⟩
  ·simp at h
 ·simp at h
def setAll:List Path->List AV->Tr->Tr
 | p::ps,v::vs,t=>setAll ps vs (setP p v t)
 | _,_,t=>t
theorem setsK_iff:∀ {ps:List Path} {vs:List AV} {t:Tr} {k:Tr->Bool},setsK ps vs t k=true ↔ ps.length=vs.length/\k (setAll ps vs t)=true
 | [],[],t,k=>by simp [setsK,setAll]
 | [],v::vs,t,k=>by
  constructor
  ·intro h;exact Bool.noConfusion (h:false=true)
  ·intro h;simp at h
 | p::ps,[],t,k=>by
  constructor
  ·intro h;exact Bool.noConfusion (h:false=true)
  ·intro h;simp at h
 | p::ps,v::vs,t,k=>by
  have:setsK (p::ps) (v::vs) t k=setPK p v t fun t=>setsK ps vs t k:=rfl
  rw [this,setPK_eq,setsK_iff]
  simp [setAll]
theorem setAll_first:∀ (m s:Nat) (vs:List AV) (t:Tr) (i:Nat),vs.length=m->s+m<=256->i < 256 ->
  reg (setAll ((List.range' s m).map (pathOf depth)) vs t) i=if s<=i/\i < s+m then vs[i - s]? else reg t i
 | 0,s,vs,t,i,hv,hm,hi=>by
  simp only [List.range'_zero,List.map_nil]
  rw [if_neg (by omega)]
  cases vs<;>rfl
 | m+1,s,vs,t,i,hv,hm,hi=>by
  cases vs with
  | nil=>simp at hv
  | cons v vs =>
   simp only [List.range'_succ,List.map_cons,setAll]
   rw [setAll_first m (s+1) vs _ i (by simpa using hv) (by omega) hi,reg_set _ _ _ _ (by omega) hi]
   by_cases h1:i=s
   ·subst h1
    rw [if_neg (by omega),if_pos rfl,if_pos (by omega)]
    simp
   ·by_cases h2:s+1<=i/\i < s+1+m
    ·rw [if_pos h2,if_pos (by omega)]
     rw [show i - s=(i - (s+1))+1 by omega]
     simp
    ·rw [if_neg h2,if_neg h1,if_neg (by omega)]
section
variable {X:Ctx} {f0:FuncId} {cs0:List Frame} {fin:AV->Bool} {φ:Phi} {h:Hp} {n:Nat} {w:World} {K:Kont}
theorem enter_frame {kd:CallKind} {g:FuncId} {args:List AV} {cargs:Array Value} {f:AF} {cs:List AF} (hP:POk X) (hK:enterK (env X fin) g args f cs h n K=true) (hr:VRels φ args cargs.toList) :
  ∃ t nt body T,K (.run (.mk g t [.code (compC X.P X.N nt body)] [] none) (f::cs)) h n=true/\(callFunc g cargs).run X.P w=.ok (.enter g cargs) w /\
   Frame.enter X.P g cargs kd=mkF kd g T [.code body] [] none/\FB X φ All nt g t [.code (compC X.P X.N nt body)] [] none T [.code body] [] none:=by
 unfold enterK at hK
 cases hE:(env X fin).func g with
 | none=>rw [hE] at hK;exact Bool.noConfusion (hK:false=true)
 | some cf =>
  rw [hE] at hK
  simp only [env] at hE
  cases hF:X.P.funcs[g]? with
  | none=>rw [hF] at hE;simp at hE
  | some F =>
   rw [hF] at hE
   simp only [Option.bind_some] at hE
   obtain⟨body,rs,h1,h2,h3,h4,rfl⟩:=compF_inv hE
   obtain⟨h5,h6⟩:=setsK_iff.1 (hK:setsK _ args .nil _=true)
   have hl:args.length=F.params.size+F.nfree:=by rw [<- h5];simp [firstPaths]
   have hcl:=hr.length
   have hcs:cargs.size=F.params.size+F.nfree:=by rw [<- hl,hcl];simp
   refine⟨_,F.ntmps,body,cargs++Array.replicate (F.ntmps - cargs.size) undef,h6,?_,enter_mkF _ hF h1,⟨⟨F,hF,rfl⟩,h3,?_,?_,?_,rfl,rfl⟩⟩
   ·have hn:=hP.name g F hF
    simp [callFunc,hF,h1]
    simpa using hn
   ·simp;omega
   ·intro i v _ h256 hv
    unfold firstPaths at hv
    rw [List.range_eq_range',setAll_first _ 0 args .nil i hl (by omega) h256,reg_nil] at hv
    split at hv
    ·rename_i h7
     rw [Nat.sub_zero] at hv
     obtain⟨c,h8,h9⟩:=hr.get hv
     refine⟨c,?_,h9⟩
     rw [Array.getElem?_append_left (by omega)]
     simpa using h8
    ·simp at hv
   ·exact .cons (.code body) rfl
theorem st_take {P:Program} {md:FrameMode} {kd:CallKind} (hmd:md≠.run) {fn:FuncId} {T:Array Value} {todo:List Item} {ds:List Deferred} {cs:List Frame} {b:Nat} (hb0:w.heap[b]?=some (.deferred (some []))) :
  step P (lone (mkU md kd fn T todo ({ target:=.collected b,args:=#[] }::ds)) cs w)=.next (lone (mkU md kd fn T todo ds) cs { w with heap:=w.heap.setIfInBounds b (.deferred none) }):=by
 have hg:=getObj_run (P:=P) hb0 (by simp)
 have hs:=setObj_run (P:=P) (.deferred none) hb0 (by simp)
 cases md with
 | run=>exact absurd rfl hmd
 | _=>exact step_lone_go (by simp [stepG,unwind,mkU,Instr.takeDeferred,hg,hs])
theorem marks_cons (d:Nat) (r:List Df) (h:Hp) (k:Hp->Bool):marksK (.mark d::r) h k=blkK h d fun b=>ifDfr b fun o=>guardB o (putK d (.dfr false) h fun h=>marksK r h k):=rfl
theorem marks_steps {kd:CallKind} {fn:FuncId} {T:Array Value} {todo:List Item} {cs:List Frame} {k:Hp->Bool}:∀ {defers:List Df} {ds:List Deferred} {h:Hp} {w:World},DfRel φ defers ds->W X φ h n w->marksK defers h k=true ->
  ∃ h' w',k h'=true/\Steps X.P (lone (mkU .returning kd fn T todo ds) cs w) (lone (mkU .returning kd fn T todo []) cs w')/\W X φ h' n w'/\Grow φ h n φ h' n
 | [],ds,h,w,hd,hw,hk=>by
  rw [show ds=[] from hd]
  exact⟨h,w,hk,.refl _ _,hw,Grow.refl _ _ _⟩
 | .call g args::r,ds,h,w,hd,hw,hk=>Bool.noConfusion (hk:false=true)
 | .mark d::r,ds,h,w,hd,hw,hk=>by
  obtain⟨p,ds',hp,rfl,hd'⟩:=hd
  rw [marks_cons] at hk
  obtain⟨b,hb0,hk1⟩:=blkK_iff.1 hk
  obtain⟨o,rfl,hk2⟩:=ifDfr_iff.1 hk1
  obtain⟨ho,hk3⟩:=guardB_iff.1 hk2
  subst ho
  rw [putK_eq] at hk3
  obtain⟨_,b',ob,hb1,hob,hbr⟩:=hw.dom d p hp
  rw [hb0] at hb1;simp at hb1;subst hb1
  obtain⟨rfl,hH⟩:=hbr
  obtain⟨g1,g2⟩:=hw.turn (b':=.dfr false) (o':=.deferred none) hp hb0 (by simp) (by simp) hH ⟨rfl,hH⟩
  obtain⟨h',w',h1,h2,h3,h4⟩:=marks_steps hd' g1 hk3
  exact⟨h',w',h1,.head (st_take (by simp) hob) h2,h3,g2.trans h4⟩
def resOf (T:Array Value) (r:ResultVar):Sem Value:=match r with
 | .tmp t=>pure (T.getD t undef)
 | .cell a t=>do loadVar t (<- asAddr (T.getD a undef))
theorem result_rel {nt:Nat} {regs:Tr} {T:Array Value} {r:ResultVar} {cr:CR} {k:AV->Bool} (hw:W X φ h n w) (hr:RRel φ regs T) (hnt:nt<=256)
  (hc:(∃ t,r=.tmp t/\t < nt/\cr=.tmp (pathOf depth t))\/(∃ a t s,r=.cell a t/\a < nt/\TI.isAgg X.P t=some true/\TI.size X.P t=some s/\cr=.cellA s (pathOf depth a))\/(∃ a t,r=.cell a t/\a < nt/\TI.isAgg X.P t=some false/\cr=.cellC (pathOf depth a)))
  (hk:resultK cr regs h k=true):∃ v c,k v=true/\VRel φ v c/\(resOf T r).run X.P w=.ok c w:=by
 have at_:∀ {t:Nat} {v:AV},t < nt->getP (pathOf depth t) regs=.leaf v->∃ c,T.getD t undef=c/\VRel φ v c:=by
  intro t v ht hv
  obtain⟨c,h1,h2⟩:=hr t v (by omega) (reg_eq.2 hv)
  exact⟨c,by simp [h1],h2⟩
 rcases hc with ⟨t,rfl,h1,rfl⟩ |⟨a,t,s,rfl,h1,h2,h3,rfl⟩ |⟨a,t,rfl,h1,h2,rfl⟩
 ·obtain⟨v,h2,h3⟩:=leafK_iff.1 (hk:leafK _ k=true)
  obtain⟨c,h4,h5⟩:=at_ h1 h2
  exact⟨v,c,h3,h5,by simp [resOf,h4]⟩
 ·obtain⟨u,h4,h5⟩:=leafK_iff.1 (hk:leafK _ _=true)
  obtain⟨b,q,rfl,h6⟩:=ifPtr_iff.1 h5
  obtain⟨cs,hrd,hl,hk',_⟩:=loadN_val h6
  obtain⟨c,h7,h8⟩:=at_ h1 h4
  simp only [VRel] at h8
  obtain⟨p,hp,rfl⟩:=h8
  obtain⟨ccs,hload,hv,hsc⟩:=hw.loadN hp hrd hl
  obtain⟨i',hi,hs'⟩:∃ i',X.P.info? t=some i'/\i'.size=s:=by simpa [TI.size] using h3
  have hsz:(sizeOf t).run X.P w=.ok s w:=by simp [sizeOf,typeInfo,hi,hs']
  refine⟨_,.agg ccs,hk',by simp only [VRel];exact⟨_,rfl,hv,hsc⟩,?_⟩
  simp only [resOf,h7,asAddr,Sem.run_bind,Sem.run_pure,Result.andThen_ok,loadVar,isAgg_run w h2,if_true,hsz,hload]
 ·obtain⟨u,h4,h5⟩:=leafK_iff.1 (hk:leafK _ _=true)
  obtain⟨b,q,rfl,h6⟩:=ifPtr_iff.1 h5
  obtain⟨cs,hrd,hl,hk',_⟩:=loadN_val h6
  obtain⟨v,hv,hk''⟩:=one_iff.1 hk'
  obtain⟨c,h7,h8⟩:=at_ h1 h4
  simp only [VRel] at h8
  obtain⟨p,hp,rfl⟩:=h8
  obtain⟨cc,e,fr,g1,g2,g3,g4⟩:=hw.read hp hrd
  have hv0:cs[q]?=some v:=by
   have:((cs.drop q).take 1)[0]?=some v:=by rw [hv];rfl
   simpa using this
  obtain⟨_,y,hy,hvy⟩:=g2 q v hv0
  have hload:=load_run (P:=X.P) (q:=p.off+q) g1 hy
  refine⟨v,y,hk'',hvy,?_⟩
  simp only [resOf,h7,asAddr,Sem.run_bind,Sem.run_pure,Result.andThen_ok,loadVar,isAgg_run w h2,Bool.false_eq_true,if_false,hload]
theorem results_cons (r:CR) (rs:List CR) (t:Tr) (h:Hp) (k:List AV->Bool):resultsK (r::rs) t h k=resultK r t h fun v=>resultsK rs t h fun vs=>k (v::vs):=rfl
theorem results_rel {nt:Nat} {regs:Tr} {T:Array Value} (hw:W X φ h n w) (hr:RRel φ regs T) (hnt:nt<=256):∀ {rs:List ResultVar} {crs:List CR} {k:List AV->Bool},compR X.P nt rs=some crs->resultsK crs regs h k=true ->
  ∃ vs cs,k vs=true/\VRels φ vs cs/\(rs.mapM (resOf T)).run X.P w=.ok cs w
 | [],crs,k,hc,hk=>by
  simp [compR] at hc;subst hc
  exact⟨[],[],hk,by simp [VRels],by simp⟩
 | r::rs,crs,k,hc,hk=>by
  simp only [compR] at hc
  split at hc
  ·simp at hc
  ·rename_i out hout
   have key:∃ cr,crs=cr::out/\((∃ t,r=.tmp t/\t < nt/\cr=.tmp (pathOf depth t))\/(∃ a t s,r=.cell a t/\a < nt/\TI.isAgg X.P t=some true/\TI.size X.P t=some s/\cr=.cellA s (pathOf depth a))\/(∃ a t,r=.cell a t/\a < nt/\TI.isAgg X.P t=some false/\cr=.cellC (pathOf depth a))):=by
    cases r with
    | tmp t =>
     simp only at hc
     split at hc
     ·rename_i p hp
      obtain⟨h1,rfl⟩:=tpath_some hp
      simp at hc
      exact⟨_,hc.symm,.inl ⟨t,rfl,h1,rfl⟩⟩
     ·simp at hc
    | cell a t =>
     simp only at hc
     split at hc
     ·rename_i p s hp hg hs
      obtain⟨h1,rfl⟩:=tpath_some hp
      simp at hc
      exact⟨_,hc.symm,.inr (.inl ⟨a,t,s,rfl,h1,hg,hs,rfl⟩)⟩
     ·rename_i p hp hg
      obtain⟨h1,rfl⟩:=tpath_some hp
      simp at hc
      exact⟨_,hc.symm,.inr (.inr ⟨a,t,rfl,h1,hg,rfl⟩)⟩
     ·simp at hc
   obtain⟨cr,rfl,hcr⟩:=key
   rw [results_cons] at hk
   obtain⟨v,c,h1,h2,h3⟩:=result_rel hw hr hnt hcr hk
   obtain⟨vs,cs,h4,h5,h6⟩:=results_rel hw hr hnt hout h1
   refine⟨v::vs,c::cs,h4,.cons h2 h5,?_⟩
   rw [List.mapM_cons,Sem.run_bind,h3,Result.andThen_ok,Sem.run_bind,h6]
   simp
theorem packK_rel {vs:List AV} {cs:List Value} {k:AV->Bool} (hr:VRels φ vs cs) (hk:packK vs k=true):∃ v,k v=true/\VRel φ v (if h:cs.toArray.size=1 then cs.toArray[0] else .tuple cs.toArray):=by
 cases vs with
 | nil =>
  rw [VRels.nil_iff.1 hr]
  exact⟨_,hk,by simp only [VRel];exact⟨#[],by simp,by simp [VRels]⟩⟩
 | cons v vs =>
  obtain⟨c,r,rfl,h1,h2⟩:=VRels.cons_iff.1 hr
  cases vs with
  | nil =>
   rw [VRels.nil_iff.1 h2]
   exact⟨v,hk,by simpa using h1⟩
  | cons u vs =>
   refine⟨_,hk,?_⟩
   have hl:=h2.length
   have hne:¬ (c::r).toArray.size=1:=by
    intro e
    simp at e
    subst e
    simp at hl
   rw [dif_neg hne]
   simp only [VRel]
   exact⟨_,rfl,by simpa using VRels.cons h1 h2⟩
end
end Go.Ev
