/- Contracts: internal/strconv.formatBase10. -/
import Derived.Test.YtognadjclbihgaaGreatDoorE6
import Derived.Test.YtognadjclbihgaaGreatDoorFE1
set_option linter.all false
namespace Go.Ev
set_option maxRecDepth 100000
set_option maxHeartbeats 8000000
section
variable {E:Env} {Q:Post} {fn:Fr} {md:Md} {R:List (Path × AV)} {todo:List AItem} {cs:List AF} {h h' h0:Hp} {n n' n0:Nat} {os:List COp} {k:IntKind} {p:Path} {g:Option (Path × Bool)} {X Y:CX} {a o:Nat} {v:AV} {y:Int}
theorem SO.store2 {us:List AV} {e:TypeId} {m:Nat} (hg:wantB R g=true) (h1:lookX R X=some (.ptr a o)) (h2:lookX R Y=some v) (hb0:hb h a=some (.cell us e false)) (hacc:∀ b,b≠a->hb h b=hb h0 b) (hm:us.length=m) (hv:v.cells=[v]) (hv':∀ us,v≠.tup us) (hl:o < m)
  (hw:∀ h1 us',hb h1 a=some (.cell us' e false)->us'=splice o [v] us->us'.length=m->(∀ b,b≠a->hb h1 b=hb h0 b)->SO E Q fn md R os todo cs h1 n):SO E Q fn md R (⟨none,g,[X,Y],.store 1⟩::os) todo cs h n :=
 SO.store1 hg h1 h2 hb0 hv hv' (by omega) fun h1 hc hk=>hw h1 _ hc rfl (by simp [splice];omega) fun b hb=>by rw [hk b hb,hacc b hb]
end
theorem format259 {h:Hp} {n a o L c:Nat} {vs:List AV} {e:TypeId} (u:Nat) (hb0:hb h a=some (.cell vs e false)) (hl:o+L<=vs.length) (hu:u < 10 ^ L) (hL:L<=20) (hu':u<=18446744073709551615) :
  Fn E 292 [.slc a o L c,.int .u64 (u:Int)] h n fun r h' n'=>(∃ us,hb h' a=some (.cell us e false)/\Buf vs us o 0 L ((lowD u L).flatMap byteC))/\(∀ b,b≠a->hb h' b=hb h b)/\n'=n:=by
 refine Fn.of code292 (by decide) rfl fun Q cs hq=>?_
 show SW E Q 292 [(r0,.slc a o L c),(r1,.int .u64 (u:Int))] _ _ _ _
 have t64:topN .u64=18446744073709551615:=rfl
 have t32:topN .u32=4294967295:=rfl
 have t8:topN .u8=255:=rfl
 have t1:∀ (i j w:Nat) (h1:Hp) (us:List AV),i+j=L->i < 2->w=u / 10 ^ j->w < 10 ^ i->hb h1 a=some (.cell us e false)->(∀ b,b≠a->hb h1 b=hb h b)->Buf vs us o i L ((lowD u j).flatMap byteC) ->
   ∀ R,look R r0=some (.slc a o L c)->look R r12=some (.int .u32 (w:Int))->look R r4=some (.int .i64 (i:Int))->SW E Q 292 R [.code (.seq (.reg c292x26) (.cond (.r r161) (.reg c292x27) .skip))] cs h1 n:=by
  intro i j w h1 us hij h8 hw hwi hc hacc hB R q0 q12 q4
  have hul:=hB.1
  refine SW.sub (R':=[(r0,.slc a o L c),(r12,.int .u32 (w:Int)),(r4,.int .i64 (i:Int))]) (by simp [q0,q12,q4]) ?_
  rcases (by omega:i=0\/i=1) with rfl|rfl
  ·repeat' first|refine SW.a rfl ?_|refine SW.reg ?_|refine SO.nil ?_|refine SO.a rfl ?_|refine SO.cF rfl (by omega) ?_|fail
   have hj:j=L:=by omega
   subst hj
   exact SW.fin code292 (hq _ _ _ ⟨⟨us,hc,hB⟩,hacc,rfl⟩)
  ·have hw10:w < 10:=by simpa using hwi
   repeat' first|refine SO.addN (a:=48) w rfl rfl rfl rfl (by omega) ?_|refine SO.convN rfl rfl rfl (by omega) ?_|refine SO.idxW 0 rfl rfl rfl rfl (by omega) (by omega) ?_|refine SO.store2 (m:=vs.length) rfl rfl rfl (by assumption) (by assumption) (by assumption) rfl (by simp) (by omega) (fun h9 us9 hc9 he9 hm9 hacc9=>?_)|refine SW.a rfl ?_|refine SW.reg ?_|refine SO.nil ?_|refine SO.a rfl ?_|refine SO.cT rfl (by omega) ?_|fail
   have p1:=Buf.wr (i:=0) (.int .u8 ((48+w:Nat):Int)) hB (by omega)
   have hd:(AV.int .u8 ((48+w:Nat):Int))=.int .u8 ((UInt8.ofNat (48+u / 10 ^ j % 10)).toNat:Int):=by
    rw [<- hw,Nat.mod_eq_of_lt hw10]
    have:=digit_eq w hw10
    rw [<- this];rfl
   have hj:L=j+1:=by omega
   subst hj
   simp only [Nat.zero_mul] at he9
   subst he9
   rw [hd] at p1 hc9
   exact SW.fin code292 (hq _ _ _ ⟨⟨_,hc9,p1⟩,hacc9,rfl⟩)
 have t2:∀ (i j w:Nat) (h1:Hp) (us:List AV),i+j=L->i < 4->w=u / 10 ^ j->w < 10 ^ i->hb h1 a=some (.cell us e false)->(∀ b,b≠a->hb h1 b=hb h b)->Buf vs us o i L ((lowD u j).flatMap byteC) ->
   ∀ R,look R r0=some (.slc a o L c)->look R r12=some (.int .u32 (w:Int))->look R r4=some (.int .i64 (i:Int))->SW E Q 292 R [.code (.seq (.seq (.reg c292x21) (.cond (.r r139) (.seq (.reg c292x22) (.seq (.reg c292x23) (.seq (.draw c292x24) (.reg c292x25)))) .skip)) (.seq (.reg c292x26) (.cond (.r r161) (.reg c292x27) .skip)))] cs h1 n:=by
  intro i j w h1 us hij h8 hw hwi hc hacc hB R q0 q12 q4
  have hul:=hB.1
  refine SW.sub (R':=[(r0,.slc a o L c),(r12,.int .u32 (w:Int)),(r4,.int .i64 (i:Int))]) (by simp [q0,q12,q4]) ?_
  by_cases h2:i < 2
  ·refine SW.seq ?_
   refine SW.seq ?_
   refine SW.reg ?_
   refine SO.mov rfl rfl rfl ?_
   refine SO.geqF rfl rfl rfl rfl (by omega) ?_
   refine SO.nil ?_
   refine SW.condF rfl ?_
   refine SW.skip ?_
   exact t1 i j w h1 us hij h2 hw hwi hc hacc hB _ rfl rfl rfl
  ·obtain⟨i,rfl⟩:∃ i0,i=i0+2:=⟨i - 2,by omega⟩
   have hw4:w < 10000:=Nat.lt_of_lt_of_le hwi (Nat.le_trans (Nat.pow_le_pow_right (by decide) (by omega:i+2<=4)) (by decide))
   refine SW.seq ?_
   refine SW.seq ?_
   refine SW.reg ?_
   refine SO.mov rfl rfl rfl ?_
   refine SO.geqT rfl rfl rfl rfl (by omega) ?_
   refine SO.nil ?_
   refine SW.condT rfl ?_
   refine SW.seq ?_
   refine SW.reg ?_
   refine SO.mov rfl rfl rfl ?_
   refine SO.remK 100 rfl rfl rfl rfl (by decide) ?_
   refine SO.mulN 2 rfl rfl rfl rfl (by omega) ?_
   refine SO.mov rfl rfl rfl ?_
   refine SO.nil ?_
   refine SW.seq ?_
   refine SW.reg ?_
   refine SO.mov rfl rfl rfl ?_
   refine SO.quoK 100 rfl rfl rfl rfl (by decide) (by omega) ?_
   refine SO.mov rfl rfl rfl ?_
   refine SO.nil ?_
   refine SW.seq ?_
   refine SW.drawO rfl ?_
   simp only [List.map_cons,List.map_nil]
   repeat' (first|refine SO.mov rfl rfl rfl ?_|refine SO.sub rfl rfl rfl rfl (by omega) ?_|refine SO.addN 1 rfl rfl rfl rfl (by omega) ?_|refine SO.idxStrK (bs:=tabS) rfl rfl rfl rfl (by rw [tabS_len];omega) ?_|refine SO.idxW (i+1) rfl rfl rfl rfl (by omega) (by omega) ?_|refine SO.idxW i rfl rfl rfl rfl (by omega) (by omega) ?_|refine SO.store2 (m:=vs.length) rfl rfl rfl (by assumption) (by assumption) (by assumption) rfl (by simp) (by omega) (fun h9 us9 hc9 he9 hm9 hacc9=>?_))
   refine SO.nilD ?_
   refine SW.reg ?_
   refine SO.mov rfl rfl rfl ?_
   refine SO.sub rfl rfl rfl rfl (by omega) ?_
   refine SO.mov rfl rfl rfl ?_
   refine SO.nil ?_
   have ed:∀ q,u / 10 ^ (j+q)=w / 10 ^ q:=fun q=>by rw [Nat.pow_add,<- Nat.div_div_eq_div_mul,<- hw]
   have d1:u / 10 ^ (j+1)=w / 10:=ed 1
   have d2:u / 10 ^ (j+2)=w / 100:=ed 2
   have p1:=two_digits (i:=i) (w:=w % 100) hB (by omega) hl (by omega) (by omega) (by omega)
   subst_vars
   simp only [Nat.mul_one] at hc9
   refine t1 i (j+2) _ h9 _ (by omega) (by omega) d2.symm ?_ hc9 hacc9 p1 _ rfl rfl ?_
   ·rw [Nat.div_lt_iff_lt_mul (by decide)]
    have:10 ^ (i+2)=10 ^ i*100:=by rw [Nat.pow_add]
    omega
   ·show some (AV.int .i64 (((i+2:Nat):Int) - 2))=some (.int .i64 (i:Int))
    congr 2
    omega
 have tail:∀ (i j w:Nat) (h1:Hp) (us:List AV),i+j=L->i < 8->w=u / 10 ^ j->w < 10 ^ i->hb h1 a=some (.cell us e false)->(∀ b,b≠a->hb h1 b=hb h b)->Buf vs us o i L ((lowD u j).flatMap byteC) ->
   ∀ R,look R r0=some (.slc a o L c)->look R r1=some (.int .u64 (w:Int))->look R r4=some (.int .i64 (i:Int))->SW E Q 292 R [.code (.seq (.reg c292x13) (.seq (.seq (.reg c292x14) (.cond (.r r99) (.seq (.reg c292x15) (.seq (.reg c292x16) (.seq (.reg c292x17) (.seq (.draw c292x18) (.seq (.draw c292x19) (.reg c292x20)))))) .skip)) (.seq (.seq (.reg c292x21) (.cond (.r r139) (.seq (.reg c292x22) (.seq (.reg c292x23) (.seq (.draw c292x24) (.reg c292x25)))) .skip)) (.seq (.reg c292x26) (.cond (.r r161) (.reg c292x27) .skip)))))] cs h1 n:=by
  intro i j w h1 us hij h8 hw hwi hc hacc hB R q0 q1 q4
  have hul:=hB.1
  have hw8:w < 10000000:=Nat.lt_of_lt_of_le hwi (Nat.le_trans (Nat.pow_le_pow_right (by decide) (by omega:i<=7)) (by decide))
  refine SW.sub (R':=[(r0,.slc a o L c),(r1,.int .u64 (w:Int)),(r4,.int .i64 (i:Int))]) (by simp [q0,q1,q4]) ?_
  refine SW.seq ?_
  refine SW.reg ?_
  refine SO.mov rfl rfl rfl ?_
  refine SO.convN rfl rfl rfl (by omega) ?_
  refine SO.mov rfl rfl rfl ?_
  refine SO.nil ?_
  refine SW.seq ?_
  refine SW.seq ?_
  refine SW.reg ?_
  refine SO.mov rfl rfl rfl ?_
  by_cases h4:i < 4
  ·refine SO.geqF rfl rfl rfl rfl (by omega) ?_
   refine SO.nil ?_
   refine SW.condF rfl ?_
   refine SW.skip ?_
   exact t2 i j w h1 us hij h4 hw hwi hc hacc hB _ rfl rfl rfl
  ·obtain⟨i,rfl⟩:∃ i0,i=i0+4:=⟨i - 4,by omega⟩
   refine SO.geqT rfl rfl rfl rfl (by omega) ?_
   refine SO.nil ?_
   refine SW.condT rfl ?_
   refine SW.seq ?_
   refine SW.reg ?_
   refine SO.mov rfl rfl rfl ?_
   refine SO.remK 10000 rfl rfl rfl rfl (by decide) ?_
   refine SO.mov rfl rfl rfl ?_
   refine SO.nil ?_
   refine SW.seq ?_
   refine SW.reg ?_
   refine SO.mov rfl rfl rfl ?_
   refine SO.quoK 10000 rfl rfl rfl rfl (by decide) (by omega) ?_
   refine SO.mov rfl rfl rfl ?_
   refine SO.nil ?_
   refine SW.seq ?_
   refine SW.reg ?_
   repeat' (first|refine SO.mov rfl rfl rfl ?_|refine SO.remK 100 rfl rfl rfl rfl (by decide) ?_|refine SO.quoK 100 rfl rfl rfl rfl (by decide) (by omega) ?_|refine SO.mulN 2 rfl rfl rfl rfl (by omega) ?_)
   refine SO.nil ?_
   refine SW.seq ?_
   refine SW.drawO rfl ?_
   simp only [List.map_cons,List.map_nil]
   repeat' (first|refine SO.mov rfl rfl rfl ?_|refine SO.sub rfl rfl rfl rfl (by omega) ?_|refine SO.addN 1 rfl rfl rfl rfl (by omega) ?_|refine SO.idxStrK (bs:=tabS) rfl rfl rfl rfl (by rw [tabS_len];omega) ?_|refine SO.idxW (i+3) rfl rfl rfl rfl (by omega) (by omega) ?_|refine SO.idxW (i+2) rfl rfl rfl rfl (by omega) (by omega) ?_|refine SO.idxW (i+1) rfl rfl rfl rfl (by omega) (by omega) ?_|refine SO.idxW i rfl rfl rfl rfl (by omega) (by omega) ?_|refine SO.store2 (m:=vs.length) rfl rfl rfl (by assumption) (by assumption) (by assumption) rfl (by simp) (by omega) (fun h9 us9 hc9 he9 hm9 hacc9=>?_))
   refine SO.nilD ?_
   refine SW.seq ?_
   refine SW.drawO rfl ?_
   simp only [List.map_cons,List.map_nil]
   repeat' (first|refine SO.mov rfl rfl rfl ?_|refine SO.sub rfl rfl rfl rfl (by omega) ?_|refine SO.addN 1 rfl rfl rfl rfl (by omega) ?_|refine SO.idxStrK (bs:=tabS) rfl rfl rfl rfl (by rw [tabS_len];omega) ?_|refine SO.idxW (i+3) rfl rfl rfl rfl (by omega) (by omega) ?_|refine SO.idxW (i+2) rfl rfl rfl rfl (by omega) (by omega) ?_|refine SO.idxW (i+1) rfl rfl rfl rfl (by omega) (by omega) ?_|refine SO.idxW i rfl rfl rfl rfl (by omega) (by omega) ?_|refine SO.store2 (m:=vs.length) rfl rfl rfl (by assumption) (by assumption) (by assumption) rfl (by simp) (by omega) (fun h9 us9 hc9 he9 hm9 hacc9=>?_))
   refine SO.nilD ?_
   refine SW.reg ?_
   refine SO.mov rfl rfl rfl ?_
   refine SO.sub rfl rfl rfl rfl (by omega) ?_
   refine SO.mov rfl rfl rfl ?_
   refine SO.nil ?_
   have ed:∀ q,u / 10 ^ (j+q)=w / 10 ^ q:=fun q=>by rw [Nat.pow_add,<- Nat.div_div_eq_div_mul,<- hw]
   have d1:u / 10 ^ (j+1)=w / 10:=ed 1
   have d2:u / 10 ^ (j+2)=w / 100:=ed 2
   have d3:u / 10 ^ (j+2+1)=w / 1000:=ed 3
   have d4:u / 10 ^ (j+4)=w / 10000:=ed 4
   have p1:=two_digits (i:=i+2) (w:=w % 10000 % 100) hB (by omega) hl (by omega) (by omega) (by omega)
   have p2:=two_digits (i:=i) (w:=w % 10000 / 100) p1 (by omega) hl (by omega) (by omega) (by omega)
   subst_vars
   simp only [Nat.mul_one] at hc9
   refine t2 i (j+4) _ h9 _ (by omega) (by omega) d4.symm ?_ hc9 hacc9 p2 _ rfl rfl ?_
   ·rw [Nat.div_lt_iff_lt_mul (by decide)]
    have:10 ^ (i+4)=10 ^ i*10000:=by rw [Nat.pow_add]
    omega
   ·show some (AV.int .i64 (((i+4:Nat):Int) - 4))=some (.int .i64 (i:Int))
    congr 2
    omega
 have loop:∀ (k i j w:Nat) (h1:Hp) (us:List AV),i<=k->i+j=L->w=u / 10 ^ j->w < 10 ^ i->hb h1 a=some (.cell us e false)->(∀ b,b≠a->hb h1 b=hb h b)->Buf vs us o i L ((lowD u j).flatMap byteC) ->
   ∀ R,look R r0=some (.slc a o L c)->look R r1=some (.int .u64 (w:Int))->look R r4=some (.int .i64 (i:Int))->SW E Q 292 R [.code c292x12,.inLoop c292x12,.inBlock 0,.code (.seq (.reg c292x13) (.seq (.seq (.reg c292x14) (.cond (.r r99) (.seq (.reg c292x15) (.seq (.reg c292x16) (.seq (.reg c292x17) (.seq (.draw c292x18) (.seq (.draw c292x19) (.reg c292x20)))))) .skip)) (.seq (.seq (.reg c292x21) (.cond (.r r139) (.seq (.reg c292x22) (.seq (.reg c292x23) (.seq (.draw c292x24) (.reg c292x25)))) .skip)) (.seq (.reg c292x26) (.cond (.r r161) (.reg c292x27) .skip)))))] cs h1 n:=by
  have short:∀ (i j w:Nat) (h1:Hp) (us:List AV),i < 8->i+j=L->w=u / 10 ^ j->w < 10 ^ i->hb h1 a=some (.cell us e false)->(∀ b,b≠a->hb h1 b=hb h b)->Buf vs us o i L ((lowD u j).flatMap byteC) ->
   ∀ R,look R r0=some (.slc a o L c)->look R r1=some (.int .u64 (w:Int))->look R r4=some (.int .i64 (i:Int))->SW E Q 292 R [.code c292x12,.inLoop c292x12,.inBlock 0,.code (.seq (.reg c292x13) (.seq (.seq (.reg c292x14) (.cond (.r r99) (.seq (.reg c292x15) (.seq (.reg c292x16) (.seq (.reg c292x17) (.seq (.draw c292x18) (.seq (.draw c292x19) (.reg c292x20)))))) .skip)) (.seq (.seq (.reg c292x21) (.cond (.r r139) (.seq (.reg c292x22) (.seq (.reg c292x23) (.seq (.draw c292x24) (.reg c292x25)))) .skip)) (.seq (.reg c292x26) (.cond (.r r161) (.reg c292x27) .skip)))))] cs h1 n:=by
   intro i j w h1 us h8 hij hw hwi hc hacc hB R q0 q1 q4
   refine SW.sub (R':=[(r0,.slc a o L c),(r1,.int .u64 (w:Int)),(r4,.int .i64 (i:Int))]) (by simp [q0,q1,q4]) ?_
   refine SW.seq ?_
   refine SW.seq ?_
   refine SW.reg ?_
   refine SO.mov rfl rfl rfl ?_
   refine SO.geqF rfl rfl rfl rfl (by omega) ?_
   refine SO.nil ?_
   refine SW.condF rfl ?_
   refine SW.exit rfl ?_
   exact tail i j w h1 us hij h8 hw hwi hc hacc hB _ rfl rfl rfl
  intro k
  induction k with
  | zero =>
   intro i j w h1 us hik
   exact short i j w h1 us (by omega)
  | succ k ih =>
   intro i j w h1 us hik hij hw hwi hc hacc hB R q0 q1 q4
   by_cases h8:i < 8
   ·exact short i j w h1 us h8 hij hw hwi hc hacc hB R q0 q1 q4
   obtain⟨i,rfl⟩:∃ i0,i=i0+8:=⟨i - 8,by omega⟩
   have hwu:w<=18446744073709551615:=by rw [hw];exact Nat.le_trans (Nat.div_le_self _ _) hu'
   have hul:=hB.1
   refine SW.sub (R':=[(r0,.slc a o L c),(r1,.int .u64 (w:Int)),(r4,.int .i64 ((i+8:Nat):Int))]) (by simp [q0,q1,q4]) ?_
   repeat' first|refine SO.remK 100000000 rfl rfl rfl rfl (by decide) ?_|refine SO.quoK 100000000 rfl rfl rfl rfl (by decide) (by omega) ?_|refine SO.remK 10000 rfl rfl rfl rfl (by decide) ?_|refine SO.quoK 10000 rfl rfl rfl rfl (by decide) (by omega) ?_|refine SO.remK 100 rfl rfl rfl rfl (by decide) ?_|refine SO.quoK 100 rfl rfl rfl rfl (by decide) (by omega) ?_|refine SO.mulN 2 rfl rfl rfl rfl (by omega) ?_|refine SO.convN rfl rfl rfl (by omega) ?_|refine SW.a rfl ?_|refine SW.reg ?_|refine SO.nil ?_|refine SO.a rfl ?_|refine SO.cT rfl (by omega) ?_|fail
   generalize hs:w % 100000000=s at *
   have hs8:s < 100000000:=by omega
   repeat' first|refine SO.addN 1 rfl rfl rfl rfl (by omega) ?_|refine SO.idxStrK (bs:=tabS) rfl rfl rfl rfl (by rw [tabS_len];omega) ?_|refine SO.idxW (i+7) rfl rfl rfl rfl (by omega) (by omega) ?_|refine SO.idxW (i+6) rfl rfl rfl rfl (by omega) (by omega) ?_|refine SO.idxW (i+5) rfl rfl rfl rfl (by omega) (by omega) ?_|refine SO.idxW (i+4) rfl rfl rfl rfl (by omega) (by omega) ?_|refine SO.idxW (i+3) rfl rfl rfl rfl (by omega) (by omega) ?_|refine SO.idxW (i+2) rfl rfl rfl rfl (by omega) (by omega) ?_|refine SO.idxW (i+1) rfl rfl rfl rfl (by omega) (by omega) ?_|refine SO.idxW i rfl rfl rfl rfl (by omega) (by omega) ?_|refine SO.store2 (m:=vs.length) rfl rfl rfl (by assumption) (by assumption) (by assumption) rfl (by simp) (by omega) (fun h9 us9 hc9 he9 hm9 hacc9=>?_)|refine SW.a rfl ?_|refine SW.reg ?_|refine SO.nil ?_|refine SO.nilD ?_|(refine SW.drawO rfl ?_;simp only [List.map_cons,List.map_nil])|refine SO.a rfl ?_|refine SO.sub rfl rfl rfl rfl (by omega) ?_|fail
   refine SW.again ?_
   have ed:∀ q,u / 10 ^ (j+q)=w / 10 ^ q:=fun q=>by rw [Nat.pow_add,<- Nat.div_div_eq_div_mul,<- hw]
   have d1:u / 10 ^ (j+1)=w / 10:=ed 1
   have d2:u / 10 ^ (j+2)=w / 100:=ed 2
   have d3:u / 10 ^ (j+2+1)=w / 1000:=ed 3
   have d4:u / 10 ^ (j+2+2)=w / 10000:=ed 4
   have d5:u / 10 ^ (j+2+2+1)=w / 100000:=ed 5
   have d6:u / 10 ^ (j+2+2+2)=w / 1000000:=ed 6
   have d7:u / 10 ^ (j+2+2+2+1)=w / 10000000:=ed 7
   have d8:u / 10 ^ (j+8)=w / 100000000:=ed 8
   have p1:=two_digits (i:=i+6) (w:=s % 10000 % 100) hB (by omega) hl (by omega) (by omega) (by omega)
   have p2:=two_digits (i:=i+4) (w:=s % 10000 / 100) p1 (by omega) hl (by omega) (by omega) (by omega)
   have p3:=two_digits (i:=i+2) (w:=s / 10000 % 100) p2 (by omega) hl (by omega) (by omega) (by omega)
   have p4:=two_digits (i:=i) (w:=s / 10000 / 100) p3 (by omega) hl (by omega) (by omega) (by omega)
   subst_vars
   simp only [Nat.mul_one] at hc9
   refine ih i (j+8) _ h9 _ (by omega) (by omega) d8.symm ?_ hc9 hacc9 p4 _ rfl rfl ?_
   ·rw [Nat.div_lt_iff_lt_mul (by decide)]
    have:10 ^ (i+8)=10 ^ i*100000000:=by rw [Nat.pow_add]
    omega
   ·show some (AV.int .i64 (((i+8:Nat):Int) - 8))=some (.int .i64 (i:Int))
    congr 2
    omega
 have hlenv:Sl (hput a (.cell vs e false) h) (a+1) 1 (.slc a o L L) L ((vs.drop o).take (L*1)):=⟨by rw [List.length_take,List.length_drop];omega,.inr ⟨a,o,L,vs,.inl ⟨rfl,Nat.le_refl _⟩,⟨by omega,.inl ⟨_,_,hb_self _ _ _⟩⟩,by omega,rfl⟩⟩
 refine SW.seq ?_
 refine SW.reg ?_
 refine SO.mov rfl rfl rfl ?_
 refine SO.val rfl rfl (one1 rfl) (fun K=>rfl) (v:=.int .i64 (L:Int)) ?_
 refine SO.mov rfl rfl rfl ?_
 refine SO.nil ?_
 refine SW.seq ?_
 refine SW.block ?_
 refine SW.loop ?_
 exact loop L L 0 u h vs (Nat.le_refl _) (by omega) (by simp) hu hb0 (fun _ _=>rfl) ⟨rfl,rfl,by simp [lowD]⟩ _ rfl rfl rfl
set_option maxRecDepth 100000
set_option maxHeartbeats 4000000
section
variable {E:Env} {Q:Post} {fn:Fr} {md:Md} {R:List (Path × AV)} {todo:List AItem} {cs:List AF} {h h' h0:Hp} {n n' n0:Nat} {os:List COp} {k k':IntKind} {p:Path} {g:Option (Path × Bool)} {X Y Z:CX} {a o:Nat} {v:AV} {x y:Int}
theorem SO.sliceArrTT {m esz:Nat} (i l:Nat) (hg:wantB R g=true) (hd:Nat.beq p.len depth=true) (h1:lookX R X=some (.ptr a o)) (h2:lookX R Y=some (.int k y)) (hy:y=((i+l:Nat):Int)) (h3:lookX R Z=some (.int k' x)) (hx:x=(i:Int)) (hj:i+l<=m) (him:i < m)
  (hw:SO E Q fn md ((p,.slc a (o+i*esz) l (m - i))::R) os todo cs h n):SO E Q fn md R (⟨some p,g,[X,Y,Z],.sliceArr m esz true true false⟩::os) todo cs h n:=by
 subst hy hx
 refine SO.val hg hd (three h1 h2 h3) (fun K=>?_) hw
 show bounds3 true true false [.int k ((i+l:Nat):Int),.int k' (i:Int)] m m (fun lo hi m=>movedK o lo m esz fun o'=>force (Nat.sub hi lo) fun l'=>force (Nat.sub m lo) fun c'=>K.v (.slc a o' l' c') h n)=_
 unfold bounds3
 rw [boundK_false,boundK_true hj,boundK_true (Nat.le_add_right i l)]
 show movedK o i m esz _=_
 rw [movedK_eq,force_eq,force_eq,if_neg (by omega),show Nat.sub (i+l) i=l from Nat.add_sub_cancel_left i l]
 rfl
end
theorem lowD_snoc (u:Nat):∀ j,lowD u (j+1)=lowD (u / 10) j++[UInt8.ofNat (48+u % 10)]
 | 0=>by simp [lowD]
 | j+1=>by
  have ih:=lowD_snoc u j
  have e:u / 10 / 10 ^ j=u / 10 ^ (j+1):=by rw [Nat.div_div_eq_div_mul,Nat.pow_succ,Nat.mul_comm]
  show UInt8.ofNat (48+u / 10 ^ (j+1) % 10)::lowD u (j+1)=(UInt8.ofNat (48+u / 10 / 10 ^ j % 10)::lowD (u / 10) j)++_
  rw [ih,e];rfl
theorem decN_lowD:∀ (d u:Nat),(10 ^ d<=u\/d=0)->u < 10 ^ (d+1)->decN u=lowD u (d+1)
 | 0,u,_,h=>by
  have hu:u < 10:=by simpa using h
  rw [decN,if_pos hu]
  simp [lowD,Nat.mod_eq_of_lt hu]
 | d+1,u,h0,h=>by
  have h1:10 ^ (d+1)<=u:=by rcases h0 with h0|h0;exact h0;omega
  have h2:10<=10 ^ (d+1):=Nat.le_trans (by decide:10<=10 ^ 1) (Nat.pow_le_pow_right (by decide) (by omega))
  have h3:10 ^ d<=u / 10:=(Nat.le_div_iff_mul_le (by decide)).2 (by rw [<- Nat.pow_succ];exact h1)
  have h4:u / 10 < 10 ^ (d+1):=(Nat.div_lt_iff_lt_mul (by decide)).2 (by rw [<- Nat.pow_succ];exact h)
  rw [decN,if_neg (by omega),decN_lowD d (u / 10) (.inl h3) h4,lowD_snoc u (d+1)]
theorem decN_digits {d u:Nat} (h1:1<=d) (h2:10 ^ (d - 1)<=u) (h3:u < 10 ^ d):decN u=lowD u d:=by
 obtain⟨e,rfl⟩:∃ e,d=e+1:=⟨d - 1,by omega⟩
 exact decN_lowD e u (.inl (by simpa using h2)) h3
theorem formatInt172 {h:Hp} {n:Nat} (hp:Pow h n) (m:Nat) (hm:m<=9000000000000000000):Fn E 204 [.int .i64 (m:Int),.int .i64 10] h n fun r h' n'=>r=strOf (decN m)/\Gr h n h' n':=by
 refine Fn.of code204 (by decide) rfl fun Q cs hq=>?_
 show SW E Q 204 [(r0,.int .i64 (m:Int)),(r1,.int .i64 10)] _ _ _ _
 have t64:topN .u64=18446744073709551615:=rfl
 by_cases hlt:m < 100
 ·repeat' first|refine SW.a rfl ?_|refine SW.reg ?_|refine SO.nil ?_|refine SO.a rfl ?_|refine SO.cT rfl (by omega) ?_|fail
  refine SO.callG rfl rfl rfl (small257 m hlt) ?_
  rintro _ h1 n1 ⟨rfl,rfl,rfl⟩
  repeat' first|refine SO.nil ?_|refine SO.a rfl ?_
  exact SW.ret code204 ⟨_,rfl,hq _ _ _ ⟨rfl,Gr.refl _ _⟩⟩
 ·repeat' first|refine SO.alloc rfl rfl (fun h1 hc1 hE1=>?_)|refine SO.convN rfl rfl rfl (by omega) ?_|refine SW.a rfl ?_|refine SW.reg ?_|refine SO.nil ?_|refine SO.a rfl ?_|refine SO.cT rfl (by omega) ?_|refine SO.cF rfl (by omega) ?_|fail
  refine SO.callG rfl rfl rfl (numDigits258 (hp.ext hE1) m (by omega) (by omega)) ?_
  rintro _ h2 n2 ⟨⟨d,rfl,d1,d2,d3,d4⟩,rfl,rfl⟩
  repeat' first|refine SO.sliceArrTT 1 d rfl rfl rfl rfl (by omega) rfl rfl (by omega) (by omega) ?_|refine SW.a rfl ?_|refine SW.reg ?_|refine SO.nil ?_|refine SO.a rfl ?_|refine SO.add rfl rfl rfl rfl (by omega) ?_|fail
  refine SO.callG rfl rfl rfl (format259 m hc1 (by simp;omega) d4 d2 (by omega)) ?_
  rintro _ h3 n3 ⟨⟨us,hc3,b1,b2,b3⟩,hk3,rfl⟩
  have hdec:decN m=lowD m d:=decN_digits d1 d3 d4
  have hul:us.length=24:=by rw [b1];rfl
  have hfl:((lowD m d).flatMap byteC).length=d:=by rw [flatMap_length (esz:=1) (fun _=>rfl),lowD_length];omega
  have hsl:Sl h3 (n+1) 1 (.slc n (0+1*1) d (24 - 1)) (decN m).length ((decN m).flatMap byteC):=by
   rw [hdec,lowD_length]
   refine⟨by rw [hfl];omega,.inr ⟨n,_,_,us,.inl ⟨rfl,by omega⟩,⟨by omega,.inl ⟨_,_,hc3⟩⟩,by rw [hul];omega,?_⟩⟩
   have e:us.drop (0+1*1)=_:=b3
   rw [e,List.take_append_of_le_length (by rw [hfl];omega)]
   exact List.take_of_length_le (by rw [hfl];omega)
  repeat' first|refine SO.sliceArrTT 1 d rfl rfl rfl rfl (by omega) rfl rfl (by omega) (by omega) ?_|refine SO.convBS rfl rfl rfl hsl ?_|refine SW.a rfl ?_|refine SW.reg ?_|refine SO.nil ?_|refine SO.a rfl ?_|refine SO.cF rfl (by omega) ?_|refine SO.add rfl rfl rfl rfl (by omega) ?_|fail
  exact SW.ret code204 ⟨_,rfl,hq _ _ _ ⟨rfl,hE1.keep (Nat.le_refl n) hk3⟩⟩
theorem itoa96 {h:Hp} {n:Nat} (hp:Pow h n) (m:Nat) (hm:m<=9000000000000000000):Fn E 121 [.int .i64 (m:Int)] h n fun r h' n'=>r=strOf (decN m)/\Gr h n h' n':=by
 refine Fn.of code121 (by decide) rfl fun Q cs hq=>?_
 show SW E Q 121 [(r0,.int .i64 (m:Int))] _ _ _ _
 repeat' first|refine SW.a rfl ?_|refine SW.reg ?_|refine SO.nil ?_|refine SO.a rfl ?_
 refine SO.callG rfl rfl rfl (formatInt172 hp m hm) ?_
 rintro _ h1 n1 ⟨rfl,hE⟩
 repeat' first|refine SO.nil ?_|refine SO.a rfl ?_
 exact SW.ret code121 ⟨_,rfl,hq _ _ _ ⟨rfl,hE⟩⟩
theorem itoa50 {h:Hp} {n:Nat} (hp:Pow h n) (m:Nat) (hm:m<=9000000000000000000):Fn E 70 [.int .i64 (m:Int)] h n fun r h' n'=>r=strOf (decN m)/\Gr h n h' n':=by
 refine Fn.of code70 (by decide) rfl fun Q cs hq=>?_
 show SW E Q 70 [(r0,.int .i64 (m:Int))] _ _ _ _
 repeat' first|refine SW.a rfl ?_|refine SW.reg ?_|refine SO.nil ?_|refine SO.a rfl ?_
 refine SO.callG rfl rfl rfl (itoa96 hp m hm) ?_
 rintro _ h1 n1 ⟨rfl,hE⟩
 repeat' first|refine SO.nil ?_|refine SO.a rfl ?_
 exact SW.ret code70 ⟨_,rfl,hq _ _ _ ⟨rfl,hE⟩⟩
theorem atom14 {h:Hp} {n:Nat} (bs:List UInt8):Fn E 23 [strOf bs] h n fun r h' n'=>r=.agg (xC (.atom bs))/\Gr h n h' n':=by
 refine Fn.of code23 (by decide) rfl fun Q cs hq=>?_
 show SW E Q 23 [(r0,strOf bs)] _ _ _ _
 repeat' first|refine SO.alloc rfl rfl (fun h3 hc3 hE3=>?_)|refine SO.build rfl rfl rfl (fun K=>rfl) ?_|refine SO.storeAll rfl rfl rfl hc3 rfl rfl (fun h4 hc4 hk4=>?_)|refine SW.a rfl ?_|refine SW.reg ?_|refine SO.nil ?_|refine SO.a rfl ?_
 exact SW.ret code23 ⟨n,0,_,rfl,.inl ⟨_,_,hc4⟩,by simp,hq _ _ _ ⟨rfl,hE3.keep (Nat.le_refl _) hk4⟩⟩
theorem list12 {h h0:Hp} {n n0:Nat} {v:AV} {xs:List XR} (hs:Sl h0 n0 3 v xs.length (xs.flatMap xC)):Fn E 21 [v] h n fun r h' n'=>r=.agg (xC (.list v xs))/\Gr h n h' n':=by
 have hv:v=.nils\/(∃ a b c d,v=.slc a b c d)\/(∃ a b c d,v=.gsl a b c d):=by
  obtain⟨_,⟨rfl,_⟩ |⟨a,o,c,vs,⟨rfl,_⟩ |⟨rfl,_⟩,_⟩⟩:=hs
  ·exact .inl rfl
  ·exact .inr (.inl ⟨_,_,_,_,rfl⟩)
  ·exact .inr (.inr ⟨_,_,_,_,rfl⟩)
 refine Fn.of code21 (by decide) rfl fun Q cs hq=>?_
 show SW E Q 21 [(r0,v)] _ _ _ _
 rcases hv with rfl |⟨_,_,_,_,rfl⟩ |⟨_,_,_,_,rfl⟩
 all_goals
  repeat' first|refine SO.alloc rfl rfl (fun h3 hc3 hE3=>?_)|refine SO.build rfl rfl rfl (fun K=>rfl) ?_|refine SO.storeAll rfl rfl rfl hc3 rfl rfl (fun h4 hc4 hk4=>?_)|refine SW.a rfl ?_|refine SW.reg ?_|refine SO.nil ?_|refine SO.a rfl ?_
  exact SW.ret code21 ⟨n,0,_,rfl,.inl ⟨_,_,hc4⟩,by simp,hq _ _ _ ⟨rfl,hE3.keep (Nat.le_refl _) hk4⟩⟩
theorem int23 {h:Hp} {n:Nat} (hp:Pow h n) (m:Nat) (hm:m<=1099511627776):Fn E 39 [.int .i64 (m:Int)] h n fun r h' n'=>r=.tup [.agg (xC (.atom (decN m))),.int .i64 0]/\Gr h n h' n':=by
 refine Fn.of code39 (by decide) rfl fun Q cs hq=>?_
 show SW E Q 39 [(r0,.int .i64 (m:Int))] _ _ _ _
 repeat' first|refine SO.alloc rfl rfl (fun h1 hc1 hE1=>?_)|refine SW.a rfl ?_|refine SW.reg ?_|refine SO.nil ?_|refine SO.a rfl ?_|refine SO.cF rfl (by omega) ?_|fail
 refine SO.callG rfl rfl rfl (itoa50 (hp.ext hE1) m (by omega)) ?_
 rintro _ h2 n2 ⟨rfl,hE2⟩
 have hc2:hb h2 n=some (.cell [.bool false,strOf [],.nils] 56 false):=by rw [hE2.same n (by omega)];exact hc1
 repeat' first|refine SO.build rfl rfl rfl (fun K=>rfl) ?_|refine SO.storeAll rfl rfl rfl hc2 rfl rfl (fun h4 hc4 hk4=>?_)|refine SO.nil ?_|refine SO.a rfl ?_
 exact SW.ret code39 ⟨n,0,_,rfl,.inl ⟨_,_,hc4⟩,by simp,_,rfl,hq _ _ _ ⟨rfl,(hE1.trans hE2).keep (Nat.le_refl _) hk4⟩⟩
theorem number13 {h:Hp} {n:Nat} (hp:Pow h n) (m:Nat) (hm:m<=1099511627776):Fn E 22 [.int .i64 (m:Int)] h n fun r h' n'=>r=.agg (xC (.atom (decN m)))/\Gr h n h' n':=by
 refine Fn.of code22 (by decide) rfl fun Q cs hq=>?_
 show SW E Q 22 [(r0,.int .i64 (m:Int))] _ _ _ _
 repeat' first|refine SO.alloc rfl rfl (fun h1 hc1 hE1=>?_)|refine SW.a rfl ?_|refine SW.reg ?_|refine SO.nil ?_|refine SO.a rfl ?_
 refine SO.callG rfl rfl rfl (int23 (hp.ext hE1) m hm) ?_
 rintro _ h2 n2 ⟨rfl,hE2⟩
 have l2:=hE2.le
 repeat' first|refine SO.alloc rfl rfl (fun h3 hc3 hE3=>?_)|refine SO.a rfl ?_
 refine SO.storeAll rfl rfl rfl hc3 rfl rfl (fun h4 hc4 hk4=>?_)
 repeat' first|refine SW.a rfl ?_|refine SW.reg ?_|refine SO.nil ?_|refine SO.a rfl ?_
 have hc5:hb h4 n=some (.cell [.bool false,strOf [],.nils] 56 false):=by rw [hk4 n (by omega),hE3.same n (by omega),hE2.same n (by omega)];exact hc1
 refine SO.loadVA rfl rfl rfl hc4 rfl ?_
 refine SO.storeAll rfl rfl rfl hc5 rfl rfl (fun h6 hc6 hk6=>?_)
 repeat' refine SO.nil ?_
 exact SW.ret code22 ⟨n,0,_,rfl,.inl ⟨_,_,hc6⟩,by simp [xC],hq _ _ _ ⟨rfl,(((hE1.trans hE2).trans hE3).keep (by omega) hk4).keep (Nat.le_refl _) hk6⟩⟩
end Go.Ev
