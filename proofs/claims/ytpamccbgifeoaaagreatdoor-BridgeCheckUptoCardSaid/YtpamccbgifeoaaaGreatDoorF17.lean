/- Contracts: internal/strconv.formatBase10. -/
import Derived.Test.YtpamccbgifeoaaaGreatDoorF16
set_option linter.all false
namespace Go.Ev
set_option maxRecDepth 100000
set_option maxHeartbeats 8000000
section
variable {E : Env} {Q : Post} {fn : Fr} {md : Md} {R : List (Path × AV)} {todo : List AItem} {cs : List AF} {h h' h0 : Hp} {n n' n0 : Nat} {os : List COp} {k : IntKind} {p : Path} {g : Option (Path × Bool)} {X Y : CX} {a o : Nat} {v : AV} {y : Int}
theorem SO.store2 {us : List AV} {e : TypeId} {m : Nat} (hg : wantB R g = true) (h1 : lookX R X = some (.ptr a o)) (h2 : lookX R Y = some v) (hb0 : hb h a = some (.cell us e false)) (hacc : ∀ b, b ≠ a → hb h b = hb h0 b) (hm : us.length = m) (hv : v.cells = [v]) (hv' : ∀ us, v ≠ .tup us) (hl : o < m)
    (hw : ∀ h1 us', hb h1 a = some (.cell us' e false) → us' = splice o [v] us → us'.length = m → (∀ b, b ≠ a → hb h1 b = hb h0 b) → SO E Q fn md R os todo cs h1 n) : SO E Q fn md R (⟨none, g, [X, Y], .store 1⟩ :: os) todo cs h n :=
  SO.store1 hg h1 h2 hb0 hv hv' (by omega) fun h1 hc hk => hw h1 _ hc rfl (by simp [splice]; omega) fun b hb => by rw [hk b hb, hacc b hb]
end
theorem splice_length1 {q : Nat} {x : AV} {us : List AV} (hq : q < us.length) : (splice q [x] us).length = us.length := by
  simp [splice]; omega
theorem format259 {h : Hp} {n a o L c : Nat} {vs : List AV} {e : TypeId} (u : Nat) (hb0 : hb h a = some (.cell vs e false)) (hl : o + L ≤ vs.length) (hu : u < 10 ^ L) (hL : L ≤ 20) (hu' : u ≤ 18446744073709551615) :
    Fn E 259 [.slc a o L c, .int .u64 (u : Int)] h n fun r h' n' => (∃ us, hb h' a = some (.cell us e false) ∧ Buf vs us o 0 L ((lowD u L).flatMap byteC)) ∧ (∀ b, b ≠ a → hb h' b = hb h b) ∧ n' = n := by
  refine Fn.of code259 (by decide) rfl fun Q cs hq => ?_
  show SW E Q 259 [(r0, .slc a o L c), (r1, .int .u64 (u : Int))] _ _ _ _
  have t64 : topN .u64 = 18446744073709551615 := rfl
  have t32 : topN .u32 = 4294967295 := rfl
  have t8 : topN .u8 = 255 := rfl
  have t1 : ∀ (i j w : Nat) (h1 : Hp) (us : List AV), i + j = L → i < 2 → w = u / 10 ^ j → w < 10 ^ i → hb h1 a = some (.cell us e false) → (∀ b, b ≠ a → hb h1 b = hb h b) → Buf vs us o i L ((lowD u j).flatMap byteC) →
      ∀ R, look R r0 = some (.slc a o L c) → look R r12 = some (.int .u32 (w : Int)) → look R r4 = some (.int .i64 (i : Int)) → SW E Q 259 R [.code (.seq (.reg c259x26) (.cond (.r r161) (.reg c259x27) .skip))] cs h1 n := by
    intro i j w h1 us hij h8 hw hwi hc hacc hB R q0 q12 q4
    have hul := hB.1
    refine SW.sub (R' := [(r0, .slc a o L c), (r12, .int .u32 (w : Int)), (r4, .int .i64 (i : Int))]) (by simp [q0, q12, q4]) ?_
    rcases (by omega : i = 0 ∨ i = 1) with rfl | rfl
    · repeat' (first | refine SW.seq ?_ | refine SW.reg ?_ | refine SO.nil ?_ | refine SW.skip ?_ | refine SW.condF rfl ?_ | refine SO.mov rfl rfl rfl ?_ | refine SO.gtrF rfl rfl rfl rfl (by omega) ?_)
      have hj : j = L := by omega
      subst hj
      exact SW.fin code259 (hq _ _ _ ⟨⟨us, hc, hB⟩, hacc, rfl⟩)
    · have hw10 : w < 10 := by simpa using hwi
      repeat' (first | refine SO.addN (a := 48) w rfl rfl rfl rfl (by omega) ?_ | refine SO.convN rfl rfl rfl (by omega) ?_ | refine SO.idxW 0 rfl rfl rfl rfl (by omega) (by omega) ?_ | refine SO.store2 (m := vs.length) rfl rfl rfl (by assumption) (by assumption) (by assumption) rfl (by simp) (by omega) (fun h9 us9 hc9 he9 hm9 hacc9 => ?_) | refine SW.seq ?_ | refine SW.reg ?_ | refine SO.nil ?_ | refine SW.condT rfl ?_ | refine SO.mov rfl rfl rfl ?_ | refine SO.gtrT rfl rfl rfl rfl (by omega) ?_)
      have p1 := Buf.wr (i := 0) (.int .u8 ((48 + w : Nat) : Int)) hB (by omega)
      have hd : (AV.int .u8 ((48 + w : Nat) : Int)) = .int .u8 ((UInt8.ofNat (48 + u / 10 ^ j % 10)).toNat : Int) := by
        rw [← hw, Nat.mod_eq_of_lt hw10]
        have := digit_eq w hw10
        rw [← this]; rfl
      have hj : L = j + 1 := by omega
      subst hj
      simp only [Nat.zero_mul] at he9
      subst he9
      rw [hd] at p1 hc9
      exact SW.fin code259 (hq _ _ _ ⟨⟨_, hc9, p1⟩, hacc9, rfl⟩)
  have t2 : ∀ (i j w : Nat) (h1 : Hp) (us : List AV), i + j = L → i < 4 → w = u / 10 ^ j → w < 10 ^ i → hb h1 a = some (.cell us e false) → (∀ b, b ≠ a → hb h1 b = hb h b) → Buf vs us o i L ((lowD u j).flatMap byteC) →
      ∀ R, look R r0 = some (.slc a o L c) → look R r12 = some (.int .u32 (w : Int)) → look R r4 = some (.int .i64 (i : Int)) → SW E Q 259 R [.code (.seq (.seq (.reg c259x21) (.cond (.r r139) (.seq (.reg c259x22) (.seq (.reg c259x23) (.seq (.draw c259x24) (.reg c259x25)))) .skip)) (.seq (.reg c259x26) (.cond (.r r161) (.reg c259x27) .skip)))] cs h1 n := by
    intro i j w h1 us hij h8 hw hwi hc hacc hB R q0 q12 q4
    have hul := hB.1
    refine SW.sub (R' := [(r0, .slc a o L c), (r12, .int .u32 (w : Int)), (r4, .int .i64 (i : Int))]) (by simp [q0, q12, q4]) ?_
    by_cases h2 : i < 2
    · refine SW.seq ?_
      refine SW.seq ?_
      refine SW.reg ?_
      refine SO.mov rfl rfl rfl ?_
      refine SO.geqF rfl rfl rfl rfl (by omega) ?_
      refine SO.nil ?_
      refine SW.condF rfl ?_
      refine SW.skip ?_
      exact t1 i j w h1 us hij h2 hw hwi hc hacc hB _ rfl rfl rfl
    · obtain ⟨i, rfl⟩ : ∃ i0, i = i0 + 2 := ⟨i - 2, by omega⟩
      have hw4 : w < 10000 := Nat.lt_of_lt_of_le hwi (Nat.le_trans (Nat.pow_le_pow_right (by decide) (by omega : i + 2 ≤ 4)) (by decide))
      refine SW.seq ?_
      refine SW.seq ?_
      refine SW.reg ?_
      refine SO.mov rfl rfl rfl ?_
      refine SO.geqT rfl rfl rfl rfl (by omega) ?_
      refine SO.nil ?_
      refine SW.condT rfl ?_
      refine SW.seq ?_
      refine SW.reg ?_
      refine SO.mov rfl rfl rfl ?_
      refine SO.remK 100 rfl rfl rfl rfl (by decide) ?_
      refine SO.mulN 2 rfl rfl rfl rfl (by omega) ?_
      refine SO.mov rfl rfl rfl ?_
      refine SO.nil ?_
      refine SW.seq ?_
      refine SW.reg ?_
      refine SO.mov rfl rfl rfl ?_
      refine SO.quoK 100 rfl rfl rfl rfl (by decide) (by omega) ?_
      refine SO.mov rfl rfl rfl ?_
      refine SO.nil ?_
      refine SW.seq ?_
      refine SW.drawO rfl ?_
      simp only [List.map_cons, List.map_nil]
      repeat' (first | refine SO.mov rfl rfl rfl ?_ | refine SO.sub rfl rfl rfl rfl (by omega) ?_ | refine SO.addN 1 rfl rfl rfl rfl (by omega) ?_ | refine SO.idxStrK (bs := tabS) rfl rfl rfl rfl (by rw [tabS_len]; omega) ?_ | refine SO.idxW (i + 1) rfl rfl rfl rfl (by omega) (by omega) ?_ | refine SO.idxW i rfl rfl rfl rfl (by omega) (by omega) ?_ | refine SO.store2 (m := vs.length) rfl rfl rfl (by assumption) (by assumption) (by assumption) rfl (by simp) (by omega) (fun h9 us9 hc9 he9 hm9 hacc9 => ?_))
      refine SO.nilD ?_
      refine SW.reg ?_
      refine SO.mov rfl rfl rfl ?_
      refine SO.sub rfl rfl rfl rfl (by omega) ?_
      refine SO.mov rfl rfl rfl ?_
      refine SO.nil ?_
      have ed : ∀ q, u / 10 ^ (j + q) = w / 10 ^ q := fun q => by rw [Nat.pow_add, ← Nat.div_div_eq_div_mul, ← hw]
      have d1 : u / 10 ^ (j + 1) = w / 10 := ed 1
      have d2 : u / 10 ^ (j + 2) = w / 100 := ed 2
      have p1 := two_digits (i := i) (w := w % 100) hB (by omega) hl (by omega) (by omega) (by omega)
      subst_vars
      simp only [Nat.mul_one] at hc9
      refine t1 i (j + 2) _ h9 _ (by omega) (by omega) d2.symm ?_ hc9 hacc9 p1 _ rfl rfl ?_
      · rw [Nat.div_lt_iff_lt_mul (by decide)]
        have : 10 ^ (i + 2) = 10 ^ i * 100 := by rw [Nat.pow_add]
        omega
      · show some (AV.int .i64 (((i + 2 : Nat) : Int) - 2)) = some (.int .i64 (i : Int))
        congr 2
        omega
  have tail : ∀ (i j w : Nat) (h1 : Hp) (us : List AV), i + j = L → i < 8 → w = u / 10 ^ j → w < 10 ^ i → hb h1 a = some (.cell us e false) → (∀ b, b ≠ a → hb h1 b = hb h b) → Buf vs us o i L ((lowD u j).flatMap byteC) →
      ∀ R, look R r0 = some (.slc a o L c) → look R r1 = some (.int .u64 (w : Int)) → look R r4 = some (.int .i64 (i : Int)) → SW E Q 259 R [.code (.seq (.reg c259x13) (.seq (.seq (.reg c259x14) (.cond (.r r99) (.seq (.reg c259x15) (.seq (.reg c259x16) (.seq (.reg c259x17) (.seq (.draw c259x18) (.seq (.draw c259x19) (.reg c259x20)))))) .skip)) (.seq (.seq (.reg c259x21) (.cond (.r r139) (.seq (.reg c259x22) (.seq (.reg c259x23) (.seq (.draw c259x24) (.reg c259x25)))) .skip)) (.seq (.reg c259x26) (.cond (.r r161) (.reg c259x27) .skip)))))] cs h1 n := by
    intro i j w h1 us hij h8 hw hwi hc hacc hB R q0 q1 q4
    have hul := hB.1
    have hw8 : w < 10000000 := Nat.lt_of_lt_of_le hwi (Nat.le_trans (Nat.pow_le_pow_right (by decide) (by omega : i ≤ 7)) (by decide))
    refine SW.sub (R' := [(r0, .slc a o L c), (r1, .int .u64 (w : Int)), (r4, .int .i64 (i : Int))]) (by simp [q0, q1, q4]) ?_
    refine SW.seq ?_
    refine SW.reg ?_
    refine SO.mov rfl rfl rfl ?_
    refine SO.convN rfl rfl rfl (by omega) ?_
    refine SO.mov rfl rfl rfl ?_
    refine SO.nil ?_
    refine SW.seq ?_
    refine SW.seq ?_
    refine SW.reg ?_
    refine SO.mov rfl rfl rfl ?_
    by_cases h4 : i < 4
    · refine SO.geqF rfl rfl rfl rfl (by omega) ?_
      refine SO.nil ?_
      refine SW.condF rfl ?_
      refine SW.skip ?_
      exact t2 i j w h1 us hij h4 hw hwi hc hacc hB _ rfl rfl rfl
    · obtain ⟨i, rfl⟩ : ∃ i0, i = i0 + 4 := ⟨i - 4, by omega⟩
      refine SO.geqT rfl rfl rfl rfl (by omega) ?_
      refine SO.nil ?_
      refine SW.condT rfl ?_
      refine SW.seq ?_
      refine SW.reg ?_
      refine SO.mov rfl rfl rfl ?_
      refine SO.remK 10000 rfl rfl rfl rfl (by decide) ?_
      refine SO.mov rfl rfl rfl ?_
      refine SO.nil ?_
      refine SW.seq ?_
      refine SW.reg ?_
      refine SO.mov rfl rfl rfl ?_
      refine SO.quoK 10000 rfl rfl rfl rfl (by decide) (by omega) ?_
      refine SO.mov rfl rfl rfl ?_
      refine SO.nil ?_
      refine SW.seq ?_
      refine SW.reg ?_
      repeat' (first | refine SO.mov rfl rfl rfl ?_ | refine SO.remK 100 rfl rfl rfl rfl (by decide) ?_ | refine SO.quoK 100 rfl rfl rfl rfl (by decide) (by omega) ?_ | refine SO.mulN 2 rfl rfl rfl rfl (by omega) ?_)
      refine SO.nil ?_
      refine SW.seq ?_
      refine SW.drawO rfl ?_
      simp only [List.map_cons, List.map_nil]
      repeat' (first | refine SO.mov rfl rfl rfl ?_ | refine SO.sub rfl rfl rfl rfl (by omega) ?_ | refine SO.addN 1 rfl rfl rfl rfl (by omega) ?_ | refine SO.idxStrK (bs := tabS) rfl rfl rfl rfl (by rw [tabS_len]; omega) ?_ | refine SO.idxW (i + 3) rfl rfl rfl rfl (by omega) (by omega) ?_ | refine SO.idxW (i + 2) rfl rfl rfl rfl (by omega) (by omega) ?_ | refine SO.idxW (i + 1) rfl rfl rfl rfl (by omega) (by omega) ?_ | refine SO.idxW i rfl rfl rfl rfl (by omega) (by omega) ?_ | refine SO.store2 (m := vs.length) rfl rfl rfl (by assumption) (by assumption) (by assumption) rfl (by simp) (by omega) (fun h9 us9 hc9 he9 hm9 hacc9 => ?_))
      refine SO.nilD ?_
      refine SW.seq ?_
      refine SW.drawO rfl ?_
      simp only [List.map_cons, List.map_nil]
      repeat' (first | refine SO.mov rfl rfl rfl ?_ | refine SO.sub rfl rfl rfl rfl (by omega) ?_ | refine SO.addN 1 rfl rfl rfl rfl (by omega) ?_ | refine SO.idxStrK (bs := tabS) rfl rfl rfl rfl (by rw [tabS_len]; omega) ?_ | refine SO.idxW (i + 3) rfl rfl rfl rfl (by omega) (by omega) ?_ | refine SO.idxW (i + 2) rfl rfl rfl rfl (by omega) (by omega) ?_ | refine SO.idxW (i + 1) rfl rfl rfl rfl (by omega) (by omega) ?_ | refine SO.idxW i rfl rfl rfl rfl (by omega) (by omega) ?_ | refine SO.store2 (m := vs.length) rfl rfl rfl (by assumption) (by assumption) (by assumption) rfl (by simp) (by omega) (fun h9 us9 hc9 he9 hm9 hacc9 => ?_))
      refine SO.nilD ?_
      refine SW.reg ?_
      refine SO.mov rfl rfl rfl ?_
      refine SO.sub rfl rfl rfl rfl (by omega) ?_
      refine SO.mov rfl rfl rfl ?_
      refine SO.nil ?_
      have ed : ∀ q, u / 10 ^ (j + q) = w / 10 ^ q := fun q => by rw [Nat.pow_add, ← Nat.div_div_eq_div_mul, ← hw]
      have d1 : u / 10 ^ (j + 1) = w / 10 := ed 1
      have d2 : u / 10 ^ (j + 2) = w / 100 := ed 2
      have d3 : u / 10 ^ (j + 2 + 1) = w / 1000 := ed 3
      have d4 : u / 10 ^ (j + 4) = w / 10000 := ed 4
      have p1 := two_digits (i := i + 2) (w := w % 10000 % 100) hB (by omega) hl (by omega) (by omega) (by omega)
      have p2 := two_digits (i := i) (w := w % 10000 / 100) p1 (by omega) hl (by omega) (by omega) (by omega)
      subst_vars
      simp only [Nat.mul_one] at hc9
      refine t2 i (j + 4) _ h9 _ (by omega) (by omega) d4.symm ?_ hc9 hacc9 p2 _ rfl rfl ?_
      · rw [Nat.div_lt_iff_lt_mul (by decide)]
        have : 10 ^ (i + 4) = 10 ^ i * 10000 := by rw [Nat.pow_add]
        omega
      · show some (AV.int .i64 (((i + 4 : Nat) : Int) - 4)) = some (.int .i64 (i : Int))
        congr 2
        omega
  have loop : ∀ (k i j w : Nat) (h1 : Hp) (us : List AV), i ≤ k → i + j = L → w = u / 10 ^ j → w < 10 ^ i → hb h1 a = some (.cell us e false) → (∀ b, b ≠ a → hb h1 b = hb h b) → Buf vs us o i L ((lowD u j).flatMap byteC) →
      ∀ R, look R r0 = some (.slc a o L c) → look R r1 = some (.int .u64 (w : Int)) → look R r4 = some (.int .i64 (i : Int)) → SW E Q 259 R [.code c259x12, .inLoop c259x12, .inBlock 0, .code (.seq (.reg c259x13) (.seq (.seq (.reg c259x14) (.cond (.r r99) (.seq (.reg c259x15) (.seq (.reg c259x16) (.seq (.reg c259x17) (.seq (.draw c259x18) (.seq (.draw c259x19) (.reg c259x20)))))) .skip)) (.seq (.seq (.reg c259x21) (.cond (.r r139) (.seq (.reg c259x22) (.seq (.reg c259x23) (.seq (.draw c259x24) (.reg c259x25)))) .skip)) (.seq (.reg c259x26) (.cond (.r r161) (.reg c259x27) .skip)))))] cs h1 n := by
    have short : ∀ (i j w : Nat) (h1 : Hp) (us : List AV), i < 8 → i + j = L → w = u / 10 ^ j → w < 10 ^ i → hb h1 a = some (.cell us e false) → (∀ b, b ≠ a → hb h1 b = hb h b) → Buf vs us o i L ((lowD u j).flatMap byteC) →
      ∀ R, look R r0 = some (.slc a o L c) → look R r1 = some (.int .u64 (w : Int)) → look R r4 = some (.int .i64 (i : Int)) → SW E Q 259 R [.code c259x12, .inLoop c259x12, .inBlock 0, .code (.seq (.reg c259x13) (.seq (.seq (.reg c259x14) (.cond (.r r99) (.seq (.reg c259x15) (.seq (.reg c259x16) (.seq (.reg c259x17) (.seq (.draw c259x18) (.seq (.draw c259x19) (.reg c259x20)))))) .skip)) (.seq (.seq (.reg c259x21) (.cond (.r r139) (.seq (.reg c259x22) (.seq (.reg c259x23) (.seq (.draw c259x24) (.reg c259x25)))) .skip)) (.seq (.reg c259x26) (.cond (.r r161) (.reg c259x27) .skip)))))] cs h1 n := by
      intro i j w h1 us h8 hij hw hwi hc hacc hB R q0 q1 q4
      refine SW.sub (R' := [(r0, .slc a o L c), (r1, .int .u64 (w : Int)), (r4, .int .i64 (i : Int))]) (by simp [q0, q1, q4]) ?_
      refine SW.seq ?_
      refine SW.seq ?_
      refine SW.reg ?_
      refine SO.mov rfl rfl rfl ?_
      refine SO.geqF rfl rfl rfl rfl (by omega) ?_
      refine SO.nil ?_
      refine SW.condF rfl ?_
      refine SW.exit rfl ?_
      exact tail i j w h1 us hij h8 hw hwi hc hacc hB _ rfl rfl rfl
    intro k
    induction k with
    | zero =>
      intro i j w h1 us hik
      exact short i j w h1 us (by omega)
    | succ k ih =>
      intro i j w h1 us hik hij hw hwi hc hacc hB R q0 q1 q4
      by_cases h8 : i < 8
      · exact short i j w h1 us h8 hij hw hwi hc hacc hB R q0 q1 q4
      obtain ⟨i, rfl⟩ : ∃ i0, i = i0 + 8 := ⟨i - 8, by omega⟩
      have hwu : w ≤ 18446744073709551615 := by rw [hw]; exact Nat.le_trans (Nat.div_le_self _ _) hu'
      have hul := hB.1
      refine SW.sub (R' := [(r0, .slc a o L c), (r1, .int .u64 (w : Int)), (r4, .int .i64 ((i + 8 : Nat) : Int))]) (by simp [q0, q1, q4]) ?_
      repeat' (first | refine SO.remK 100000000 rfl rfl rfl rfl (by decide) ?_ | refine SO.quoK 100000000 rfl rfl rfl rfl (by decide) (by omega) ?_ | refine SO.remK 10000 rfl rfl rfl rfl (by decide) ?_ | refine SO.quoK 10000 rfl rfl rfl rfl (by decide) (by omega) ?_ | refine SO.remK 100 rfl rfl rfl rfl (by decide) ?_ | refine SO.quoK 100 rfl rfl rfl rfl (by decide) (by omega) ?_ | refine SO.mulN 2 rfl rfl rfl rfl (by omega) ?_ | refine SO.convN rfl rfl rfl (by omega) ?_ | refine SW.seq ?_ | refine SW.block ?_ | refine SW.reg ?_ | refine SO.nil ?_ | refine SW.skip ?_ | refine SW.condT rfl ?_ | refine SO.mov rfl rfl rfl ?_ | refine SO.geqT rfl rfl rfl rfl (by omega) ?_)
      generalize hs : w % 100000000 = s at *
      have hs8 : s < 100000000 := by omega
      repeat' (first | refine SO.addN 1 rfl rfl rfl rfl (by omega) ?_ | refine SO.idxStrK (bs := tabS) rfl rfl rfl rfl (by rw [tabS_len]; omega) ?_ | refine SO.idxW (i + 7) rfl rfl rfl rfl (by omega) (by omega) ?_ | refine SO.idxW (i + 6) rfl rfl rfl rfl (by omega) (by omega) ?_ | refine SO.idxW (i + 5) rfl rfl rfl rfl (by omega) (by omega) ?_ | refine SO.idxW (i + 4) rfl rfl rfl rfl (by omega) (by omega) ?_ | refine SO.idxW (i + 3) rfl rfl rfl rfl (by omega) (by omega) ?_ | refine SO.idxW (i + 2) rfl rfl rfl rfl (by omega) (by omega) ?_ | refine SO.idxW (i + 1) rfl rfl rfl rfl (by omega) (by omega) ?_ | refine SO.idxW i rfl rfl rfl rfl (by omega) (by omega) ?_ | refine SO.store2 (m := vs.length) rfl rfl rfl (by assumption) (by assumption) (by assumption) rfl (by simp) (by omega) (fun h9 us9 hc9 he9 hm9 hacc9 => ?_) | refine SW.seq ?_ | refine SW.reg ?_ | refine SO.nil ?_ | refine SO.nilD ?_ | refine SW.out ?_ | (refine SW.drawO rfl ?_; simp only [List.map_cons, List.map_nil]) | refine SO.mov rfl rfl rfl ?_ | refine SO.sub rfl rfl rfl rfl (by omega) ?_)
      refine SW.again ?_
      have ed : ∀ q, u / 10 ^ (j + q) = w / 10 ^ q := fun q => by rw [Nat.pow_add, ← Nat.div_div_eq_div_mul, ← hw]
      have d1 : u / 10 ^ (j + 1) = w / 10 := ed 1
      have d2 : u / 10 ^ (j + 2) = w / 100 := ed 2
      have d3 : u / 10 ^ (j + 2 + 1) = w / 1000 := ed 3
      have d4 : u / 10 ^ (j + 2 + 2) = w / 10000 := ed 4
      have d5 : u / 10 ^ (j + 2 + 2 + 1) = w / 100000 := ed 5
      have d6 : u / 10 ^ (j + 2 + 2 + 2) = w / 1000000 := ed 6
      have d7 : u / 10 ^ (j + 2 + 2 + 2 + 1) = w / 10000000 := ed 7
      have d8 : u / 10 ^ (j + 8) = w / 100000000 := ed 8
      have p1 := two_digits (i := i + 6) (w := s % 10000 % 100) hB (by omega) hl (by omega) (by omega) (by omega)
      have p2 := two_digits (i := i + 4) (w := s % 10000 / 100) p1 (by omega) hl (by omega) (by omega) (by omega)
      have p3 := two_digits (i := i + 2) (w := s / 10000 % 100) p2 (by omega) hl (by omega) (by omega) (by omega)
      have p4 := two_digits (i := i) (w := s / 10000 / 100) p3 (by omega) hl (by omega) (by omega) (by omega)
      subst_vars
      simp only [Nat.mul_one] at hc9
      refine ih i (j + 8) _ h9 _ (by omega) (by omega) d8.symm ?_ hc9 hacc9 p4 _ rfl rfl ?_
      · rw [Nat.div_lt_iff_lt_mul (by decide)]
        have : 10 ^ (i + 8) = 10 ^ i * 100000000 := by rw [Nat.pow_add]
        omega
      · show some (AV.int .i64 (((i + 8 : Nat) : Int) - 8)) = some (.int .i64 (i : Int))
        congr 2
        omega
  have hlenv : Sl (hput a (.cell vs e false) h) (a + 1) 1 (.slc a o L L) L ((vs.drop o).take (L * 1)) := ⟨by rw [List.length_take, List.length_drop]; omega, .inr ⟨a, o, L, vs, .inl ⟨rfl, Nat.le_refl _⟩, ⟨by omega, .inl ⟨_, _, hb_self _ _ _⟩⟩, by omega, rfl⟩⟩
  refine SW.seq ?_
  refine SW.reg ?_
  refine SO.mov rfl rfl rfl ?_
  refine SO.val rfl rfl (one1 rfl) (fun K => rfl) (v := .int .i64 (L : Int)) ?_
  refine SO.mov rfl rfl rfl ?_
  refine SO.nil ?_
  refine SW.seq ?_
  refine SW.block ?_
  refine SW.loop ?_
  exact loop L L 0 u h vs (Nat.le_refl _) (by omega) (by simp) hu hb0 (fun _ _ => rfl) ⟨rfl, rfl, by simp [lowD]⟩ _ rfl rfl rfl
end Go.Ev
