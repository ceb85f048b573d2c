/- Contracts: internal/strconv.FormatInt, Itoa; strconv.Itoa; the program's expressions: Int, number, atom, list. -/
import Derived.Test.YtpamccbgifeoaaaGreatDoorF17
set_option linter.all false
namespace Go.Ev
set_option maxRecDepth 100000
set_option maxHeartbeats 4000000
section
variable {E : Env} {Q : Post} {fn : Fr} {md : Md} {R : List (Path × AV)} {todo : List AItem} {cs : List AF} {h h' h0 : Hp} {n n' n0 : Nat} {os : List COp} {k k' : IntKind} {p : Path} {g : Option (Path × Bool)} {X Y Z : CX} {a o : Nat} {v : AV} {x y : Int}
theorem SO.sliceArrTT {m esz : Nat} (i l : Nat) (hg : wantB R g = true) (hd : Nat.beq p.len depth = true) (h1 : lookX R X = some (.ptr a o)) (h2 : lookX R Y = some (.int k y)) (hy : y = ((i + l : Nat) : Int)) (h3 : lookX R Z = some (.int k' x)) (hx : x = (i : Int)) (hj : i + l ≤ m) (him : i < m)
    (hw : SO E Q fn md ((p, .slc a (o + i * esz) l (m - i)) :: R) os todo cs h n) : SO E Q fn md R (⟨some p, g, [X, Y, Z], .sliceArr m esz true true false⟩ :: os) todo cs h n := by
  subst hy hx
  refine SO.val hg hd (three h1 h2 h3) (fun K => ?_) hw
  show bounds3 true true false [.int k ((i + l : Nat) : Int), .int k' (i : Int)] m m (fun lo hi m => movedK o lo m esz fun o' => force (Nat.sub hi lo) fun l' => force (Nat.sub m lo) fun c' => K.v (.slc a o' l' c') h n) = _
  unfold bounds3
  rw [boundK_false, boundK_true hj, boundK_true (Nat.le_add_right i l)]
  show movedK o i m esz _ = _
  rw [movedK_eq, force_eq, force_eq, if_neg (by omega), show Nat.sub (i + l) i = l from Nat.add_sub_cancel_left i l]
  rfl
end
theorem lowD_snoc (u : Nat) : ∀ j, lowD u (j + 1) = lowD (u / 10) j ++ [UInt8.ofNat (48 + u % 10)]
  | 0 => by simp [lowD]
  | j + 1 => by
    have ih := lowD_snoc u j
    have e : u / 10 / 10 ^ j = u / 10 ^ (j + 1) := by rw [Nat.div_div_eq_div_mul, Nat.pow_succ, Nat.mul_comm]
    show UInt8.ofNat (48 + u / 10 ^ (j + 1) % 10) :: lowD u (j + 1) = (UInt8.ofNat (48 + u / 10 / 10 ^ j % 10) :: lowD (u / 10) j) ++ _
    rw [ih, e]; rfl
theorem decN_lowD : ∀ (d u : Nat), (10 ^ d ≤ u ∨ d = 0) → u < 10 ^ (d + 1) → decN u = lowD u (d + 1)
  | 0, u, _, h => by
    have hu : u < 10 := by simpa using h
    rw [decN, if_pos hu]
    simp [lowD, Nat.mod_eq_of_lt hu]
  | d + 1, u, h0, h => by
    have h1 : 10 ^ (d + 1) ≤ u := by rcases h0 with h0 | h0; exact h0; omega
    have h2 : 10 ≤ 10 ^ (d + 1) := Nat.le_trans (by decide : 10 ≤ 10 ^ 1) (Nat.pow_le_pow_right (by decide) (by omega))
    have h3 : 10 ^ d ≤ u / 10 := (Nat.le_div_iff_mul_le (by decide)).2 (by rw [← Nat.pow_succ]; exact h1)
    have h4 : u / 10 < 10 ^ (d + 1) := (Nat.div_lt_iff_lt_mul (by decide)).2 (by rw [← Nat.pow_succ]; exact h)
    rw [decN, if_neg (by omega), decN_lowD d (u / 10) (.inl h3) h4, lowD_snoc u (d + 1)]
theorem decN_digits {d u : Nat} (h1 : 1 ≤ d) (h2 : 10 ^ (d - 1) ≤ u) (h3 : u < 10 ^ d) : decN u = lowD u d := by
  obtain ⟨e, rfl⟩ : ∃ e, d = e + 1 := ⟨d - 1, by omega⟩
  exact decN_lowD e u (.inl (by simpa using h2)) h3
theorem formatInt172 {h : Hp} {n : Nat} (hp : Pow h n) (m : Nat) (hm : m ≤ 9000000000000000000) : Fn E 172 [.int .i64 (m : Int), .int .i64 10] h n fun r h' n' => r = strOf (decN m) ∧ Gr h n h' n' := by
  refine Fn.of code172 (by decide) rfl fun Q cs hq => ?_
  show SW E Q 172 [(r0, .int .i64 (m : Int)), (r1, .int .i64 10)] _ _ _ _
  have t64 : topN .u64 = 18446744073709551615 := rfl
  by_cases hlt : m < 100
  · repeat' (first | refine SW.seq ?_ | refine SW.reg ?_ | refine SO.nil ?_ | refine SW.condT rfl ?_ | refine SO.mov rfl rfl rfl ?_ | refine SO.pickT rfl rfl rfl rfl rfl ?_ | refine SO.lssT rfl rfl rfl rfl (by omega) ?_ | refine SO.leqT rfl rfl rfl rfl (by omega) ?_ | refine SO.eqiT rfl rfl rfl rfl (by omega) ?_)
    refine SO.callG rfl rfl rfl (small257 m hlt) ?_
    rintro _ h1 n1 ⟨rfl, rfl, rfl⟩
    repeat' (first | refine SO.nil ?_ | refine SO.mov rfl rfl rfl ?_)
    exact SW.ret code172 ⟨_, rfl, hq _ _ _ ⟨rfl, Gr.refl _ _⟩⟩
  · repeat' (first | refine SO.alloc rfl rfl (fun h1 hc1 hE1 => ?_) | refine SO.convN rfl rfl rfl (by omega) ?_ | refine SW.seq ?_ | refine SW.reg ?_ | refine SO.nil ?_ | refine SW.skip ?_ | refine SW.condT rfl ?_ | refine SW.condF rfl ?_ | refine SO.mov rfl rfl rfl ?_ | refine SO.pickT rfl rfl rfl rfl rfl ?_ | refine SO.lssF rfl rfl rfl rfl (by omega) ?_ | refine SO.leqT rfl rfl rfl rfl (by omega) ?_ | refine SO.eqiT rfl rfl rfl rfl (by omega) ?_)
    refine SO.callG rfl rfl rfl (numDigits258 (hp.ext hE1) m (by omega) (by omega)) ?_
    rintro _ h2 n2 ⟨⟨d, rfl, d1, d2, d3, d4⟩, rfl, rfl⟩
    repeat' (first | refine SO.sliceArrTT 1 d rfl rfl rfl rfl (by omega) rfl rfl (by omega) (by omega) ?_ | refine SW.seq ?_ | refine SW.reg ?_ | refine SO.nil ?_ | refine SO.mov rfl rfl rfl ?_ | refine SO.add rfl rfl rfl rfl (by omega) ?_)
    refine SO.callG rfl rfl rfl (format259 m hc1 (by simp; omega) d4 d2 (by omega)) ?_
    rintro _ h3 n3 ⟨⟨us, hc3, b1, b2, b3⟩, hk3, rfl⟩
    have hdec : decN m = lowD m d := decN_digits d1 d3 d4
    have hul : us.length = 24 := by rw [b1]; rfl
    have hfl : ((lowD m d).flatMap byteC).length = d := by rw [flatMap_length (esz := 1) (fun _ => rfl), lowD_length]; omega
    have hsl : Sl h3 (n + 1) 1 (.slc n (0 + 1 * 1) d (24 - 1)) (decN m).length ((decN m).flatMap byteC) := by
      rw [hdec, lowD_length]
      refine ⟨by rw [hfl]; omega, .inr ⟨n, _, _, us, .inl ⟨rfl, by omega⟩, ⟨by omega, .inl ⟨_, _, hc3⟩⟩, by rw [hul]; omega, ?_⟩⟩
      have e : us.drop (0 + 1 * 1) = _ := b3
      rw [e, List.take_append_of_le_length (by rw [hfl]; omega)]
      exact List.take_of_length_le (by rw [hfl]; omega)
    repeat' (first | refine SO.sliceArrTT 1 d rfl rfl rfl rfl (by omega) rfl rfl (by omega) (by omega) ?_ | refine SO.convBS rfl rfl rfl hsl ?_ | refine SW.seq ?_ | refine SW.reg ?_ | refine SO.nil ?_ | refine SW.skip ?_ | refine SW.condF rfl ?_ | refine SO.mov rfl rfl rfl ?_ | refine SO.lssF rfl rfl rfl rfl (by omega) ?_ | refine SO.add rfl rfl rfl rfl (by omega) ?_)
    exact SW.ret code172 ⟨_, rfl, hq _ _ _ ⟨rfl, hE1.keep (Nat.le_refl n) hk3⟩⟩
theorem itoa96 {h : Hp} {n : Nat} (hp : Pow h n) (m : Nat) (hm : m ≤ 9000000000000000000) : Fn E 96 [.int .i64 (m : Int)] h n fun r h' n' => r = strOf (decN m) ∧ Gr h n h' n' := by
  refine Fn.of code96 (by decide) rfl fun Q cs hq => ?_
  show SW E Q 96 [(r0, .int .i64 (m : Int))] _ _ _ _
  repeat' (first | refine SW.seq ?_ | refine SW.reg ?_ | refine SO.nil ?_ | refine SO.mov rfl rfl rfl ?_)
  refine SO.callG rfl rfl rfl (formatInt172 hp m hm) ?_
  rintro _ h1 n1 ⟨rfl, hE⟩
  repeat' (first | refine SO.nil ?_ | refine SO.mov rfl rfl rfl ?_)
  exact SW.ret code96 ⟨_, rfl, hq _ _ _ ⟨rfl, hE⟩⟩
theorem itoa50 {h : Hp} {n : Nat} (hp : Pow h n) (m : Nat) (hm : m ≤ 9000000000000000000) : Fn E 50 [.int .i64 (m : Int)] h n fun r h' n' => r = strOf (decN m) ∧ Gr h n h' n' := by
  refine Fn.of code50 (by decide) rfl fun Q cs hq => ?_
  show SW E Q 50 [(r0, .int .i64 (m : Int))] _ _ _ _
  repeat' (first | refine SW.seq ?_ | refine SW.reg ?_ | refine SO.nil ?_ | refine SO.mov rfl rfl rfl ?_)
  refine SO.callG rfl rfl rfl (itoa96 hp m hm) ?_
  rintro _ h1 n1 ⟨rfl, hE⟩
  repeat' (first | refine SO.nil ?_ | refine SO.mov rfl rfl rfl ?_)
  exact SW.ret code50 ⟨_, rfl, hq _ _ _ ⟨rfl, hE⟩⟩
theorem atom14 {h : Hp} {n : Nat} (bs : List UInt8) : Fn E 14 [strOf bs] h n fun r h' n' => r = .agg (xC (.atom bs)) ∧ Gr h n h' n' := by
  refine Fn.of code14 (by decide) rfl fun Q cs hq => ?_
  show SW E Q 14 [(r0, strOf bs)] _ _ _ _
  repeat' (first | refine SO.alloc rfl rfl (fun h3 hc3 hE3 => ?_) | refine SO.build rfl rfl rfl (fun K => rfl) ?_ | refine SO.storeAll rfl rfl rfl hc3 rfl rfl (fun h4 hc4 hk4 => ?_) | refine SW.seq ?_ | refine SW.reg ?_ | refine SO.nil ?_ | refine SO.mov rfl rfl rfl ?_)
  exact SW.ret code14 ⟨n, 0, _, rfl, .inl ⟨_, _, hc4⟩, by simp, hq _ _ _ ⟨rfl, hE3.keep (Nat.le_refl _) hk4⟩⟩
theorem list12 {h h0 : Hp} {n n0 : Nat} {v : AV} {xs : List XR} (hs : Sl h0 n0 3 v xs.length (xs.flatMap xC)) : Fn E 12 [v] h n fun r h' n' => r = .agg (xC (.list v xs)) ∧ Gr h n h' n' := by
  have hv : v = .nils ∨ (∃ a b c d, v = .slc a b c d) ∨ (∃ a b c d, v = .gsl a b c d) := by
    obtain ⟨_, ⟨rfl, _⟩ | ⟨a, o, c, vs, ⟨rfl, _⟩ | ⟨rfl, _⟩, _⟩⟩ := hs
    · exact .inl rfl
    · exact .inr (.inl ⟨_, _, _, _, rfl⟩)
    · exact .inr (.inr ⟨_, _, _, _, rfl⟩)
  refine Fn.of code12 (by decide) rfl fun Q cs hq => ?_
  show SW E Q 12 [(r0, v)] _ _ _ _
  rcases hv with rfl | ⟨_, _, _, _, rfl⟩ | ⟨_, _, _, _, rfl⟩
  all_goals
    repeat' (first | refine SO.alloc rfl rfl (fun h3 hc3 hE3 => ?_) | refine SO.build rfl rfl rfl (fun K => rfl) ?_ | refine SO.storeAll rfl rfl rfl hc3 rfl rfl (fun h4 hc4 hk4 => ?_) | refine SW.seq ?_ | refine SW.reg ?_ | refine SO.nil ?_ | refine SO.mov rfl rfl rfl ?_)
    exact SW.ret code12 ⟨n, 0, _, rfl, .inl ⟨_, _, hc4⟩, by simp, hq _ _ _ ⟨rfl, hE3.keep (Nat.le_refl _) hk4⟩⟩
theorem int23 {h : Hp} {n : Nat} (hp : Pow h n) (m : Nat) (hm : m ≤ 1099511627776) : Fn E 23 [.int .i64 (m : Int)] h n fun r h' n' => r = .tup [.agg (xC (.atom (decN m))), .int .i64 0] ∧ Gr h n h' n' := by
  refine Fn.of code23 (by decide) rfl fun Q cs hq => ?_
  show SW E Q 23 [(r0, .int .i64 (m : Int))] _ _ _ _
  repeat' (first | refine SO.alloc rfl rfl (fun h1 hc1 hE1 => ?_) | refine SW.seq ?_ | refine SW.reg ?_ | refine SO.nil ?_ | refine SW.skip ?_ | refine SW.condF rfl ?_ | refine SO.mov rfl rfl rfl ?_ | refine SO.pickF rfl rfl rfl rfl rfl ?_ | refine SO.lssF rfl rfl rfl rfl (by omega) ?_ | refine SO.gtrF rfl rfl rfl rfl (by omega) ?_)
  refine SO.callG rfl rfl rfl (itoa50 (hp.ext hE1) m (by omega)) ?_
  rintro _ h2 n2 ⟨rfl, hE2⟩
  have hc2 : hb h2 n = some (.cell [.bool false, strOf [], .nils] 51 false) := by rw [hE2.same n (by omega)]; exact hc1
  repeat' (first | refine SO.build rfl rfl rfl (fun K => rfl) ?_ | refine SO.storeAll rfl rfl rfl hc2 rfl rfl (fun h4 hc4 hk4 => ?_) | refine SO.nil ?_ | refine SO.mov rfl rfl rfl ?_)
  exact SW.ret code23 ⟨n, 0, _, rfl, .inl ⟨_, _, hc4⟩, by simp, _, rfl, hq _ _ _ ⟨rfl, (hE1.trans hE2).keep (Nat.le_refl _) hk4⟩⟩
theorem number13 {h : Hp} {n : Nat} (hp : Pow h n) (m : Nat) (hm : m ≤ 1099511627776) : Fn E 13 [.int .i64 (m : Int)] h n fun r h' n' => r = .agg (xC (.atom (decN m))) ∧ Gr h n h' n' := by
  refine Fn.of code13 (by decide) rfl fun Q cs hq => ?_
  show SW E Q 13 [(r0, .int .i64 (m : Int))] _ _ _ _
  repeat' (first | refine SO.alloc rfl rfl (fun h1 hc1 hE1 => ?_) | refine SW.seq ?_ | refine SW.reg ?_ | refine SO.nil ?_ | refine SO.mov rfl rfl rfl ?_)
  refine SO.callG rfl rfl rfl (int23 (hp.ext hE1) m hm) ?_
  rintro _ h2 n2 ⟨rfl, hE2⟩
  have l2 := hE2.le
  repeat' (first | refine SO.alloc rfl rfl (fun h3 hc3 hE3 => ?_) | refine SO.mov rfl rfl rfl ?_ | refine SO.extract rfl rfl rfl rfl ?_)
  refine SO.storeAll rfl rfl rfl hc3 rfl rfl (fun h4 hc4 hk4 => ?_)
  repeat' (first | refine SW.seq ?_ | refine SW.reg ?_ | refine SO.nil ?_ | refine SO.mov rfl rfl rfl ?_)
  have hc5 : hb h4 n = some (.cell [.bool false, strOf [], .nils] 51 false) := by rw [hk4 n (by omega), hE3.same n (by omega), hE2.same n (by omega)]; exact hc1
  refine SO.loadVA rfl rfl rfl hc4 rfl ?_
  refine SO.storeAll rfl rfl rfl hc5 rfl rfl (fun h6 hc6 hk6 => ?_)
  repeat' refine SO.nil ?_
  exact SW.ret code13 ⟨n, 0, _, rfl, .inl ⟨_, _, hc6⟩, by simp [xC], hq _ _ _ ⟨rfl, (((hE1.trans hE2).trans hE3).keep (by omega) hk4).keep (Nat.le_refl _) hk6⟩⟩
end Go.Ev
