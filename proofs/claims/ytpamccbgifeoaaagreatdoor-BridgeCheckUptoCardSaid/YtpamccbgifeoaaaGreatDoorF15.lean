/- Contracts: internal/strconv.numDigits; the digits. -/
import Derived.Test.YtpamccbgifeoaaaGreatDoorF14
set_option linter.all false
namespace Go.Ev
set_option maxRecDepth 100000
set_option maxHeartbeats 4000000
section
variable {E : Env} {Q : Post} {fn : Fr} {md : Md} {R : List (Path × AV)} {todo : List AItem} {cs : List AF} {h h' h0 : Hp} {n n' n0 : Nat} {os : List COp} {k : IntKind} {p : Path} {g : Option (Path × Bool)} {X Y : CX} {a o : Nat}
theorem SO.idxArrA {len esz : Nat} (i : Nat) (hg : wantB R g = true) (hd : Nat.beq p.len depth = true) (h1 : lookX R X = some (.ptr a o)) (h2 : lookX R Y = some (.int k (i : Int))) (hi : i < len) (hw : SO E Q fn md ((p, .ptr a (o + i * esz)) :: R) os todo cs h n) : SO E Q fn md R (⟨some p, g, [X, Y], .idxArrA len esz⟩ :: os) todo cs h n :=
  SO.val hg hd (two h1 h2) (fun K => by
    show guardB (Nat.blt i len) (force (Nat.add o (Nat.mul i esz)) fun o => K.v (.ptr a o) h n) = _
    have : Nat.blt i len = true := by simp [Nat.blt, Nat.lt_iff_add_one_le] at hi ⊢; exact hi
    rw [this, force_eq]; rfl) hw
end
def powC : List AV := (List.range 20).map fun i => .int .u64 ((10 ^ i : Nat) : Int)
def Pow (h : Hp) (n : Nat) : Prop := Pt h n (.ptr 1 0) powC
theorem Pow.ext {h h' : Hp} {n n' : Nat} (hp : Pow h n) (e : Gr h n h' n') : Pow h' n' := Pt.ext hp e
theorem powC_at (t : Nat) (ht : t < 20) : powC[t]? = some (.int .u64 ((10 ^ t : Nat) : Int)) := by
  simp [powC, ht]
theorem log_fit : ∀ l < 65, 1 ≤ l → l * 78913 / 2 ^ 18 ≤ 19 ∧ 2 ^ l ≤ 10 ^ (l * 78913 / 2 ^ 18 + 1) ∧ (1 ≤ l * 78913 / 2 ^ 18 → 10 ^ (l * 78913 / 2 ^ 18 - 1) ≤ 2 ^ (l - 1)) := by decide
theorem numDigits258 {h : Hp} {n : Nat} (hp : Pow h n) (u : Nat) (hu : 0 < u) (hu' : u ≤ 18446744073709551615) : Fn E 258 [.int .u64 (u : Int)] h n fun r h' n' => (∃ d : Nat, r = .int .i64 (d : Int) ∧ 1 ≤ d ∧ d ≤ 20 ∧ 10 ^ (d - 1) ≤ u ∧ u < 10 ^ d) ∧ h' = h ∧ n' = n := by
  refine Fn.of code258 (by decide) rfl fun Q cs hq => ?_
  show SW E Q 258 [(r0, .int .u64 (u : Int))] _ _ _ _
  have htop : topN .i64 = 9223372036854775807 := rfl
  repeat' (first | refine SW.seq ?_ | refine SW.reg ?_ | refine SO.nil ?_ | refine SO.mov rfl rfl rfl ?_)
  refine SO.callG rfl rfl rfl (len153 u hu hu') ?_
  rintro _ h' n' ⟨⟨l, rfl, h1, h2, h3, h4⟩, rfl, rfl⟩
  obtain ⟨g1, g2, g3⟩ := log_fit l (by omega) h1
  refine SO.callG rfl rfl rfl (log367 l h2) ?_
  rintro _ h' n' ⟨rfl, rfl, rfl⟩
  generalize l * 78913 / 2 ^ 18 = t at *
  repeat' (first | refine SO.idxArrA t rfl rfl rfl rfl (by omega) ?_ | refine SO.loadF (off := t) (o := 0) rfl rfl (by rw [show 0 + t * 1 = 0 + t by omega]; rfl) hp (Gr.refl _ _) (powC_at t (by omega)) ?_ | refine SW.seq ?_ | refine SW.reg ?_ | refine SO.nil ?_ | refine SO.mov rfl rfl rfl ?_)
  refine SO.geq rfl rfl rfl rfl (fun hge => ?_) (fun hlt => ?_)
  · refine SO.callG rfl rfl rfl (bit368 true) ?_
    rintro _ h2 n2 ⟨rfl, rfl, rfl⟩
    repeat' (first | refine SO.addN 1 rfl rfl rfl rfl (by omega) ?_ | refine SO.nil ?_ | refine SO.mov rfl rfl rfl ?_)
    exact SW.ret code258 ⟨_, rfl, hq _ _ _ ⟨⟨t + 1, rfl, by omega, by omega, by simpa using Int.ofNat_le.1 hge, Nat.lt_of_lt_of_le h4 g2⟩, rfl, rfl⟩⟩
  · refine SO.callG rfl rfl rfl (bit368 false) ?_
    rintro _ h2 n2 ⟨rfl, rfl, rfl⟩
    have hlt' : u < 10 ^ t := Int.ofNat_lt.1 hlt
    have ht1 : 1 ≤ t := by
      cases t with
      | zero => simp at hlt'; omega
      | succ t => omega
    repeat' (first | refine SO.addN 0 rfl rfl rfl rfl (by omega) ?_ | refine SO.nil ?_ | refine SO.mov rfl rfl rfl ?_)
    exact SW.ret code258 ⟨_, rfl, hq _ _ _ ⟨⟨t, rfl, ht1, by omega, Nat.le_trans (g3 ht1) h3, hlt'⟩, rfl, rfl⟩⟩
end Go.Ev
