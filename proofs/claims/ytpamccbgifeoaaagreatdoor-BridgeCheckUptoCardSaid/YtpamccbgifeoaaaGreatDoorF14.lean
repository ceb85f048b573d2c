/- Contracts: math/bits.Len64; internal/strconv.numDigits. -/
import Derived.Test.YtpamccbgifeoaaaGreatDoorF13
set_option linter.all false
namespace Go.Ev
set_option maxRecDepth 100000
set_option maxHeartbeats 4000000
def tabL : List UInt8 := [0, 1, 2, 2, 3, 3, 3, 3, 4, 4, 4, 4, 4, 4, 4, 4, 5, 5, 5, 5, 5, 5, 5, 5, 5, 5, 5, 5, 5, 5, 5, 5, 6, 6, 6, 6, 6, 6, 6, 6, 6, 6, 6, 6, 6, 6, 6, 6, 6, 6, 6, 6, 6, 6, 6, 6, 6, 6, 6, 6, 6, 6, 6, 6, 7, 7, 7, 7, 7, 7, 7, 7, 7, 7, 7, 7, 7, 7, 7, 7, 7, 7, 7, 7, 7, 7, 7, 7, 7, 7, 7, 7, 7, 7, 7, 7, 7, 7, 7, 7, 7, 7, 7, 7, 7, 7, 7, 7, 7, 7, 7, 7, 7, 7, 7, 7, 7, 7, 7, 7, 7, 7, 7, 7, 7, 7, 7, 7, 8, 8, 8, 8, 8, 8, 8, 8, 8, 8, 8, 8, 8, 8, 8, 8, 8, 8, 8, 8, 8, 8, 8, 8, 8, 8, 8, 8, 8, 8, 8, 8, 8, 8, 8, 8, 8, 8, 8, 8, 8, 8, 8, 8, 8, 8, 8, 8, 8, 8, 8, 8, 8, 8, 8, 8, 8, 8, 8, 8, 8, 8, 8, 8, 8, 8, 8, 8, 8, 8, 8, 8, 8, 8, 8, 8, 8, 8, 8, 8, 8, 8, 8, 8, 8, 8, 8, 8, 8, 8, 8, 8, 8, 8, 8, 8, 8, 8, 8, 8, 8, 8, 8, 8, 8, 8, 8, 8, 8, 8, 8, 8, 8, 8, 8, 8, 8, 8, 8, 8, 8, 8, 8, 8, 8, 8, 8, 8]
theorem tabL_at : ∀ x < 256, ∀ h : x < tabL.length, (x = 0 → tabL[x].toNat = 0) ∧ (0 < x → 1 ≤ tabL[x].toNat ∧ 2 ^ (tabL[x].toNat - 1) ≤ x ∧ x < 2 ^ tabL[x].toNat) := by decide
theorem tabL_len : tabL.length = 256 := by decide
theorem bits_shift {u x n l : Nat} (hx : x = u / 2 ^ n) (h1 : 1 ≤ l) (h2 : 2 ^ (l - 1) ≤ x) (h3 : x < 2 ^ l) : 2 ^ (n + l - 1) ≤ u ∧ u < 2 ^ (n + l) := by
  subst hx
  constructor
  · have := (Nat.le_div_iff_mul_le (Nat.two_pow_pos n)).1 h2
    rw [← Nat.pow_add] at this
    rwa [show n + l - 1 = l - 1 + n by omega]
  · have := (Nat.div_lt_iff_lt_mul (Nat.two_pow_pos n)).1 h3
    rw [← Nat.pow_add] at this
    rwa [show n + l = l + n by omega]
theorem len153 {h : Hp} {n : Nat} (u : Nat) (hu : 0 < u) (hu' : u ≤ 18446744073709551615) : Fn E 153 [.int .u64 (u : Int)] h n fun r h' n' => (∃ l : Nat, r = .int .i64 (l : Int) ∧ 1 ≤ l ∧ l ≤ 64 ∧ 2 ^ (l - 1) ≤ u ∧ u < 2 ^ l) ∧ h' = h ∧ n' = n := by
  refine Fn.of code153 (by decide) rfl fun Q cs hq => ?_
  show SW E Q 153 [(r0, .int .u64 (u : Int))] _ _ _ _
  have htop : topN .i64 = 9223372036854775807 := rfl
  have htop8 : topN .u8 = 255 := rfl
  have done : ∀ (x s : Nat), x = u / 2 ^ s → 0 < x → x < 256 → s ≤ 56 → ∀ R, look R r0 = some (.int .u64 (x : Int)) → look R r2 = some (.int .i64 (s : Int)) → SW E Q 153 R [.code (.seq (.reg c153x10) .ret)] cs h n := by
    intro x s hx h0 hx' hs R q0 q2
    have ht := tabL_at x hx' (by rw [tabL_len]; exact hx')
    obtain ⟨h1, h2, h3⟩ := ht.2 h0
    have hb := bits_shift hx h1 h2 h3
    have hl8 : tabL[x]'(by rw [tabL_len]; exact hx') ≤ 8 := by
      have : ∀ x < 256, ∀ h : x < tabL.length, tabL[x] ≤ 8 := by decide
      exact this x hx' _
    have hl8' : (tabL[x]'(by rw [tabL_len]; exact hx')).toNat ≤ 8 := hl8
    refine SW.sub (R' := [(r0, .int .u64 (x : Int)), (r2, .int .i64 (s : Int))]) (by simp [q0, q2]) ?_
    repeat' (first | refine SO.idxStrK (bs := tabL) rfl rfl rfl rfl (by rw [tabL_len]; exact hx') ?_ | refine SO.convN rfl rfl rfl (by omega) ?_ | refine SO.addN (tabL[x]'(by rw [tabL_len]; exact hx')).toNat rfl rfl rfl rfl (by omega) ?_ | refine SW.seq ?_ | refine SW.reg ?_ | refine SO.nil ?_ | refine SO.mov rfl rfl rfl ?_)
    exact SW.ret code153 ⟨_, rfl, hq _ _ _ ⟨⟨_, rfl, by omega, by omega, hb.1, hb.2⟩, rfl, rfl⟩⟩
  have step3 : ∀ (x s : Nat), x = u / 2 ^ s → 0 < x → x < 65536 → s ≤ 48 → ∀ R, look R r0 = some (.int .u64 (x : Int)) → look R r2 = some (.int .i64 (s : Int)) → SW E Q 153 R [.code (.seq (.seq (.reg c153x7) (.cond (.r r14) (.seq (.reg c153x8) (.reg c153x9)) .skip)) (.seq (.reg c153x10) .ret))] cs h n := by
    intro x s hx h0 hx' hs R q0 q2
    refine SW.sub (R' := [(r0, .int .u64 (x : Int)), (r2, .int .i64 (s : Int))]) (by simp [q0, q2]) ?_
    refine SW.seq ?_
    by_cases hc : 256 ≤ x
    · refine SW.seq ?_
      refine SW.reg ?_
      refine SO.mov rfl rfl rfl ?_
      refine SO.geqT rfl rfl rfl rfl (by omega) ?_
      refine SO.nil ?_
      refine SW.condT rfl ?_
      refine SW.seq ?_
      refine SW.reg ?_
      refine SO.mov rfl rfl rfl ?_
      refine SO.shrN 8 rfl rfl rfl rfl (by decide) ?_
      refine SO.mov rfl rfl rfl ?_
      refine SO.nil ?_
      refine SW.reg ?_
      refine SO.mov rfl rfl rfl ?_
      refine SO.addN 8 rfl rfl rfl rfl (by omega) ?_
      refine SO.mov rfl rfl rfl ?_
      refine SO.nil ?_
      exact done (x / 2 ^ 8) (s + 8) (by rw [hx, Nat.div_div_eq_div_mul, ← Nat.pow_add]) (by omega) (by omega) (by omega) _ rfl rfl
    · refine SW.seq ?_
      refine SW.reg ?_
      refine SO.mov rfl rfl rfl ?_
      refine SO.geqF rfl rfl rfl rfl (by omega) ?_
      refine SO.nil ?_
      refine SW.condF rfl ?_
      refine SW.skip ?_
      exact done x s hx h0 (by omega) (by omega) _ rfl rfl
  have step2 : ∀ (x s : Nat), x = u / 2 ^ s → 0 < x → x < 4294967296 → s ≤ 32 → ∀ R, look R r0 = some (.int .u64 (x : Int)) → look R r2 = some (.int .i64 (s : Int)) → SW E Q 153 R [.code (.seq (.seq (.reg c153x4) (.cond (.r r8) (.seq (.reg c153x5) (.reg c153x6)) .skip)) (.seq (.seq (.reg c153x7) (.cond (.r r14) (.seq (.reg c153x8) (.reg c153x9)) .skip)) (.seq (.reg c153x10) .ret)))] cs h n := by
    intro x s hx h0 hx' hs R q0 q2
    refine SW.sub (R' := [(r0, .int .u64 (x : Int)), (r2, .int .i64 (s : Int))]) (by simp [q0, q2]) ?_
    refine SW.seq ?_
    by_cases hc : 65536 ≤ x
    · refine SW.seq ?_
      refine SW.reg ?_
      refine SO.mov rfl rfl rfl ?_
      refine SO.geqT rfl rfl rfl rfl (by omega) ?_
      refine SO.nil ?_
      refine SW.condT rfl ?_
      refine SW.seq ?_
      refine SW.reg ?_
      refine SO.mov rfl rfl rfl ?_
      refine SO.shrN 16 rfl rfl rfl rfl (by decide) ?_
      refine SO.mov rfl rfl rfl ?_
      refine SO.nil ?_
      refine SW.reg ?_
      refine SO.mov rfl rfl rfl ?_
      refine SO.addN 16 rfl rfl rfl rfl (by omega) ?_
      refine SO.mov rfl rfl rfl ?_
      refine SO.nil ?_
      exact step3 (x / 2 ^ 16) (s + 16) (by rw [hx, Nat.div_div_eq_div_mul, ← Nat.pow_add]) (by omega) (by omega) (by omega) _ rfl rfl
    · refine SW.seq ?_
      refine SW.reg ?_
      refine SO.mov rfl rfl rfl ?_
      refine SO.geqF rfl rfl rfl rfl (by omega) ?_
      refine SO.nil ?_
      refine SW.condF rfl ?_
      refine SW.skip ?_
      exact step3 x s hx h0 (by omega) (by omega) _ rfl rfl
  refine SW.seq ?_
  refine SW.reg ?_
  refine SO.mov rfl rfl rfl ?_
  refine SO.nil ?_
  refine SW.seq ?_
  refine SW.seq ?_
  refine SW.reg ?_
  refine SO.mov rfl rfl rfl ?_
  by_cases hc : 4294967296 ≤ u
  · refine SO.geqT rfl rfl rfl rfl (by omega) ?_
    refine SO.nil ?_
    refine SW.condT rfl ?_
    refine SW.seq ?_
    refine SW.reg ?_
    refine SO.mov rfl rfl rfl ?_
    refine SO.shrN 32 rfl rfl rfl rfl (by decide) ?_
    refine SO.mov rfl rfl rfl ?_
    refine SO.nil ?_
    refine SW.reg ?_
    refine SO.mov rfl rfl rfl ?_
    refine SO.nil ?_
    exact step2 (u / 2 ^ 32) 32 rfl (by omega) (by omega) (by omega) _ rfl rfl
  · refine SO.geqF rfl rfl rfl rfl (by omega) ?_
    refine SO.nil ?_
    refine SW.condF rfl ?_
    refine SW.skip ?_
    exact step2 u 0 (by simp) hu (by omega) (by omega) _ rfl rfl
end Go.Ev
