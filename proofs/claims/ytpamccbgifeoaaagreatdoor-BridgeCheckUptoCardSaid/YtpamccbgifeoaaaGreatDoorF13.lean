/- Contracts: strconv: small, Len64, log10, numDigits. -/
import Derived.Test.YtpamccbgifeoaaaGreatDoorF12
import Derived.Test.YtpamccbgifeoaaaGreatDoorE7
import Derived.Test.YtpamccbgifeoaaaGreatDoorKCode2
set_option linter.all false
namespace Go.Ev
set_option maxRecDepth 100000
set_option maxHeartbeats 4000000
def tabD : List UInt8 := [48, 49, 50, 51, 52, 53, 54, 55, 56, 57, 97, 98, 99, 100, 101, 102, 103, 104, 105, 106, 107, 108, 109, 110, 111, 112, 113, 114, 115, 116, 117, 118, 119, 120, 121, 122]
def tabS : List UInt8 := [48, 48, 48, 49, 48, 50, 48, 51, 48, 52, 48, 53, 48, 54, 48, 55, 48, 56, 48, 57, 49, 48, 49, 49, 49, 50, 49, 51, 49, 52, 49, 53, 49, 54, 49, 55, 49, 56, 49, 57, 50, 48, 50, 49, 50, 50, 50, 51, 50, 52, 50, 53, 50, 54, 50, 55, 50, 56, 50, 57, 51, 48, 51, 49, 51, 50, 51, 51, 51, 52, 51, 53, 51, 54, 51, 55, 51, 56, 51, 57, 52, 48, 52, 49, 52, 50, 52, 51, 52, 52, 52, 53, 52, 54, 52, 55, 52, 56, 52, 57, 53, 48, 53, 49, 53, 50, 53, 51, 53, 52, 53, 53, 53, 54, 53, 55, 53, 56, 53, 57, 54, 48, 54, 49, 54, 50, 54, 51, 54, 52, 54, 53, 54, 54, 54, 55, 54, 56, 54, 57, 55, 48, 55, 49, 55, 50, 55, 51, 55, 52, 55, 53, 55, 54, 55, 55, 55, 56, 55, 57, 56, 48, 56, 49, 56, 50, 56, 51, 56, 52, 56, 53, 56, 54, 56, 55, 56, 56, 56, 57, 57, 48, 57, 49, 57, 50, 57, 51, 57, 52, 57, 53, 57, 54, 57, 55, 57, 56, 57, 57]
theorem tabD_at : ∀ m < 10, part tabD m (m + 1) = [UInt8.ofNat (48 + m)] := by decide
theorem tabS_at : ∀ m < 100, part tabS (m * 2) (m * 2 + 2) = [UInt8.ofNat (48 + m / 10), UInt8.ofNat (48 + m % 10)] := by decide
theorem small257 {h : Hp} {n : Nat} (m : Nat) (hm : m < 100) : Fn E 257 [.int .i64 (m : Int)] h n fun r h' n' => r = strOf (decN m) ∧ h' = h ∧ n' = n := by
  refine Fn.of code257 (by decide) rfl fun Q cs hq => ?_
  show SW E Q 257 [(r0, .int .i64 (m : Int))] _ _ _ _
  have htop : topN .i64 = 9223372036854775807 := rfl
  by_cases hlt : m < 10
  · repeat' (first | refine SO.addN 1 rfl rfl rfl rfl (by omega) ?_ | refine SO.sliceTT (bs := tabD) rfl rfl rfl rfl rfl (by omega) (by simp [tabD]; omega) ?_ | refine SW.seq ?_ | refine SW.reg ?_ | refine SO.nil ?_ | refine SW.condT rfl ?_ | refine SO.mov rfl rfl rfl ?_ | refine SO.lssT rfl rfl rfl rfl (by omega) ?_)
    refine SW.ret code257 ⟨_, rfl, hq _ _ _ ⟨?_, rfl, rfl⟩⟩
    rw [decN, if_pos hlt, tabD_at m hlt]; rfl
  · repeat' (first | refine SO.mulN 2 rfl rfl rfl rfl (by omega) ?_ | refine SO.addN 2 rfl rfl rfl rfl (by omega) ?_ | refine SO.sliceTT (bs := tabS) rfl rfl rfl rfl rfl (by omega) (by simp [tabS]; omega) ?_ | refine SW.seq ?_ | refine SW.reg ?_ | refine SO.nil ?_ | refine SW.skip ?_ | refine SW.condF rfl ?_ | refine SO.mov rfl rfl rfl ?_ | refine SO.lssF rfl rfl rfl rfl (by omega) ?_)
    refine SW.ret code257 ⟨_, rfl, hq _ _ _ ⟨?_, rfl, rfl⟩⟩
    have h10 : decN (m / 10) = [UInt8.ofNat (48 + m / 10)] := by rw [decN, if_pos (by omega)]
    rw [tabS_at m hm, decN, if_neg hlt, h10]; rfl
theorem bit368 {h : Hp} {n : Nat} (b : Bool) : Fn E 368 [.bool b] h n fun r h' n' => r = .int .i64 ((if b then 1 else 0 : Nat) : Int) ∧ h' = h ∧ n' = n := by
  refine Fn.of code368 (by decide) rfl fun Q cs hq => ?_
  show SW E Q 368 [(r0, .bool b)] _ _ _ _
  cases b with
  | true =>
    repeat' (first | refine SW.seq ?_ | refine SW.reg ?_ | refine SO.nil ?_ | refine SW.condT rfl ?_ | refine SO.mov rfl rfl rfl ?_)
    exact SW.ret code368 ⟨_, rfl, hq _ _ _ ⟨rfl, rfl, rfl⟩⟩
  | false =>
    repeat' (first | refine SW.seq ?_ | refine SW.reg ?_ | refine SO.nil ?_ | refine SW.skip ?_ | refine SW.condF rfl ?_ | refine SO.mov rfl rfl rfl ?_)
    exact SW.ret code368 ⟨_, rfl, hq _ _ _ ⟨rfl, rfl, rfl⟩⟩
theorem log367 {h : Hp} {n : Nat} (l : Nat) (hl : l ≤ 64) : Fn E 367 [.int .i64 (l : Int)] h n fun r h' n' => r = .int .i64 ((l * 78913 / 2 ^ 18 : Nat) : Int) ∧ h' = h ∧ n' = n := by
  refine Fn.of code367 (by decide) rfl fun Q cs hq => ?_
  show SW E Q 367 [(r0, .int .i64 (l : Int))] _ _ _ _
  have htop : topN .i64 = 9223372036854775807 := rfl
  repeat' (first | refine SO.mulN 78913 rfl rfl rfl rfl (by omega) ?_ | refine SO.shrN 18 rfl rfl rfl rfl (by decide) ?_ | refine SW.seq ?_ | refine SW.reg ?_ | refine SO.nil ?_ | refine SO.mov rfl rfl rfl ?_)
  exact SW.ret code367 ⟨_, rfl, hq _ _ _ ⟨rfl, rfl, rfl⟩⟩
end Go.Ev
