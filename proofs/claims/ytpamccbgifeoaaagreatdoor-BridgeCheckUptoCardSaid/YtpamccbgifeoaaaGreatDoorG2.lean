/- G2 -/
import Derived.Test.YtpamccbgifeoaaaGreatDoorG1
import Derived.Test.YtpamccbgifeoaaaGreatDoorFW1
set_option linter.all false
set_option linter.all false
set_option maxRecDepth 100000
set_option maxHeartbeats 8000000
namespace Go.Proofs.YtpamccbgifeoaaaGreatDoor
theorem clos2 : Tryz.pinned.checked.prog.closure 3 = Tryz.prog.closure 3 := rfl
theorem closedFacts : joinedFacts Tryz.pinned.checked.prog 3 Tryz.f3 (Rows.OpenSpec.upto Rows.bridgeCheckSpec).bare Rows.bridgeCheckUptoRow = true := by
  simp only [joinedFacts, Bool.and_eq_true]
  repeat' apply And.intro
  all_goals first
    | (simp only [Program.recurses, Program.inPlace, Program.unfollowed, Program.varsNamed, clos2, clos]; as_aux_lemma => kernel_rfl)
    | (as_aux_lemma => kernel_rfl)
end Go.Proofs.YtpamccbgifeoaaaGreatDoor
