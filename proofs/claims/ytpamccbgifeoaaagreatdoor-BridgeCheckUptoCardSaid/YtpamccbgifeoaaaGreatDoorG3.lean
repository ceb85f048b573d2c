/- G3 -/
import Derived.Test.YtpamccbgifeoaaaGreatDoorG1
import Derived.SevenTiedAt
import Derived.Test.YtpamccbgifeoaaaGreatDoorCards
set_option linter.all false
set_option linter.all false
set_option maxRecDepth 100000
namespace Go.Proofs.YtpamccbgifeoaaaGreatDoor
theorem named3 : Tryz.prog.funcNamed "quilt/quiltlaw59.BridgeCheck" = some 3 := by kernel_rfl
theorem goes3 : Tryz.prog.goes 3 = false := by
  unfold Program.goes Program.unfollowed
  rw [clos]
  kernel_rfl
theorem goesBy3 : false = Rows.bridgeCheckUptoRow.goesBy Tryz.pinned.checked.prog := by
  have h : Rows.bridgeCheckUptoRow.goesBy Tryz.pinned.checked.prog = ((Tryz.prog.funcNamed "quilt/quiltlaw59.BridgeCheck").any Tryz.prog.goes || false) := rfl
  rw [h, named3, Option.any_some, goes3]
  rfl
end Go.Proofs.YtpamccbgifeoaaaGreatDoor
