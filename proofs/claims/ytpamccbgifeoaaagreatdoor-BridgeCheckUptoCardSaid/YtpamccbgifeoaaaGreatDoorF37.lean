/- PROVED: quiltlaw59.BridgeCheck, the second form's card (BridgeCheckUptoCardSaid): at every input whose reading is of bulk at most 1048576 the call returns true and the argument reads as it did; the listed package-level tables start as the program's text lays them. -/
import Derived.Test.YtpamccbgifeoaaaGreatDoorF33
import Derived.Test.YtpamccbgifeoaaaGreatDoorFW3
import Derived.Test.YtpamccbgifeoaaaGreatDoorFT
set_option linter.all false
set_option linter.unusedVariables false
namespace Go.Proofs.YtpamccbgifeoaaaGreatDoor
open Go.ChangeShapes Go.WideShapes Go.ChangeAt Go.RowKit
set_option maxRecDepth 100000 in
theorem liftedUpto (os : Os) (started : os.Started) (H : Type) (enc : TypeId × Value → H) (F : Stop.Interp) :
    ReturnsInHanded {} Tryz.checked os 3 .any ((Rows.OpenSpec.upto Rows.bridgeCheckSpec).preRow enc Tryz.prog Tryz.f3 Rows.bridgeCheckUptoRow.domain false Rows.bridgeCheckUptoRow.laid) (((Rows.OpenSpec.upto Rows.bridgeCheckSpec).at F).post enc Tryz.prog Tryz.f3 false true false false) := by
  refine returnsInHanded_of_row (C := Tryz.checked) (s := Rows.OpenSpec.upto Rows.bridgeCheckSpec) own started noInit Tryz.func3 (wit os H enc) ?_
  intro W base args ds gs before hval hW _ hcond _ hL _ _
  exact contract H enc W base args ds gs before hval hW (by have := hcond _ rfl; simpa [Rows.uptoSmall] using this) hL
theorem bridgeCheckUpto : Rows.BridgeCheckUptoCardSaid := cardFrom (saidFrom liftedUpto)
#print axioms bridgeCheckUpto
end Go.Proofs.YtpamccbgifeoaaaGreatDoor
