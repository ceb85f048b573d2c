/- PROVED: quiltlaw59.BridgeTexts, the tied card (BridgeTextsUptoCardSaid): at every history and every string whose reading is of bulk at most 1048576 the call returns true and the arguments read as they did; the listed package-level variables start as the program's text lays them. -/
import Derived.Test.YtognadjclbihgaaGreatDoorTC
import Derived.Test.YtognadjclbihgaaGreatDoorFW3
import Derived.Test.YtognadjclbihgaaGreatDoorFT
set_option linter.all false
namespace Go.Proofs.YtognadjclbihgaaGreatDoor
open Go.ChangeShapes Go.WideShapes Go.ChangeAt Go.RowKit
set_option maxRecDepth 100000 in
theorem lifted (os:Os) (started:os.Started) (H:Type) (enc:TypeId × Value->H) (F:Stop.Interp) :
  ReturnsInHanded {} Tryz.checked os 4 .any ((Rows.OpenSpec.upto Rows.bridgeTextsSpec).preRow enc Tryz.prog Tryz.f4 Rows.bridgeTextsUptoRow.domain false Rows.bridgeTextsUptoRow.laid) (((Rows.OpenSpec.upto Rows.bridgeTextsSpec).at F).post enc Tryz.prog Tryz.f4 false true false false):=by
 refine returnsInHanded_of_row (C:=Tryz.checked) (s:=Rows.OpenSpec.upto Rows.bridgeTextsSpec) own started noInit Tryz.func4 (wit os H enc) ?_
 intro W base args ds gs before hval hW _ hcond _ hL _ _
 exact contract H enc W base args ds gs before hval hW (by have:=hcond _ rfl;simpa [Rows.uptoSmall] using this) (globsOf hL)
theorem bridgeTextsUpto:Rows.BridgeTextsUptoCardSaid:=cardFrom (saidFrom lifted)
#print axioms bridgeTextsUpto
end Go.Proofs.YtognadjclbihgaaGreatDoor
