/- PROVED: quiltlaw59.BridgeParse, the tied card (BridgeParseCardSaid): at every string the call returns true and the argument reads as it did; the listed package-level variables start as the program's text lays them. -/
import Derived.Test.YtognadjclbihgaaGreatDoorC1
import Derived.Test.YtognadjclbihgaaGreatDoorFW3
import Derived.Test.YtognadjclbihgaaGreatDoorFT
set_option linter.all false
namespace Go.Proofs.YtognadjclbihgaaGreatDoor
open Go.ChangeShapes Go.WideShapes Go.ChangeAt Go.RowKit
set_option maxRecDepth 100000 in
theorem lifted (os:Os) (started:os.Started) (H:Type) (enc:TypeId × Value->H) (F:Stop.Interp) :
  ReturnsInHanded {} Tryz.checked os 3 .any ((OpenSpec.ofChange Rows.bridgeParseSpec).preRow enc Tryz.prog Tryz.f3 Rows.bridgeParseRow.domain false Rows.bridgeParseRow.laid) (((OpenSpec.ofChange Rows.bridgeParseSpec).at F).post enc Tryz.prog Tryz.f3 false true false false):=by
 refine returnsInHanded_of_row (C:=Tryz.checked) (s:=OpenSpec.ofChange Rows.bridgeParseSpec) own started noInit Tryz.func3 (wit os H enc) ?_
 intro W base args ds gs before hval hW _ hcond _ hL _ _
 exact contract H enc W base args ds gs before hval hW (globsOf hL)
theorem bridgeParse:Rows.BridgeParseCardSaid:=cardFrom (saidFrom lifted)
#print axioms bridgeParse
end Go.Proofs.YtognadjclbihgaaGreatDoor
