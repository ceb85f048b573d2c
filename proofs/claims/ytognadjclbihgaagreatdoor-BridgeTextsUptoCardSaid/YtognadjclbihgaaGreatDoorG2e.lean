/- BridgeTexts: the types' rows, a part. -/
import Derived.Test.YtognadjclbihgaaGreatDoorProg
import GoSem.ClaimDataLaid
import Derived.KernelRfl
set_option linter.all false
set_option maxRecDepth 100000
namespace Go.Proofs.YtognadjclbihgaaGreatDoor
theorem rowC:((List.range 239).all fun i=>rowFine Tryz.prog (i+500))=true:=by kernel_rfl
end Go.Proofs.YtognadjclbihgaaGreatDoor
