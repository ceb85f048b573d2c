/- BridgeTexts: the types' rows, further parts. -/
import Derived.Test.YtognadjclbihgaaGreatDoorProg
import GoSem.ClaimDataLaid
import GoSem.ClaimJoined
import Derived.KernelRfl
set_option linter.all false
set_option maxRecDepth 100000
namespace Go.Proofs.YtognadjclbihgaaGreatDoor
theorem glo:Tryz.prog.globals.all (fun g=>decide (g.type < 739))=true:=by kernel_rfl
theorem fuo:(Tryz.prog.funcs.all (fun f=>f.params.all fun t=>decide (t < 739)))=true:=by kernel_rfl
end Go.Proofs.YtognadjclbihgaaGreatDoor
set_option maxRecDepth 100000
namespace Go.Proofs.YtognadjclbihgaaGreatDoor
theorem mro:mapsRowed Tryz.prog=true:=by kernel_rfl
end Go.Proofs.YtognadjclbihgaaGreatDoor
