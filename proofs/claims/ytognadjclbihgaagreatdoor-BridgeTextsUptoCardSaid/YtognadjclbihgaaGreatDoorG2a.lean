/- BridgeTexts: the variables that the call's code names. -/
import Derived.Test.YtognadjclbihgaaGreatDoorG1
set_option linter.all false
set_option maxRecDepth 100000
namespace Go.Proofs.YtognadjclbihgaaGreatDoor
theorem vn3:Tryz.prog.varsNamed 4=["unicode/utf8.first","unicode/utf8.acceptRanges","internal/bytealg.MaxLen","internal/strconv.uint64pow10","math/bits.deBruijn32tab","math/bits.deBruijn64tab","strconv.ErrSyntax","strconv.ErrRange"]:=by
 unfold Program.varsNamed
 rw [clos]
 kernel_rfl
end Go.Proofs.YtognadjclbihgaaGreatDoor
