/- BridgeTexts: what the call's code comes to. -/
import Derived.Test.YtognadjclbihgaaGreatDoorG1
set_option linter.all false
set_option maxRecDepth 100000
namespace Go.Proofs.YtognadjclbihgaaGreatDoor
theorem ip3:Tryz.prog.inPlace 4=["internal/bytealg.CountString","internal/bytealg.IndexByteString","internal/bytealg.IndexString","internal/abi.NoEscape","internal/bytealg.Compare","internal/bytealg.abigen_runtime_cmpstring","slices.overlaps[quilt/api.Stored]"]:=by
 unfold Program.inPlace
 rw [clos]
 kernel_rfl
theorem un3:Tryz.prog.unfollowed 4=true:=by
 unfold Program.unfollowed
 rw [clos]
 kernel_rfl
theorem re3:Tryz.prog.recurses 4=true:=by
 unfold Program.recurses
 rw [un3,Bool.true_or]
end Go.Proofs.YtognadjclbihgaaGreatDoor
