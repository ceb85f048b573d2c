/- BridgeTexts: closed facts: the form's own. -/
import Derived.Test.YtognadjclbihgaaGreatDoorG2
import Derived.Test.YtognadjclbihgaaGreatDoorG3
set_option linter.all false
namespace Go.Proofs.YtognadjclbihgaaGreatDoor
open Go.ChangeShapes Go.WideShapes Go.ChangeAt Go.RowKit
theorem saidFrom (hh:∀ (os:Os) (_:os.Started) (H:Type) (enc:TypeId × Value->H) (F:Stop.Interp),ReturnsInHanded {} Tryz.checked os 4 .any ((Rows.OpenSpec.upto Rows.bridgeTextsSpec).preRow enc Tryz.prog Tryz.f4 Rows.bridgeTextsUptoRow.domain false Rows.bridgeTextsUptoRow.laid) (((Rows.OpenSpec.upto Rows.bridgeTextsSpec).at F).post enc Tryz.prog Tryz.f4 false true false false)):Rows.BridgeTextsUptoSaid :=
 OpenClaim.holds_of_cond 4 Tryz.f4 rfl rfl rfl rfl rfl rfl rfl ⟨rfl,rfl,rfl,rfl,rfl⟩ rfl rfl rfl rfl rfl named4 Tryz.func4 closedFacts
  (of_decide_eq_true (by as_aux_lemma=>kernel_rfl)) (by unfold Func.isWrapper;first |(rw [if_pos (by decide +kernel)];kernel_rfl) |(rw [if_neg (by decide +kernel)];exact⟨rfl,rfl⟩))
  (fun os started H enc _ F=>by rw [OpenClaim.pre_eq_preRow];exact hh os started H enc F)
end Go.Proofs.YtognadjclbihgaaGreatDoor
