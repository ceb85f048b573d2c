/- BridgeTexts: no goroutine is started. -/
import Derived.SevenTiedAt
import Derived.Test.YtognadjclbihgaaGreatDoorCards
set_option linter.all false
set_option maxRecDepth 100000
namespace Go.Proofs.YtognadjclbihgaaGreatDoor
theorem named4:Tryz.prog.funcNamed "quilt/quiltlaw59.BridgeTexts" = some 4:=by kernel_rfl
theorem goes4:Tryz.prog.goes 4=false:=by
 have h1:(Tryz.prog.funcs.all fun F=>!F.goes)=true:=by kernel_rfl
 have h2:Tryz.prog.funcs.any Func.goes=false:=by kernel_rfl
 unfold Program.goes
 rw [h2,Bool.and_false,Bool.or_false,List.any_eq_false]
 intro g _ h
 cases hg:Tryz.prog.funcs[g]? with
 | none=>rw [hg] at h;simp at h
 | some F =>
  rw [hg,Option.any_some] at h
  have:=Array.all_eq_true_iff_forall_mem.1 h1 F (Array.mem_of_getElem? hg)
  rw [h] at this;simp at this
theorem goesBy4:false=Rows.bridgeTextsUptoRow.goesBy Tryz.pinned.checked.prog:=by
 have h:Rows.bridgeTextsUptoRow.goesBy Tryz.pinned.checked.prog=((Tryz.prog.funcNamed "quilt/quiltlaw59.BridgeTexts").any Tryz.prog.goes||false):=rfl
 rw [h,named4,Option.any_some,goes4]
 rfl
end Go.Proofs.YtognadjclbihgaaGreatDoor
