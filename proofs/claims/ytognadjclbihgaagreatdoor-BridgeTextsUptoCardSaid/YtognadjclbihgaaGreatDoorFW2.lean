/- BridgeTexts: closed facts: an input that fits; the form's looks. -/
import Derived.Test.YtognadjclbihgaaGreatDoorFW1
set_option linter.all false
namespace Go.Proofs.YtognadjclbihgaaGreatDoor
open Go.ChangeShapes Go.WideShapes Go.ChangeAt Go.RowKit
set_option maxRecDepth 100000 in
theorem wit (os:Os) (H:Type) (enc:TypeId × Value->H):∃ (w:World) (tape:Tape) (i:Input),w.os=os/\(w.forCall tape i).Shaped Tryz.checked.prog/\i.vars=[]/\Input.okWide Tryz.checked.prog (w.forCall tape i) .any w.heap.size 4 i /\
  (Rows.OpenSpec.upto Rows.bridgeTextsSpec).preRow enc Tryz.checked.prog Tryz.f4 Rows.bridgeTextsUptoRow.domain false Rows.bridgeTextsUptoRow.laid (w.forCall tape i).memory i.args/\({}:Assume).holds Tryz.checked.prog (lone (Frame.enter Tryz.checked.prog 4 i.args .normal) [] (w.forCall tape i)):=by
 obtain⟨places,hx⟩:=reads os enc
 exact witness_row_at (enc:=enc) (C:=Tryz.checked) false (laidWorld os) #[.slice none 0 0,.string ⟨#[]⟩] rfl (by as_aux_lemma=>kernel_rfl) (by as_aux_lemma=>kernel_rfl) (by as_aux_lemma=>kernel_rfl)
   (OpenSpec.preRow_of_cond 8 hx (by as_aux_lemma=>kernel_rfl) (fun k hk=>by cases hk;as_aux_lemma=>kernel_rfl) (by as_aux_lemma=>kernel_rfl) (laid_met os))
theorem plain (f:FuncId) (fn:Func) (hf:Tryz.pinned.checked.prog.funcNamed "quilt/quiltlaw59.BridgeTexts" = some f) (hfn:Tryz.pinned.checked.prog.funcs[f]?=some fn) :
  true=Tryz.pinned.checked.prog.looks []/\∀ (j:Nat) t,fn.params[j]?=some t->Tryz.pinned.checked.prog.wantsStandIn t=false:=by
 obtain rfl:f=4:=Option.some.inj ((show Tryz.prog.funcNamed "quilt/quiltlaw59.BridgeTexts" = some 4 by as_aux_lemma=>kernel_rfl).symm.trans hf) |>.symm
 obtain rfl:fn=Tryz.f4:=(Option.some.inj (Tryz.func4.symm.trans hfn)).symm
 refine⟨by kernel_rfl,fun j t ht=>?_⟩
 rw [Tryz.params4] at ht
 have ht2:t=23\/t=9:=by simpa using Array.mem_of_getElem? ht
 rcases ht2 with rfl|rfl
 ·exact (show Tryz.prog.wantsStandIn 23=false by as_aux_lemma=>kernel_rfl)
 ·exact (show Tryz.prog.wantsStandIn 9=false by as_aux_lemma=>kernel_rfl)
end Go.Proofs.YtognadjclbihgaaGreatDoor
