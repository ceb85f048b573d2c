/- BridgeCheck: the statement, lifted. -/
import Derived.Test.YtpamccbgifeoaaaGreatDoorCards
import Derived.WalkKit
import Derived.ProofKit
import Derived.OpenShut
import Derived.Deep.DeepHandedRow
import Derived.Lib.LaidTab
set_option linter.all false
set_option linter.unusedVariables false
namespace Go.Proofs.YtpamccbgifeoaaaGreatDoor
open Go.ChangeShapes Go.WideShapes Go.ChangeAt Go.RowKit
theorem own : ownKnob Tryz.prog.godebug = none := by kernel_rfl
theorem noInit : Tryz.checked.prog.inits.idxOf? 3 = none := by kernel_rfl
def numsOf (d : DataW Unit) : Array Value := match d with
  | .agg l => (l.flatMap fun
    | .lit (.int k z) => [Value.int k z]
    | .agg m => m.flatMap fun
      | .lit (.int k z) => [Value.int k z]
      | _ => []
    | _ => []).toArray
  | _ => #[]
def setTab (d : DataW Unit) : Obj → Obj
  | .cells _ t frozen => .cells (numsOf d) t frozen
  | o => o
noncomputable def laidWorld (os : Os) : World :=
  { World.holding Tryz.prog os ⟨#[], #[], []⟩ with heap := (((((World.holding Tryz.prog os ⟨#[], #[], []⟩).heap.modify 1 (setTab Rows.laid_internal_strconv_uint64pow10)).modify 2 (setTab Rows.laid_math_bits_deBruijn32tab)).modify 3 (setTab Rows.laid_math_bits_deBruijn64tab)).modify 4 (setTab Rows.laid_unicode_utf8_first)).modify 5 (setTab Rows.laid_unicode_utf8_acceptRanges) }
theorem laid_met (os : Os) : laidMet Tryz.prog Rows.bridgeCheckUptoRow.laid ((laidWorld os).forCall (fun _ _ => 0) ⟨#[], #[.slice none 0 0], []⟩).memory :=
  laidMet_of_run' 8 (by as_aux_lemma => kernel_rfl) (by as_aux_lemma => kernel_rfl)
theorem reads (os : Os) {H : Type} (enc : TypeId × Value → H) : ∃ places, DataW.whole enc Tryz.prog ((laidWorld os).forCall (fun _ _ => 0) ⟨#[], #[.slice none 0 0], []⟩).memory Tryz.f3.params.toList Rows.bridgeCheckSpec.vars false #[Value.slice none 0 0].toList 8 = some ([.nil], [], places) :=
  ⟨[], by kernel_rfl⟩
end Go.Proofs.YtpamccbgifeoaaaGreatDoor
