/- BridgeTexts: an input that fits. -/
import Derived.Test.YtognadjclbihgaaGreatDoorCards
import Derived.WalkKit
import Derived.ProofKit
import Derived.OpenShut
import Derived.Deep.DeepHandedRow
import Derived.Lib.LaidTab
set_option linter.all false
namespace Go.Proofs.YtognadjclbihgaaGreatDoor
open Go.ChangeShapes Go.WideShapes Go.ChangeAt Go.RowKit
theorem own:ownKnob Tryz.prog.godebug=none:=by kernel_rfl
theorem noInit:Tryz.checked.prog.inits.idxOf? 4=none:=by kernel_rfl
def numsOf (d:DataW Unit):Array Value:=match d with
 | .agg l=>(l.flatMap fun
  | .lit (.int k z)=>[Value.int k z]
  | .agg m=>m.flatMap fun
   | .lit (.int k z)=>[Value.int k z]
   | _=>[]
  | _=>[]).toArray
 | _=>#[]
def setTab (d:DataW Unit):Obj->Obj
 | .cells _ t frozen=>.cells (numsOf d) t frozen
 | o=>o
def setErr (b:Nat):Obj->Obj
 | .cells _ t frozen=>.cells #[.iface 621 (.pointer (some ⟨b,0,none⟩))] t frozen
 | o=>o
noncomputable def low:Nat:=(World.holding Tryz.prog default ⟨#[],#[],[]⟩).heap.size
def syntaxS:ByteArray:={ data:=#[105,110,118,97,108,105,100,32,115,121,110,116,97,120] }
def rangeS:ByteArray:={ data:=#[118,97,108,117,101,32,111,117,116,32,111,102,32,114,97,110,103,101] }
noncomputable def laidWorld (os:Os):World :=
 let w0:=World.holding Tryz.prog os ⟨#[.cells #[.string syntaxS] 623,.cells #[.string rangeS] 623],#[],[]⟩
 { w0 with heap:=((((((w0.heap.modify 1 (setErr low)).modify 2 (setErr (low+1))).modify 3 (setTab Rows.laid_internal_strconv_uint64pow10)).modify 4 (setTab Rows.laid_math_bits_deBruijn32tab)).modify 5 (setTab Rows.laid_math_bits_deBruijn64tab)).modify 6 (setTab Rows.laid_unicode_utf8_first)).modify 7 (setTab Rows.laid_unicode_utf8_acceptRanges) }
theorem laid_met (os:Os):laidMet Tryz.prog Rows.bridgeTextsUptoRow.laid ((laidWorld os).forCall (fun _ _=>0) ⟨#[],#[.slice none 0 0,.string ⟨#[]⟩],[]⟩).memory :=
 laidMet_of_run' 8 (by as_aux_lemma=>kernel_rfl) (by as_aux_lemma=>kernel_rfl)
theorem reads (os:Os) {H:Type} (enc:TypeId × Value->H):∃ places,DataW.whole enc Tryz.prog ((laidWorld os).forCall (fun _ _=>0) ⟨#[],#[.slice none 0 0,.string ⟨#[]⟩],[]⟩).memory Tryz.f4.params.toList Rows.bridgeTextsSpec.vars false #[Value.slice none 0 0,Value.string ⟨#[]⟩].toList 8=some ([.nil,.lit (.string [])],[],places) :=
 ⟨[],by kernel_rfl⟩
end Go.Proofs.YtognadjclbihgaaGreatDoor
