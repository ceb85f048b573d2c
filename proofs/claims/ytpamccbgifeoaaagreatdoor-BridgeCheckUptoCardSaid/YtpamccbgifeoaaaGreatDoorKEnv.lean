/- the interpreter's reading of the program -/
import Derived.Test.YtpamccbgifeoaaaGreatDoorProg
import Derived.Test.YtpamccbgifeoaaaGreatDoorE6
import Derived.KernelRfl
set_option linter.all false
namespace Go.Ev
open Go.Proofs
def N2 : FuncId → Option Ext := fun f => match f with | 173 => some .noEscape | 393 => some .indexByteStr | 534 => some .countStr | 1000001 => some .noEscape | _ => none
noncomputable def E : Env := ⟨fun f => (Tryz.prog.funcs[f]?).bind (compF Tryz.prog N2), compM Tryz.prog, fun _ => false⟩
end Go.Ev
