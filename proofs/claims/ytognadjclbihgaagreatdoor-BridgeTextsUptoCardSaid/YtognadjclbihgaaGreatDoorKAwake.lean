/- quiltlaw59.awake, run by the kernel through the interpreter. -/
import Derived.Test.YtognadjclbihgaaGreatDoorProg
import Derived.Test.YtognadjclbihgaaGreatDoorE5
set_option linter.all false
namespace Go.Ev
open Go.Proofs
def N:FuncId->Option Ext:=fun f=>match f with|205=>some .noEscape|425=>some .indexByteStr|568=>some .countStr|_=>none
set_option maxRecDepth 1000000
theorem awake_run:runK ⟨fun f=>(Tryz.prog.funcs[f]?).bind (compF Tryz.prog N),compM Tryz.prog,fun v=>ifBool v id⟩ 200000 (.run (.mk 5 .nil [.code (compC Tryz.prog N 50 ((Tryz.f5.body).getD .skip))] [] none) []) ⟨.nil,fun _=>none⟩ 100=true:=by decide +kernel
end Go.Ev
