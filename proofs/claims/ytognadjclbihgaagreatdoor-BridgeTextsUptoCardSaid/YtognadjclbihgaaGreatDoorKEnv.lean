/- the interpreter's reading of the program -/
import Derived.Test.YtognadjclbihgaaGreatDoorProg
import Derived.Test.YtognadjclbihgaaGreatDoorE6
import Derived.KernelRfl
set_option linter.all false
namespace Go.Ev
open Go.Proofs
def N2:FuncId->Option Ext:=fun f=>match f with|205=>some .noEscape|425=>some .indexByteStr|568=>some .countStr|1000002=>some .noEscape|1000003=>some .noEscape|_=>none
noncomputable def E:Env:=⟨fun f=>(Tryz.prog.funcs[f]?).bind (compF Tryz.prog N2),compM Tryz.prog,fun _=>false⟩
theorem cmp424:cmpI Tryz.prog 424=true:=by kernel_rfl
abbrev mK (p q:Path):COp:=⟨some p,none,[.r q],.mov⟩
abbrev eK (p q:Path) (k:OC):COp:=⟨some p,none,[.r q],k⟩
abbrev lK (p q:Path):COp:=⟨some p,none,[.r q],.loadC⟩
abbrev fK (p q:Path) (o:Nat):COp:=⟨some p,none,[.r q],.fieldA o⟩
abbrev xK (p q:Path) (i:Nat):COp:=⟨some p,none,[.r q],.extract i⟩
abbrev dK (p q r:Path) (k:OC):COp:=⟨some p,none,[.r q,.r r],k⟩
abbrev oK (p:Path) (k:OC) (xs:List CX):COp:=⟨some p,none,xs,k⟩
abbrev cK (n:Int):CX:=.c (.int .i64 n)
abbrev nK (p q:Path) (n:Int) (k:OC):COp:=⟨some p,none,[.r q,.c (.int .i64 n)],k⟩
abbrev pK (p q r:Path):COp:=⟨some p,none,[.r q,.c (.bool true),.r r],.pick⟩
abbrev qK (p q r:Path):COp:=⟨some p,none,[.r q,.r r,.c (.bool false)],.pick⟩
abbrev gK (b:Bool) (c p:Path) (k:OC) (xs:List CX):COp:=⟨some p,some (c,b),xs,k⟩
abbrev hK (b:Bool) (c p q:Path) (k:OC):COp:=⟨some p,some (c,b),[.r q],k⟩
abbrev sK (xs:List CX) (k:OC):COp:=⟨none,none,xs,k⟩
set_option maxRecDepth 1000000
theorem codeOf {f:Nat} {F:Func} {cf:CF} (h:Tryz.prog.funcs[f]?=some F) (hc:compF Tryz.prog N2 F=some cf):E.func f=some cf:=by
 rw [show E.func f=(Tryz.prog.funcs[f]?).bind (compF Tryz.prog N2) from rfl,h,Option.bind_some]
 exact hc
open Go.Proofs
set_option maxRecDepth 1000000
theorem meth431:E.meth 431 "quilt/primpatch.check" = some 644:=by
 show compM Tryz.prog 431 "quilt/primpatch.check" = some 644
 kernel_rfl
end Go.Ev
