/- quiltlaw59.awake: its contract. -/
import Derived.Test.YtognadjclbihgaaGreatDoorKAwake
import Derived.KernelRfl
set_option linter.all false
namespace Go.Ev
open Go.Proofs
set_option maxRecDepth 1000000
theorem ext205:Extern.findNext Tryz.f205=none/\Extern.find Tryz.f205=some (extRow .noEscape):=⟨by kernel_rfl,by kernel_rfl⟩
theorem ext425:Extern.findNext Tryz.f425=none/\Extern.find Tryz.f425=some (extRow .indexByteStr):=⟨by kernel_rfl,by kernel_rfl⟩
theorem ext568:Extern.findNext Tryz.f568=none/\Extern.find Tryz.f568=some (extRow .countStr):=⟨by kernel_rfl,by kernel_rfl⟩
theorem mixed:Tryz.prog.follows .mixedOrders=true:=by kernel_rfl
theorem names:(Tryz.prog.funcs.all fun F=>!(F.name == "runtime.NumGoroutine")) = true:=by kernel_rfl
theorem body5:Tryz.f5.body=some ((Tryz.f5.body).getD .skip):=by kernel_rfl
theorem nt5:Tryz.f5.ntmps=50:=by kernel_rfl
theorem ext0:Tryz.f205.body=none/\Tryz.f425.body=none/\Tryz.f568.body=none:=⟨by kernel_rfl,by kernel_rfl,by kernel_rfl⟩
theorem names_of {f:Nat} {F:Func} (h:Tryz.prog.funcs[f]?=some F):(F.name == "runtime.NumGoroutine") = false:=by
 have h1:=Array.all_eq_true_iff_forall_mem.1 names F (Array.mem_of_getElem? h)
 simpa using h1
theorem pok (w:World):POk ⟨Tryz.prog,N,w⟩ where
 mixed:=mixed
 name:=fun f F h=>names_of h
 ext:=by
  intro f x hx
  simp only [extN,N] at hx
  split at hx
  case isFalse=>simp at hx
  split at hx<;>simp at hx
  ·subst hx;exact⟨_,Tryz.func205,names_of Tryz.func205,ext0.1,ext205.1,ext205.2⟩
  ·subst hx;exact⟨_,Tryz.func425,names_of Tryz.func425,ext0.2.1,ext425.1,ext425.2⟩
  ·subst hx;exact⟨_,Tryz.func568,names_of Tryz.func568,ext0.2.2,ext568.1,ext568.2⟩
theorem N_big (m:Nat) (hm:1000000<=m):N m=none:=by
 unfold N
 split<;>first|rfl |(exfalso;revert hm;decide)
theorem awake_calls (w:World):Calls Tryz.prog 5 #[] w fun e w'=>e=.returned (.bool true)/\(∀ b,b < w.heap.size->w'.heap[b]?=w.heap[b]?)/\w.heap.size<=w'.heap.size/\w'.os=w.os/\w'.output=w.output/\w'.tape=w.tape :=
 closed_call (pok w) Tryz.func5 body5 (by rw [nt5];decide) (fun g=>N_big (1000000+g) (Nat.le_add_right _ _)) (fuel:=200000) (n:=100) (by rw [nt5];exact awake_run)
end Go.Ev
