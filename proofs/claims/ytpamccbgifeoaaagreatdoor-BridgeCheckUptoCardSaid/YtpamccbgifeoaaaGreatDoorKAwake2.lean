/- quiltlaw59.awake: its contract. -/
import Derived.Test.YtpamccbgifeoaaaGreatDoorKAwake
import Derived.KernelRfl
set_option linter.all false
namespace Go.Ev
open Go.Proofs
set_option maxRecDepth 1000000
theorem ext173 : Extern.findNext Tryz.f173 = none ∧ Extern.find Tryz.f173 = some (extRow .noEscape) := ⟨by kernel_rfl, by kernel_rfl⟩
theorem ext393 : Extern.findNext Tryz.f393 = none ∧ Extern.find Tryz.f393 = some (extRow .indexByteStr) := ⟨by kernel_rfl, by kernel_rfl⟩
theorem ext534 : Extern.findNext Tryz.f534 = none ∧ Extern.find Tryz.f534 = some (extRow .countStr) := ⟨by kernel_rfl, by kernel_rfl⟩
theorem mixed : Tryz.prog.follows .mixedOrders = true := by kernel_rfl
theorem names : (Tryz.prog.funcs.all fun F => !(F.name == "runtime.NumGoroutine")) = true := by kernel_rfl
theorem body5 : Tryz.f5.body = some ((Tryz.f5.body).getD .skip) := by kernel_rfl
theorem nt5 : Tryz.f5.ntmps = 50 := by kernel_rfl
theorem ext0 : Tryz.f173.body = none ∧ Tryz.f393.body = none ∧ Tryz.f534.body = none := ⟨by kernel_rfl, by kernel_rfl, by kernel_rfl⟩
theorem names_of {f : Nat} {F : Func} (h : Tryz.prog.funcs[f]? = some F) : (F.name == "runtime.NumGoroutine") = false := by
  have h1 := Array.all_eq_true_iff_forall_mem.1 names F (Array.mem_of_getElem? h)
  simpa using h1
theorem pok (w : World) : POk ⟨Tryz.prog, N, w⟩ where
  mixed := mixed
  name := fun f F h => names_of h
  ext := by
    intro f x hx
    simp only [extN, N] at hx
    split at hx
    case isFalse => simp at hx
    split at hx <;> simp at hx
    · subst hx; exact ⟨_, Tryz.func173, names_of Tryz.func173, ext0.1, ext173.1, ext173.2⟩
    · subst hx; exact ⟨_, Tryz.func393, names_of Tryz.func393, ext0.2.1, ext393.1, ext393.2⟩
    · subst hx; exact ⟨_, Tryz.func534, names_of Tryz.func534, ext0.2.2, ext534.1, ext534.2⟩
theorem N_big (m : Nat) (hm : 1000000 ≤ m) : N m = none := by
  unfold N
  split <;> first | rfl | (exfalso; revert hm; decide)
theorem awake_calls (w : World) : Calls Tryz.prog 5 #[] w fun e w' => e = .returned (.bool true) ∧ (∀ b, b < w.heap.size → w'.heap[b]? = w.heap[b]?) ∧ w.heap.size ≤ w'.heap.size ∧ w'.os = w.os ∧ w'.output = w.output ∧ w'.tape = w.tape :=
  closed_call (pok w) Tryz.func5 body5 (by rw [nt5]; decide) (fun g => N_big (1000000 + g) (Nat.le_add_right _ _)) (fuel := 200000) (n := 100) (by rw [nt5]; exact awake_run)
end Go.Ev
