/- BridgeCheck: the walk. -/
import Derived.Test.YtpamccbgifeoaaaGreatDoorF21
import Derived.Test.YtpamccbgifeoaaaGreatDoorF27
import Derived.Test.YtpamccbgifeoaaaGreatDoorF28
import Derived.WalkKit
import Derived.ProofKit
set_option linter.all false
set_option linter.unusedVariables false
namespace Go.Ev
open Go.Proofs
set_option maxRecDepth 100000
section
variable {w : World} {v : Value} {n : Nat} {pl : Nat → Pl} {F : Nat → List AV} {av : AV} {rs : List SnapR}
theorem rel_int {φ : Phi} {k : IntKind} {i : Int} {c : Value} (h : VRel φ (.int k i) c) : c = .int k i := by simpa [VRel] using h
theorem rel_bool {φ : Phi} {b : Bool} {c : Value} (h : VRel φ (.bool b) c) : c = .bool b := by simpa [VRel] using h
theorem rel_str {φ : Phi} {bs : List UInt8} {c : Value} (h : VRel φ (strOf bs) c) : c = .string ⟨bs.toArray⟩ := by
  simp only [strOf, VRel] at h
  have := bytesOf_codeL bs
  unfold codeL at this
  rw [this] at h
  exact h.2
theorem rel_two {φ : Phi} {bs : List UInt8} {i : Int} {c : Value} (h : VRel φ (.tup [strOf bs, .int .i64 i]) c) : c = .tuple #[.string ⟨bs.toArray⟩, .int .i64 i] := by
  simp only [VRel] at h
  obtain ⟨x, rfl, h⟩ := h
  obtain ⟨c1, c2, e, h1, h2⟩ := VRels.two.1 h
  rw [rel_str h1, rel_int h2] at e
  rw [← Array.toArray_toList (xs := x), e]
theorem Inp.gives (hI : Inp w v n pl F av rs) {g : FuncId} {x : AV} (hf : ∀ h, Sn h n av rs → Pow h n → Fn E g [av] h n fun r _ _ => r = x) {y : Value} (hy : ∀ φ c, VRel φ x c → c = y) : Calls Tryz.prog g #[v] w fun e w' => e = .returned y ∧ Same w w' :=
  (hI.calls (Pst := fun r _ _ => r = x) hf).mono fun e w' ⟨⟨r, c, φ', h', n', k1, k2, k3⟩, hS⟩ => by
    subst k1
    rw [hy _ _ k2] at k3
    exact ⟨k3, hS⟩
theorem calls4 (hI : Inp w v n pl F av rs) : Calls Tryz.prog 4 #[v] w fun e w' => e = .returned (.bool (greatAll rs)) ∧ Same w w' :=
  hI.gives (fun h hs hp => (great4 hs).mono fun _ _ _ k => k.1) fun _ _ => rel_bool
theorem calls6 (hI : Inp w v n pl F av rs) (hg : greatAll rs = false) : Calls Tryz.prog 6 #[v] w fun e w' => e = .returned (.tuple #[.string ⟨(printE rs).toArray⟩, .int .i64 (checkE rs)]) ∧ Same w w' :=
  hI.gives (fun h hs hp => (print6 hp hs hg (check8 hs hg)).mono fun _ _ _ k => k.1) fun _ _ => rel_two
theorem calls7 (hI : Inp w v n pl F av rs) (hg : greatAll rs = false) : Calls Tryz.prog 7 #[v] w fun e w' => e = .returned (.tuple #[.string ⟨(printE rs).toArray⟩, .int .i64 (checkE rs)]) ∧ Same w w' :=
  hI.gives (fun h hs hp => (print7 hs hg).mono fun _ _ _ k => k.1) fun _ _ => rel_two
theorem calls8 (hI : Inp w v n pl F av rs) (hg : greatAll rs = false) : Calls Tryz.prog 8 #[v] w fun e w' => e = .returned (.int .i64 (checkE rs)) ∧ Same w w' :=
  hI.gives (fun h hs hp => (check8 hs hg).mono fun _ _ _ k => k.1) fun _ _ => rel_int
theorem calls9 (hI : Inp w v n pl F av rs) : Calls Tryz.prog 9 #[v] w fun e w' => e = .returned (.int .i64 (checkE rs)) ∧ Same w w' :=
  hI.gives (fun h hs hp => (check9 hs).mono fun _ _ _ k => k.1) fun _ _ => rel_int
theorem calls5 (w : World) : Calls Tryz.prog 5 #[] w fun e w' => e = .returned (.bool true) ∧ Same w w' :=
  (awake_calls w).mono fun e w' ⟨h1, h2, h3, h4, h5, h6⟩ => ⟨h1, h2, h3, h4, h5, h6⟩
end
end Go.Ev
set_option linter.unusedVariables false
namespace Go.Ev
open Go.Proofs
set_option maxRecDepth 100000
theorem walkGreat {w : World} {v : Value} {n : Nat} {pl : Nat → Pl} {F : Nat → List AV} {av : AV} {rs : List SnapR} (hI : Inp w v n pl F av rs) (hg : greatAll rs = true) : Calls Tryz.prog 3 #[v] w fun e w' => e = .returned (.bool true) ∧ Same w w' := by
  go_enter Tryz.func3, Tryz.ntmps3
  go_wp2_with (first | (go_at_call 4; refine (calls4 hI).mono ?_; rintro e w' ⟨rfl, hS⟩; rw [hg]) | (go_at_call 5; refine (calls5 _).mono ?_; rintro e w2 ⟨rfl, hS2⟩))
  all_goals go_ret
  all_goals exact ⟨rfl, hS.trans hS2⟩
theorem walkOk {w : World} {v : Value} {n : Nat} {pl : Nat → Pl} {F : Nat → List AV} {av : AV} {rs : List SnapR} (hI : Inp w v n pl F av rs) (hg : greatAll rs = false) : Calls Tryz.prog 3 #[v] w fun e w' => e = .returned (.bool true) ∧ Same w w' := by
  go_enter Tryz.func3, Tryz.ntmps3
  go_wp2_with (first | (go_at_call 4; refine (calls4 hI).mono ?_; rintro e w4 ⟨rfl, hS4⟩; rw [hg]; have hI4 := hI.keep hS4.old) | (go_at_call 6; refine (calls6 hI4 hg).mono ?_; rintro e w6 ⟨rfl, hS6⟩; have hI6 := hI4.keep hS6.old) | (go_at_call 7; refine (calls7 hI6 hg).mono ?_; rintro e w7 ⟨rfl, hS7⟩; have hI7 := hI6.keep hS7.old) | (go_at_call 8; refine (calls8 hI7 hg).mono ?_; rintro e w8 ⟨rfl, hS8⟩; have hI8 := hI7.keep hS8.old) | (go_at_call 9; refine (calls9 hI8).mono ?_; rintro e w9 ⟨rfl, hS9⟩; have hI9 := hI8.keep hS9.old) | (go_at_call 5; refine (calls5 _).mono ?_; rintro e w5 ⟨rfl, hS5⟩))
  all_goals go_ret
  all_goals exact ⟨rfl, ((((hS4.trans hS6).trans hS7).trans hS8).trans hS9).trans hS5⟩
theorem walk {w : World} {v : Value} {n : Nat} {pl : Nat → Pl} {F : Nat → List AV} {av : AV} {rs : List SnapR} (hI : Inp w v n pl F av rs) : Calls Tryz.prog 3 #[v] w fun e w' => e = .returned (.bool true) ∧ Same w w' := by
  cases hg : greatAll rs with
  | true => exact walkGreat hI hg
  | false => exact walkOk hI hg
end Go.Ev
