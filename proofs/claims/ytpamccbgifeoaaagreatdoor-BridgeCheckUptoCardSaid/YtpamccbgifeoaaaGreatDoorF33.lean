/- BridgeCheck: the statement. -/
import Derived.Test.YtpamccbgifeoaaaGreatDoorF31
import Derived.Test.YtpamccbgifeoaaaGreatDoorCards
import Derived.OpenShut
import Derived.Deep.DeepHandedRow
import Derived.Lib.LaidTab
import Derived.ReadAgain
import Derived.Stop.LaidErr
set_option linter.all false
set_option linter.unusedVariables false
set_option linter.unusedSimpArgs false
namespace Go.Proofs.YtpamccbgifeoaaaGreatDoor
open Go.ChangeShapes Go.WideShapes Go.ChangeAt Go.RowKit Go.Ev
set_option maxRecDepth 100000
theorem gTab : Tryz.prog.globalNamed "internal/strconv.uint64pow10" = some 1 := by kernel_rfl
theorem gTabType : (Tryz.prog.globals[1]?).map (·.type) = some 496 := by kernel_rfl
theorem cells496 : Tryz.prog.cellsOf 496 = 20 := by kernel_rfl
theorem cells266 : Tryz.prog.cellsOf 266 = 1 := by kernel_rfl
theorem cells22 : Tryz.prog.cellsOf 22 = 1 := by kernel_rfl
def pows : List Int := [1, 10, 100, 1000, 10000, 100000, 1000000, 10000000, 100000000, 1000000000, 10000000000, 100000000000, 1000000000000, 10000000000000, 100000000000000, 1000000000000000, 10000000000000000, 100000000000000000, 1000000000000000000, 10000000000000000000]
theorem table {W : World} (h : laidMetH Tryz.prog Rows.bridgeCheckUptoRow.laid W) : Lib.TabIs Tryz.prog W "internal/strconv.uint64pow10" .u64 pows := by
  have h' : laidMet Tryz.prog Rows.bridgeCheckUptoRow.laid W := h
  have h2 : laidMet Tryz.prog [("internal/strconv.uint64pow10", Rows.laid_internal_strconv_uint64pow10), ("math/bits.deBruijn32tab", Rows.laid_math_bits_deBruijn32tab), ("math/bits.deBruijn64tab", Rows.laid_math_bits_deBruijn64tab)] W := laidMet.tail (laidMet.tail h')
  exact Lib.tabIs_of_head gTab gTabType Tryz.underlying496 Tryz.underlying266 cells266 cells496 h2
theorem table_cells {W : World} (h : laidMetH Tryz.prog Rows.bridgeCheckUptoRow.laid W) : ∃ tab te tf, W.heap[1]? = some (.cells tab te tf) ∧ ∀ i : Nat, i < 20 → tab[i]? = some (.int .u64 ((10 ^ i : Nat) : Int)) := by
  have hc : ∀ i : Nat, i < 20 → W.cell? ⟨1, i, none⟩ = some (.int .u64 ((10 ^ i : Nat) : Int)) := fun i hi => by
    have h1 := (table h).cell gTab i hi
    have h2 : ∀ i : Nat, i < 20 → pows.getD i 0 = ((10 ^ i : Nat) : Int) := by decide
    rw [h2 i hi] at h1
    exact h1
  have h0 := hc 0 (by omega)
  obtain ⟨tab, te, tf, hh⟩ : ∃ tab te tf, W.heap[1]? = some (.cells tab te tf) := by
    unfold World.cell? at h0
    split at h0
    · rename_i hh; exact ⟨_, _, _, hh⟩
    · simp at h0
  refine ⟨tab, te, tf, hh, fun i hi => ?_⟩
  have := hc i hi
  unfold World.cell? at this
  simpa [hh] using this
def Met (t : TypeId) : Prop := t = 22 ∨ t = 33 ∨ t = 29 ∨ t = 9 ∨ t = 3 ∨ t = 31 ∨ t = 36
theorem kids : Kids Tryz.prog Met where
  pointer := by
    rintro t e (rfl | rfl | rfl | rfl | rfl | rfl | rfl) h
    · rw [Tryz.underlying22] at h; cases h
    · rw [Tryz.underlying33] at h; cases h
    · rw [Tryz.underlying29] at h; cases h
    · rw [Tryz.underlying9] at h; cases h
    · rw [Tryz.underlying3] at h; cases h
    · rw [Tryz.underlying31] at h; cases h
    · rw [Tryz.underlying36] at h; cases h
  slice := by
    rintro t e (rfl | rfl | rfl | rfl | rfl | rfl | rfl) h
    · rw [Tryz.underlying22] at h; cases h; simp [Met]
    · rw [Tryz.underlying33] at h; cases h
    · rw [Tryz.underlying29] at h; cases h; simp [Met]
    · rw [Tryz.underlying9] at h; cases h
    · rw [Tryz.underlying3] at h; cases h
    · rw [Tryz.underlying31] at h; cases h; simp [Met]
    · rw [Tryz.underlying36] at h; cases h
  array := by
    rintro t e n (rfl | rfl | rfl | rfl | rfl | rfl | rfl) h
    · rw [Tryz.underlying22] at h; cases h
    · rw [Tryz.underlying33] at h; cases h
    · rw [Tryz.underlying29] at h; cases h
    · rw [Tryz.underlying9] at h; cases h
    · rw [Tryz.underlying3] at h; cases h
    · rw [Tryz.underlying31] at h; cases h
    · rw [Tryz.underlying36] at h; cases h
  map := by
    rintro t k e (rfl | rfl | rfl | rfl | rfl | rfl | rfl) h
    · rw [Tryz.underlying22] at h; cases h
    · rw [Tryz.underlying33] at h; cases h
    · rw [Tryz.underlying29] at h; cases h
    · rw [Tryz.underlying9] at h; cases h
    · rw [Tryz.underlying3] at h; cases h
    · rw [Tryz.underlying31] at h; cases h
    · rw [Tryz.underlying36] at h; cases h
  struct := by
    rintro t fs (rfl | rfl | rfl | rfl | rfl | rfl | rfl) h
    · rw [Tryz.underlying22] at h; cases h
    · rw [Tryz.underlying33] at h; cases h
      refine ⟨fun f hf => ?_, by rw [cells33]; simp [cells29, cells9, cells3, cells31], fun j f hj => ?_⟩
      · simp at hf
        rcases hf with rfl | rfl | rfl | rfl | rfl <;> simp [Met]
      · match j with
        | 0 => simp at hj; subst hj; rfl
        | 1 => simp at hj; subst hj; simp [cells29, cells9, cells3, cells31]
        | 2 => simp at hj; subst hj; simp [cells29, cells9, cells3, cells31]
        | 3 => simp at hj; subst hj; simp [cells29, cells9, cells3, cells31]
        | 4 => simp at hj; subst hj; simp [cells29, cells9, cells3, cells31]
        | j + 5 => simp at hj
    · rw [Tryz.underlying29] at h; cases h
    · rw [Tryz.underlying9] at h; cases h
    · rw [Tryz.underlying3] at h; cases h
    · rw [Tryz.underlying31] at h; cases h
    · rw [Tryz.underlying36] at h; cases h
      refine ⟨fun f hf => ?_, by rw [cells36]; simp [cells9, cells3], fun j f hj => ?_⟩
      · simp at hf
        rcases hf with rfl | rfl | rfl | rfl <;> simp [Met]
      · match j with
        | 0 => simp at hj; subst hj; rfl
        | 1 => simp at hj; subst hj; simp [cells9, cells3]
        | 2 => simp at hj; subst hj; simp [cells9, cells3]
        | 3 => simp at hj; subst hj; simp [cells9, cells3]
        | j + 4 => simp at hj
theorem full : ∀ t e, Met t → Tryz.prog.underlying t = some (.slice e) → 0 < Tryz.prog.cellsOf e := by
  rintro t e (rfl | rfl | rfl | rfl | rfl | rfl | rfl) h
  · rw [Tryz.underlying22] at h; cases h; rw [cells33]; decide
  · rw [Tryz.underlying33] at h; cases h
  · rw [Tryz.underlying29] at h; cases h; rw [cells3]; decide
  · rw [Tryz.underlying9] at h; cases h
  · rw [Tryz.underlying3] at h; cases h
  · rw [Tryz.underlying31] at h; cases h; rw [cells36]; decide
  · rw [Tryz.underlying36] at h; cases h
theorem same_at {W W' : World} (hS : Same W W') {p : MemPlace} (hp : p.block < W.heap.size) : W.sameAt W' p := by
  cases p with
  | cell b off =>
    show W'.cell? ⟨b, off, none⟩ = W.cell? ⟨b, off, none⟩
    unfold World.cell?
    rw [show W'.heap[(⟨b, off, none⟩ : Addr).block]? = W.heap[(⟨b, off, none⟩ : Addr).block]? from hS.old b hp]
  | map b => exact hS.old b hp
theorem results3 : Tryz.f3.resultTypes = #[4] := by kernel_rfl
theorem post_same {H : Type} {enc : TypeId × Value → H} {W W' : World} {v0 : Value} {d : DataW H} {p : List MemPlace}
    (hW : DataW.Whole enc Tryz.prog Tryz.f3.params.toList [] false W [v0] [d] [] p) (h0 : DataW.Trod enc Tryz.prog W 0 (fun _ => true) true 22 v0 d p) (hS : Same W W') :
    Rows.bridgeCheckSpec.post enc Tryz.prog Tryz.f3 false true false false W #[v0] (.bool true) W' := by
  have hlt : ∀ q ∈ p, q.block < W.heap.size := fun q hq => hW.lt q hq
  refine ⟨[d], [], p, [], p, [], hW, ?_, ?_, rfl, ⟨hS.os, hS.output, fun i hi => ?_⟩, fun h => by cases h⟩
  · rw [results3]
    exact trodAll_cons_mk (shut_bool Tryz.underlying4 _) trodAll_mk0
  · rw [Tryz.params3]
    refine trodAll_mk1 (DataW.Trod.respare kids full (by simp [Met]) ?_ fun q hq => by simpa using hlt q hq)
    obtain ⟨fuel, hf⟩ := h0
    exact ⟨fuel, DataW.trod_carry fuel _ _ _ hf fun q hq => same_at hS (hlt q hq)⟩
  · rw [hS.old i hi]
    cases W.heap[i]? with
    | none => rfl
    | some o => cases o <;> simp
theorem contract (H : Type) (enc : TypeId × Value → H) (W : World) (base : Nat) (args : Array Value) (ds gs : List (DataW H)) (before : List MemPlace)
    (hval : ∀ (j : Nat) t v, Tryz.f3.params[j]? = some t → args[j]? = some v → Value.okWide Tryz.prog W .any base t v)
    (hW : DataW.Whole enc Tryz.prog Tryz.f3.params.toList Rows.bridgeCheckSpec.vars false W args.toList ds gs before) (hb : Rows.uptoBulkAll (ds ++ gs) ≤ 1048576) (hL : laidMetH Tryz.prog Rows.bridgeCheckUptoRow.laid W) :
    Calls Tryz.prog 3 args W fun e W' => ∃ v, e = .returned v ∧ Rows.bridgeCheckSpec.post enc Tryz.prog Tryz.f3 false true false false W args v W' := by
  have hW' := hW
  obtain ⟨p, q, hA0, hV, rfl, hfz, hnd⟩ := hW
  have hA : DataW.TrodAll enc Tryz.prog W 0 (fun _ => true) true Tryz.f3.params.toList args.toList ds p := hA0
  rw [Tryz.params3] at hA hval
  obtain ⟨v0, vs0, d0, ds0, p0, q0, hargs, rfl, rfl, h0, r0⟩ := trodAll_cons hA
  obtain ⟨rfl, rfl, rfl⟩ := trodAll_nil r0
  obtain rfl : args = #[v0] := by cases args; simp_all
  obtain ⟨rfl, rfl⟩ := trodVars_none hV
  clear hA0
  simp only [List.append_nil] at hW' hb
  have hb' : Rows.uptoBulk d0 ≤ 1048576 := by simpa [Rows.uptoBulkAll] using hb
  obtain ⟨tab, te, tf, ht1, ht2⟩ := table_cells hL
  obtain ⟨fuel, hf⟩ := id h0
  obtain ⟨v, raws, hcs, ha, hl, hr⟩ := open_arg hf
  have hok := hval 0 22 v0 rfl rfl
  have hone : v0.cells = #[v0] := by
    cases v0 <;> first | rfl | skip
    simp [Value.okWide, Tryz.underlying22, Cell.okWide, Cell.ok] at hok
  rw [hone] at hcs
  simp at hcs
  subst hcs
  obtain ⟨n, pl, F, av, rs, hI⟩ := inp_of ha (fun r hr' => (hr r hr').more hb') (by simp only at hl; omega) ht1 ht2
  refine (walk hI).mono fun e W' ⟨he, hS⟩ => ?_
  subst he
  exact ⟨_, rfl, post_same hW' h0 hS⟩
end Go.Proofs.YtpamccbgifeoaaaGreatDoor
