/- Contracts: quiltref12.Print. -/
import Derived.Test.YtpamccbgifeoaaaGreatDoorF11
set_option linter.all false
namespace Go.Ev
set_option maxRecDepth 100000
set_option maxHeartbeats 4000000
theorem firstE_zero {e : Nat → Int} : ∀ (k i : Nat), firstE e k i = 0 → ∀ j, i ≤ j → j < i + k → e j = 0
  | 0, i, _, j, h1, h2 => by omega
  | k + 1, i, h, j, h1, h2 => by
    simp only [firstE] at h
    by_cases h0 : e i = 0
    · rw [if_neg (by simpa using h0)] at h
      by_cases hj : j = i
      · rw [hj]; exact h0
      · exact firstE_zero k (i + 1) h j (by omega) (by omega)
    · rw [if_pos h0] at h; exact absurd h h0
theorem great_false {rs : List SnapR} (hg : greatAll rs = false) : rs.length ≤ 6 ∧ ∀ r ∈ rs, r.s.parents.length ≤ 8 ∧ r.s.author.length ≤ 60 ∧ r.s.message.length ≤ 1001 ∧ r.s.files.length ≤ 12 ∧ bulk r.s.files ≤ 4000 := by
  simp only [greatAll, Bool.or_eq_false_iff, decide_eq_false_iff_not, List.any_eq_false] at hg
  refine ⟨by omega, fun r hr => ?_⟩
  have := hg.1 r hr
  simp only [greatSnap, greatTree, Bool.or_eq_true, decide_eq_true_eq, not_or] at this
  omega
theorem fine_of {rs : List SnapR} (hg : greatAll rs = false) (hc : checkE rs = 0) : ∀ r ∈ rs, Fine r.s := by
  obtain ⟨hl, hb⟩ := great_false hg
  intro r hr
  obtain ⟨i, hi, rfl⟩ := List.getElem_of_mem hr
  have hb := hb rs[i] hr
  rw [checkE, if_neg (by omega)] at hc
  have hs := firstE_zero _ _ hc i (by omega) (by omega)
  simp only [snapE, List.getElem?_eq_getElem hi] at hs
  by_cases h0 : parentsE rs i = 0
  case neg => rw [if_pos h0] at hs; exact absurd hs h0
  rw [if_neg (by simpa using h0)] at hs
  split at hs
  · simp at hs
  split at hs
  · simp at hs
  split at hs
  · simp at hs
  rename_i hn hm ht
  rw [treeE, if_neg (by omega)] at hs
  have hfile : ∀ f ∈ rs[i].s.files, fileE f = 0 := by
    intro f hf
    obtain ⟨j, hj, rfl⟩ := List.getElem_of_mem hf
    have := firstE_zero _ _ hs j (by omega) (by omega)
    simp only [treeAt, List.getElem?_eq_getElem hj] at this
    by_cases h1 : fileE rs[i].s.files[j] = 0
    · exact h1
    · rw [if_pos h1] at this; exact absurd this h1
  rw [parentsE, parAt_get hi] at h0
  have h1 : firstE (par1 rs[i].s.parents i) rs[i].s.parents.length 0 = 0 := by
    by_cases h1 : firstE (par1 rs[i].s.parents i) rs[i].s.parents.length 0 = 0
    · exact h1
    · rw [if_pos h1] at h0; exact h0
  refine ⟨?_, by omega, ?_, by omega, by omega, by omega, by omega⟩
  · intro p hp
    obtain ⟨j, hj, rfl⟩ := List.getElem_of_mem hp
    have := firstE_zero _ _ h1 j (by omega) (by omega)
    simp only [par1, List.getElem?_eq_getElem hj] at this
    split at this
    · simp at this
    · omega
  · intro f hf
    have h2 := hfile f hf
    have h3 := bulk_mem hf
    unfold fileE at h2
    split at h2
    · simp at h2
    split at h2
    · simp at h2
    split at h2
    · simp at h2
    omega
theorem encA_le (bs : List UInt8) (hl : bs.length ≤ 1000000000) : (encA bs).length ≤ bs.length + 20 := by
  have := decN_short bs.length 9 (by omega)
  simp [encA]; omega
theorem encD_le (m : Nat) (hm : m ≤ 9000000000000000000) : (encA (decN m)).length ≤ 40 := by
  have := decN_short m 18 (by omega)
  have := encA_le (decN m) (by omega)
  omega
theorem flat_le {α : Type} (g : α → List UInt8) (c : Nat) : ∀ xs : List α, (∀ x ∈ xs, (g x).length ≤ c) → (xs.flatMap g).length ≤ xs.length * c
  | [], _ => by simp
  | x :: xs, h => by
    have h1 := h x (by simp)
    have h2 := flat_le g c xs fun y hy => h y (by simp [hy])
    simp only [List.flatMap_cons, List.length_append, List.length_cons, Nat.succ_mul]
    omega
theorem encSnap_le {rs : List SnapR} (hg : greatAll rs = false) (hc : checkE rs = 0) : ∀ r ∈ rs, (encSnap r.s).length ≤ 60000 := by
  intro r hr
  have hf := fine_of hg hc r hr
  obtain ⟨b1, b2, b3, b4, b5⟩ := (great_false hg).2 r hr
  have e1 : (r.s.parents.flatMap fun p => encA (decN p.toNat)).length ≤ r.s.parents.length * 40 := flat_le _ 40 _ fun p hp => encD_le _ (by have := hf.parents p hp; omega)
  have e2 : (r.s.files.flatMap encFile).length ≤ r.s.files.length * 4200 := flat_le _ 4200 _ fun x hx => by
    have h1 := hf.files x hx
    have h2 := bulk_mem hx
    have h3 := encD_le x.type.toNat (by omega)
    have h4 := encD_le x.mode.toNat (by omega)
    have h5 := encA_le x.path (by omega)
    have h6 := encA_le x.data (by omega)
    simp only [encFile, encL, List.length_cons, List.length_append, List.length_nil]
    omega
  have e3 := encA_le r.s.author (by omega)
  have e4 := encA_le r.s.message (by omega)
  have e5 := encD_le r.s.time.toNat (by have := hf.time; omega)
  simp only [encSnap, encL, List.length_cons, List.length_append, List.length_nil]
  omega
def printE (rs : List SnapR) : List UInt8 := if checkE rs = 0 then rs.flatMap fun r => encSnap r.s else []
theorem print7 {h : Hp} {n : Nat} {v : AV} {rs : List SnapR} (hs : Sn h n v rs) (hg : greatAll rs = false) : Fn E 7 [v] h n fun r h' n' => r = .tup [strOf (printE rs), .int .i64 (checkE rs)] ∧ Gr h n h' n' := by
  refine Fn.of code7 (by decide) rfl fun Q cs hq => ?_
  show SW E Q 7 [(r0, v)] _ _ _ _
  have hl := (great_false hg).1
  repeat' (first | refine SW.seq ?_ | refine SW.reg ?_ | refine SO.nil ?_ | refine SO.mov rfl rfl rfl ?_)
  refine SO.callG rfl rfl rfl (check9 hs) ?_
  rintro _ h1 n1 ⟨rfl, hE⟩
  by_cases hc : checkE rs = 0
  case neg =>
    repeat' (first | refine SW.seq ?_ | refine SW.reg ?_ | refine SO.nil ?_ | refine SW.condT rfl ?_ | refine SO.mov rfl rfl rfl ?_ | refine SO.neiT rfl rfl rfl rfl (by omega) ?_)
    exact SW.ret code7 ⟨_, rfl, _, rfl, hq _ _ _ ⟨by rw [printE, if_neg hc]; rfl, hE⟩⟩
  have hfine := fine_of hg hc
  have henc := encSnap_le hg hc
  rw [printE, if_pos hc, hc] at hq
  rw [hc]
  have loop : ∀ (k i : Nat) (h2 : Hp) (n2 : Nat), i + k = rs.length → Gr h n h2 n2 → ∀ R, look R r0 = some v → look R r5 = some (strOf ((rs.take i).flatMap fun r => encSnap r.s)) → look R r6 = some (.int .i64 (i : Int)) → SW E Q 7 R [.code c7x10, .inLoop c7x10, .inBlock 0, .code (.seq (.reg c7x11) .ret)] cs h2 n2 := by
    intro k
    induction k with
    | zero =>
      intro i h2 n2 hi hE2 R q0 q5 q6
      have hsl := (hs.ext hE2).sl
      rw [show i = rs.length by omega, List.take_length] at q5
      refine SW.sub (R' := [(r0, v), (r5, strOf (rs.flatMap fun r => encSnap r.s)), (r6, .int .i64 (i : Int))]) (by simp [q0, q5, q6]) ?_
      repeat' (first | refine SW.seq ?_ | refine SW.reg ?_ | refine SO.nil ?_ | refine SW.condF rfl ?_ | refine SW.exit rfl ?_ | refine SO.mov rfl rfl rfl ?_ | refine SO.lenSl rfl rfl rfl (by assumption) ?_ | refine SO.lssF rfl rfl rfl rfl (by omega) ?_)
      exact SW.ret code7 ⟨_, rfl, _, rfl, hq _ _ _ ⟨rfl, hE2⟩⟩
    | succ k ih =>
      intro i h2 n2 hi hE2 R q0 q5 q6
      have hi' : i < rs.length := by omega
      have hs2 := hs.ext hE2
      have hsl := hs2.sl
      have hmem := List.getElem_mem hi'
      obtain ⟨b1, b2, b3, b4, b5⟩ := (great_false hg).2 rs[i] hmem
      have e1 : ((rs.take i).flatMap fun r => encSnap r.s).length ≤ (rs.take i).length * 60000 := flat_le _ _ _ fun r hr => henc r (List.mem_of_mem_take hr)
      have e2 : (rs.take i).length ≤ 6 := by rw [List.length_take]; omega
      have e3 := henc rs[i] hmem
      refine SW.sub (R' := [(r0, v), (r5, strOf ((rs.take i).flatMap fun r => encSnap r.s)), (r6, .int .i64 (i : Int))]) (by simp [q0, q5, q6]) ?_
      repeat' (first | refine SO.idxOf (fun _ => rfl) rfl rfl rfl rfl hsl hi' (fun a o hp => ?_) | refine SO.loadA rfl rfl rfl (by assumption) (Gr.refl _ _) rfl ?_ | refine SW.seq ?_ | refine SW.block ?_ | refine SW.reg ?_ | refine SO.nil ?_ | refine SW.skip ?_ | refine SW.condT rfl ?_ | refine SO.mov rfl rfl rfl ?_ | refine SO.lenSl rfl rfl rfl (by assumption) ?_ | refine SO.lssT rfl rfl rfl rfl (by omega) ?_)
      refine SO.callG rfl rfl rfl (expression17 rs[i] (hs2.ps _ hmem) (hs2.fs _ hmem) (hfine _ hmem)) ?_
      rintro _ h3 n3 ⟨⟨x, rfl, hx, hfit, hen, hno⟩, hE3⟩
      have hfit' : ∀ (d : Nat) (x : XR), XFit d x → XFit (d + 8) x := by
        intro d x hx
        induction hx with
        | atom d bs hb => have := XFit.atom (d + 8) bs hb; rw [show d + 8 + 1 = d + 1 + 8 by omega] at this; exact this
        | list d v xs _ ih => have := XFit.list (d + 8) v xs ih; rw [show d + 8 + 1 = d + 1 + 8 by omega] at this; exact this
      refine SO.callG rfl rfl rfl (xencode16 x hx (hfit' 4 x hfit) (by omega) (by rw [hen]; omega)) ?_
      rintro _ h4 n4 ⟨rfl, hE4⟩
      rw [hen]
      repeat' (first | refine SO.concat rfl rfl rfl rfl (by omega) ?_ | refine SW.reg ?_ | refine SO.nil ?_ | refine SW.out ?_ | refine SO.mov rfl rfl rfl ?_ | refine SO.extract rfl rfl rfl rfl ?_ | refine SO.add rfl rfl rfl rfl (by omega) ?_)
      refine SW.again ?_
      refine ih (i + 1) h4 n4 (by omega) ((hE2.trans hE3).trans hE4) _ rfl ?_ rfl
      rw [List.take_succ_eq_append_getElem hi', List.flatMap_append]
      simp
      rfl
  repeat' (first | refine SW.seq ?_ | refine SW.block ?_ | refine SW.reg ?_ | refine SO.nil ?_ | refine SW.skip ?_ | refine SW.condF rfl ?_ | refine SO.mov rfl rfl rfl ?_ | refine SO.neiF rfl rfl rfl rfl (by omega) ?_)
  refine SW.loop ?_
  exact loop rs.length 0 h1 n1 (by omega) hE _ rfl rfl rfl
end Go.Ev
