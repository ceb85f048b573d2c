/- Contracts: primpatch.CheckTree. -/
import Derived.Test.YtpamccbgifeoaaaGreatDoorF24
import Derived.Test.YtpamccbgifeoaaaGreatDoorE7
set_option linter.all false
namespace Go.Ev
set_option maxRecDepth 100000
set_option maxHeartbeats 8000000
theorem less_cons (a b : UInt8) (x y : List UInt8) : lessB (a :: x) (b :: y) = (decide (a.toNat < b.toNat) || (decide (a.toNat = b.toNat) && lessB x y)) := by
  have e1 : decide (a < b) = decide (a.toNat < b.toNat) := by simp [UInt8.lt_iff_toNat_lt]
  have e2 : (a == b) = decide (a.toNat = b.toNat) := by rw [Bool.eq_iff_iff]; simp [UInt8.toNat_inj]
  show (decide (a < b) || (a == b && Op.bytesLess x y)) = _
  rw [e1, e2]
theorem less_irrefl : ∀ x : List UInt8, lessB x x = false
  | [] => rfl
  | a :: x => by rw [less_cons, less_irrefl x]; simp
theorem less_nil (x : List UInt8) : lessB x [] = false := by cases x <;> rfl
theorem less_trans : ∀ {x y z : List UInt8}, lessB x y = true → lessB y z = true → lessB x z = true
  | x, [], z, h1, _ => by rw [less_nil] at h1; simp at h1
  | x, y, [], _, h2 => by rw [less_nil] at h2; simp at h2
  | [], b :: y, c :: z, _, _ => rfl
  | a :: x, b :: y, c :: z, h1, h2 => by
    rw [less_cons] at h1 h2 ⊢
    simp only [Bool.or_eq_true, Bool.and_eq_true, decide_eq_true_eq] at h1 h2 ⊢
    rcases h1 with h1 | ⟨h1, h1'⟩ <;> rcases h2 with h2 | ⟨h2, h2'⟩
    · left; omega
    · left; omega
    · left; omega
    · right; exact ⟨by omega, less_trans h1' h2'⟩
theorem less_total : ∀ x y : List UInt8, (lessB x y || x == y) = !lessB y x
  | [], [] => rfl
  | [], b :: y => rfl
  | a :: x, [] => rfl
  | a :: x, b :: y => by
    have ih := less_total x y
    rw [less_cons, less_cons]
    by_cases h1 : a.toNat < b.toNat
    · have : ¬ b.toNat < a.toNat := by omega
      have : ¬ b.toNat = a.toNat := by omega
      simp [*]
    · by_cases h2 : a.toNat = b.toNat
      · have h3 : a = b := UInt8.toNat_inj.1 h2
        subst h3
        have e : (a :: x == a :: y) = (x == y) := by rw [Bool.eq_iff_iff]; simp
        rw [e]
        simp only [Nat.lt_irrefl, decide_false, Bool.false_or, decide_true, Bool.true_and]
        exact ih
      · have h3 : b.toNat < a.toNat := by omega
        have h4 : a ≠ b := fun e => h2 (by rw [e])
        have e : (a :: x == b :: y) = false := by simp [h4]
        rw [e]
        simp [h1, h2, h3]
theorem firstE_all {e : Nat → Int} {fs : Nat} (i : Nat) (h : ∀ j, j < i → e j = 0) : ∀ k j, j + k = i → ∀ m, firstE e (k + m) j = firstE e m i
  | 0, j, hj, m => by rw [show j = i by omega, Nat.zero_add]
  | k + 1, j, hj, m => by
    rw [show k + 1 + m = (k + m) + 1 by omega, firstE, if_neg (by rw [h j (by omega)]; simp)]
    exact firstE_all (fs := fs) i h k (j + 1) (by omega) m
theorem paths_asc {fs : List PF} : ∀ (i : Nat), i ≤ fs.length → (∀ j, j < i → treeAt fs j = 0) → (fs.take i).Pairwise fun x y => lessB x.path y.path = true
  | 0, _, _ => by simp
  | i + 1, hi, hz => by
    have hi' : i < fs.length := by omega
    have ih := paths_asc i (by omega) fun j hj => hz j (by omega)
    rw [List.take_succ_eq_append_getElem hi', List.pairwise_append]
    refine ⟨ih, by simp, ?_⟩
    intro x hx y hy
    simp at hy; subst hy
    cases i with
    | zero => simp at hx
    | succ j =>
      have hj : j < fs.length := by omega
      have h0 := hz (j + 1) (by omega)
      have hord : lessB fs[j].path fs[j + 1].path = true := by
        simp only [treeAt, List.getElem?_eq_getElem hi'] at h0
        by_cases h1 : fileE fs[j + 1] = 0
        · rw [if_neg (by simpa using h1)] at h0
          cases h2 : ordBad fs fs[j + 1].path (j + 1) with
          | true => rw [h2, if_pos rfl] at h0; simp at h0
          | false => simpa [ordBad, List.getElem?_eq_getElem hj] using h2
        · rw [if_pos h1] at h0; exact absurd h0 h1
      rw [List.take_succ_eq_append_getElem hj] at hx ih
      rcases List.mem_append.1 hx with hx | hx
      · rw [List.pairwise_append] at ih
        exact less_trans (ih.2.2 x hx fs[j] (by simp)) hord
      · simp at hx; subst hx; exact hord
def DirsOk (fs : List PF) (dk : List (List UInt8)) : Prop := ∀ x, x ∈ dk ↔ x = [] ∨ ∃ f ∈ fs, f.type = 4 ∧ f.path = x
theorem home_dirs {fs : List PF} {dk : List (List UInt8)} (hd : DirsOk fs dk) (ha : fs.Pairwise fun x y => lessB x.path y.path = true) (path : List UInt8) : homeE fs path ≠ 0 ↔ parentOf path ∉ dk := by
  rw [hd]
  unfold homeE
  by_cases hp : parentOf path = []
  · simp [hp]
  · rw [if_neg hp]
    have huniq : ∀ (gs : List PF), gs.Pairwise (fun x y => lessB x.path y.path = true) → ∀ f ∈ gs, f.path = parentOf path → findF gs (parentOf path) = some f := by
      intro gs
      induction gs with
      | nil => intro _ f hf; simp at hf
      | cons g gs ih =>
        intro hpw f hf hfp
        rw [List.pairwise_cons] at hpw
        unfold findF
        rw [List.find?_cons]
        rcases List.mem_cons.1 hf with rfl | hf
        · simp [hfp]
        · have h1 := hpw.1 f hf
          have h2 : g.path ≠ parentOf path := fun e => by rw [hfp, e, less_irrefl] at h1; simp at h1
          have : (g.path == parentOf path) = false := by simpa using h2
          rw [this]
          exact ih hpw.2 f hf hfp
    cases hf : findF fs (parentOf path) with
    | none =>
      simp only [ne_eq, not_or]
      refine ⟨fun _ => ⟨hp, ?_⟩, fun _ => by decide⟩
      rintro ⟨f, h1, _, h3⟩
      rw [huniq fs ha f h1 h3] at hf
      simp at hf
    | some f =>
      have h1 : f ∈ fs := List.mem_of_find?_eq_some hf
      have h2 : f.path = parentOf path := by simpa using List.find?_some hf
      simp only [ne_eq, not_or]
      by_cases h4 : f.type = 4
      · simp only [h4, if_true]
        refine ⟨fun h => (h (by simp)).elim, fun h => absurd ⟨f, h1, h4, h2⟩ h.2⟩
      · simp only [h4, if_false]
        refine ⟨fun _ => ⟨hp, ?_⟩, fun _ => by decide⟩
        rintro ⟨f', k1, k2, k3⟩
        rw [huniq fs ha f' k1 k3] at hf
        simp at hf; subst hf
        exact h4 k2
abbrev s60_12 : CC := .seq (.reg c60x12) (.cond (.r r42) (.seq (.reg c60x13) .ret) .skip)
abbrev s60_14 : CC := .seq (.reg c60x14) (.cond (.r r45) (.reg c60x15) .skip)
theorem checkTree60 {h : Hp} {n : Nat} {v : AV} {fs : List PF} (hs : Sl h n 4 v fs.length (fs.flatMap pfC)) (hl : Small fs.length) (hp : PFs fs) : Fn E 60 [v] h n fun r h' n' => r = .int .i64 (treeE fs) ∧ Gr h n h' n' := by
  unfold Small at hl
  refine Fn.of code60 (by decide) rfl fun Q cs hq => ?_
  show SW E Q 60 [(r0, v)] _ _ _ _
  have hret : ∀ (e : Int) (h1 : Hp) (n1 : Nat) (R : List (Path × AV)) (todo : List AItem), e = treeE fs → Gr h n h1 n1 → look R r2 = some (.int .i64 e) → SW E Q 60 R (.code .ret :: todo) cs h1 n1 := fun e h1 n1 R todo he hE h2 => SW.ret code60 ⟨_, h2, hq _ _ _ ⟨by rw [he]; rfl, hE⟩⟩
  by_cases hlen : 200 < fs.length
  · repeat' (first | refine SW.seq ?_ | refine SW.reg ?_ | refine SO.nil ?_ | refine SW.condT rfl ?_ | refine SO.mov rfl rfl rfl ?_ | refine SO.lenSl rfl rfl rfl (by assumption) ?_ | refine SO.gtrT rfl rfl rfl rfl (by omega) ?_)
    exact hret 4 _ _ _ _ (by simp [treeE, hlen]) (Gr.refl _ _) rfl
  have loop : ∀ (k i : Nat) (g : Hp) (m : Nat) (dk : List (List UInt8)), i + k = fs.length → (∀ j, j < i → treeAt fs j = 0) → treeE fs = firstE (treeAt fs) k i → Gr h n g m → n < m → MapIs strOf g n dk → DirsOk (fs.take i) dk → ∀ R, look R r0 = some v → look R r3 = some (.map n) → look R r12 = some v → look R r13 = some (.int .i64 (fs.length : Int)) → look R r14 = some (.int .i64 (i : Int)) → SW E Q 60 R [.code c60x17, .inLoop c60x17, .inBlock 0, .code (.seq (.reg c60x18) .ret)] cs g m := by
    intro k
    induction k with
    | zero =>
      intro i g m dk hi hz he hE hnm hD hdo R q0 q3 q12 q13 q14
      refine SW.sub (R' := [(r0, v), (r3, .map n), (r12, v), (r13, .int .i64 (fs.length : Int)), (r14, .int .i64 (i : Int))]) (by simp [q0, q3, q12, q13, q14]) ?_
      repeat' (first | refine SW.seq ?_ | refine SW.reg ?_ | refine SO.nil ?_ | refine SW.condF rfl ?_ | refine SW.exit rfl ?_ | refine SO.mov rfl rfl rfl ?_ | refine SO.lssF rfl rfl rfl rfl (by omega) ?_)
      exact hret 0 _ _ _ _ (by rw [he]; rfl) hE rfl
    | succ k ih =>
      intro i g m dk hi hz he hE hnm hD hdo R q0 q3 q12 q13 q14
      have hi' : i < fs.length := by omega
      have hat : fs[i]? = some fs[i] := List.getElem?_eq_getElem hi'
      have hm := hp fs[i] (List.getElem_mem hi')
      unfold Small at hm
      have hs1 := hs.ext hE
      have lE := hE.le
      simp only [firstE] at he
      refine SW.sub (R' := [(r0, v), (r3, .map n), (r12, v), (r13, .int .i64 (fs.length : Int)), (r14, .int .i64 (i : Int))]) (by simp [q0, q3, q12, q13, q14]) ?_
      repeat' (first | refine SO.idxOf (fun _ => rfl) rfl rfl rfl rfl hs1 hi' (fun a o hp => ?_) | refine SO.loadA rfl rfl rfl (by assumption) (Gr.refl _ _) rfl ?_ | refine SO.alloc rfl rfl (fun g2 hc2 hE2 => ?_) | refine SW.seq ?_ | refine SW.block ?_ | refine SW.reg ?_ | refine SO.nil ?_ | refine SW.skip ?_ | refine SW.condT rfl ?_ | refine SO.mov rfl rfl rfl ?_ | refine SO.lssT rfl rfl rfl rfl (by omega) ?_)
      refine SO.storeAll rfl rfl rfl hc2 rfl rfl (fun g3 hc3 hk3 => ?_)
      have hE3 : Gr g m g3 (m + 1) := hE2.keep (Nat.le_refl _) hk3
      repeat' (first | refine SO.loadVA rfl rfl rfl hc3 rfl ?_ | refine SW.seq ?_ | refine SW.reg ?_ | refine SO.nil ?_)
      refine SO.callG rfl rfl rfl (element100 fs[i] hm.1 hm.2) ?_
      rintro _ g4 m4 ⟨rfl, hE4⟩
      have l4 := hE4.le
      have hG : Gr h n g4 m4 := (hE.trans hE3).trans hE4
      have hs4 := hs.ext hG
      have hc4 : hb g4 m = some (.cell (pfC fs[i]) 36 false) := by rw [hE4.same m (by omega)]; exact hc3
      have hD4 : MapIs strOf g4 n dk := hD.same (by rw [hE4.same n (by omega), hE3.same n (by omega)])
      by_cases hf0 : fileE fs[i] = 0
      case neg =>
        repeat' (first | refine SW.seq ?_ | refine SW.reg ?_ | refine SO.nil ?_ | refine SW.condT rfl ?_ | refine SO.mov rfl rfl rfl ?_ | refine SO.neiT rfl rfl rfl rfl (by omega) ?_)
        refine hret _ _ _ _ _ ?_ hG rfl
        have : treeAt fs i = fileE fs[i] := by simp only [treeAt, hat]; rw [if_pos hf0]
        rw [he, this, if_pos hf0]
      have hlook : ordBad fs fs[i].path i = false → ∀ R, look R r0 = some v → look R r3 = some (.map n) → look R r5 = some (.ptr m 0) → look R r12 = some v → look R r13 = some (.int .i64 (fs.length : Int)) → look R r14 = some (.int .i64 (i : Int)) → look R r37 = some (.map n) → look R r39 = some (strOf fs[i].path) → SO E Q 60 .ops R [⟨(some r40), none, [.r r39], (.call 101)⟩, ⟨(some r41), none, [.r r37, .r r40], (.lookup [.str] false (.bool false) false)⟩, ⟨(some r42), none, [.r r41], .not⟩] [.code (.cond (.r r42) (.seq (.reg c60x13) .ret) .skip), .code s60_14, .inBlock 1, .code (.reg c60x16), .inLoop c60x17, .inBlock 0, .code (.seq (.reg c60x18) .ret)] cs g4 m4 := by
        intro hord R q0 q3 q5 q12 q13 q14 q37 q39
        refine SO.forget (R' := [(r0, v), (r3, .map n), (r5, .ptr m 0), (r12, v), (r13, .int .i64 (fs.length : Int)), (r14, .int .i64 (i : Int)), (r37, .map n), (r39, strOf fs[i].path)]) (by simp [q0, q3, q5, q12, q13, q14, q37, q39]) ?_
        refine SO.callG rfl rfl rfl (parent101 fs[i].path hm.1) ?_
        rintro _ g5 m5 ⟨rfl, rfl, rfl⟩
        have hhome := home_dirs hdo (paths_asc i (by omega) hz) fs[i].path
        by_cases hin : parentOf fs[i].path ∈ dk
        case neg =>
          refine SO.lookupF strKey (parentOf fs[i].path) rfl rfl rfl rfl hD4 hin ?_
          repeat' (first | refine SW.seq ?_ | refine SW.reg ?_ | refine SO.nil ?_ | refine SW.condT rfl ?_ | refine SO.mov rfl rfl rfl ?_ | refine SO.notF rfl rfl rfl ?_)
          refine hret 7 _ _ _ _ ?_ hG rfl
          have h7 : homeE (fs.take i) fs[i].path ≠ 0 := hhome.2 hin
          have : treeAt fs i = 7 := by simp only [treeAt, hat]; rw [if_neg (by simpa using hf0), hord, if_neg (by simp), if_pos h7]
          rw [he, this]; rfl
        case pos =>
          refine SO.lookupT strKey (parentOf fs[i].path) rfl rfl rfl rfl hD4 hin ?_
          have h7 : homeE (fs.take i) fs[i].path = 0 := Classical.byContradiction fun h => hhome.1 h hin
          have hz' : treeAt fs i = 0 := by simp only [treeAt, hat]; rw [if_neg (by simpa using hf0), hord, if_neg (by simp), if_neg (by simpa using h7)]
          have hzz : ∀ j, j < i + 1 → treeAt fs j = 0 := fun j hj => by
            by_cases h1 : j = i
            · rw [h1]; exact hz'
            · exact hz j (by omega)
          rw [hz', if_neg (by simp)] at he
          by_cases ht : fs[i].type = 4
          · repeat' (first | refine SO.loadV rfl rfl rfl hc4 rfl ?_ | refine SW.seq ?_ | refine SW.reg ?_ | refine SO.nil ?_ | refine SW.skip ?_ | refine SW.condT rfl ?_ | refine SW.condF rfl ?_ | refine SO.mov rfl rfl rfl ?_ | refine SO.notT rfl rfl rfl ?_ | refine SO.fieldA rfl rfl rfl ?_ | refine SO.eqiT rfl rfl rfl rfl (by omega) ?_)
            refine SO.mapSet strKey fs[i].path rfl rfl rfl rfl hD4 (fun g6 dk6 hD6 hmem hk6 => ?_)
            repeat' (first | refine SW.reg ?_ | refine SO.nil ?_ | refine SW.out ?_ | refine SO.mov rfl rfl rfl ?_ | refine SO.add rfl rfl rfl rfl (by omega) ?_)
            refine SW.again ?_
            refine ih (i + 1) g6 _ _ (by omega) hzz he (hG.keep (Nat.le_refl _) hk6) (by omega) hD6 ?_ _ rfl rfl rfl rfl rfl
            intro x
            rw [List.take_succ_eq_append_getElem hi']
            have hx := hdo x
            rw [hmem, hx]
            constructor
            · rintro ((h1 | ⟨y, h1, h2, h3⟩) | h1)
              · exact .inl h1
              · exact .inr ⟨y, List.mem_append.2 (.inl h1), h2, h3⟩
              · exact .inr ⟨fs[i], List.mem_append.2 (.inr (List.mem_singleton.2 rfl)), ht, h1.symm⟩
            · rintro (h1 | ⟨y, h1, h2, h3⟩)
              · exact .inl (.inl h1)
              · rcases List.mem_append.1 h1 with h1 | h1
                · exact .inl (.inr ⟨y, h1, h2, h3⟩)
                · rw [List.mem_singleton] at h1; subst h1; exact .inr h3.symm
          · repeat' (first | refine SO.loadV rfl rfl rfl hc4 rfl ?_ | refine SW.seq ?_ | refine SW.reg ?_ | refine SO.nil ?_ | refine SW.skip ?_ | refine SW.out ?_ | refine SW.condF rfl ?_ | refine SO.mov rfl rfl rfl ?_ | refine SO.notT rfl rfl rfl ?_ | refine SO.fieldA rfl rfl rfl ?_ | refine SO.eqiF rfl rfl rfl rfl (by omega) ?_ | refine SO.add rfl rfl rfl rfl (by omega) ?_)
            refine SW.again ?_
            refine ih (i + 1) _ _ dk (by omega) hzz he hG (by omega) hD4 ?_ _ rfl rfl rfl rfl rfl
            intro x
            rw [List.take_succ_eq_append_getElem hi', hdo x]
            constructor
            · rintro (h1 | ⟨y, h1, h2, h3⟩)
              · exact .inl h1
              · exact .inr ⟨y, List.mem_append.2 (.inl h1), h2, h3⟩
            · rintro (h1 | ⟨y, h1, h2, h3⟩)
              · exact .inl h1
              · rcases List.mem_append.1 h1 with h1 | h1
                · exact .inr ⟨y, h1, h2, h3⟩
                · rw [List.mem_singleton] at h1; subst h1; exact absurd h2 ht
      cases i with
      | zero =>
        repeat' (first | refine SO.loadV rfl rfl rfl hc4 rfl ?_ | refine SW.seq ?_ | refine SW.reg ?_ | refine SO.nil ?_ | refine SO.nilD ?_ | refine SW.skip ?_ | refine SW.condF rfl ?_ | (refine SW.drawO rfl ?_; simp only [List.map_cons, List.map_nil]) | refine SO.nope rfl rfl ?_ | refine SO.mov rfl rfl rfl ?_ | refine SO.pickF rfl rfl rfl rfl rfl ?_ | refine SO.fieldA rfl rfl rfl ?_ | refine SO.gtrF rfl rfl rfl rfl (by omega) ?_ | refine SO.neiF rfl rfl rfl rfl (by omega) ?_)
        exact hlook rfl _ rfl rfl rfl rfl rfl rfl rfl rfl
      | succ j =>
        have hj : j < fs.length := by omega
        have hjt : fs[j]? = some fs[j] := List.getElem?_eq_getElem hj
        have htot := less_total fs[j + 1].path fs[j].path
        repeat' (first | refine SO.idxAt j (fun _ => rfl) rfl rfl rfl rfl (by omega) hs4 hj (fun a o hp => ?_) | refine SO.loadV rfl rfl rfl hc4 rfl ?_ | refine SO.load0 rfl rfl rfl (by assumption) (Gr.refl _ _) ?_ | refine SW.seq ?_ | refine SW.reg ?_ | refine SO.nil ?_ | refine SO.nilD ?_ | refine SW.skip ?_ | refine SW.condT rfl ?_ | refine SW.condF rfl ?_ | (refine SW.drawO rfl ?_; simp only [List.map_cons, List.map_nil]) | refine SO.mov rfl rfl rfl ?_ | refine SO.pickT rfl rfl rfl rfl rfl ?_ | refine SO.fieldA rfl rfl rfl ?_ | refine SO.gtrT rfl rfl rfl rfl (by omega) ?_ | refine SO.neiF rfl rfl rfl rfl (by omega) ?_ | refine SO.sub rfl rfl rfl rfl (by omega) ?_ | refine SO.leqS rfl rfl rfl rfl (fun _ => ?_) (fun _ => ?_))
        · rename_i hh
          refine hret 9 _ _ _ _ ?_ hG rfl
          have : treeAt fs (j + 1) = 9 := by simp only [treeAt, hat]; rw [if_neg (by simpa using hf0), if_pos (by simp only [ordBad, hjt]; rw [← htot]; exact hh)]
          rw [he, this]; rfl
        · rename_i hh
          exact hlook (by simp only [ordBad, hjt]; rw [← htot]; exact hh) _ rfl rfl rfl rfl rfl rfl rfl rfl
  repeat' (first | refine SO.mkMap strOf rfl rfl (fun h1 hD1 hE1 => ?_) | refine SW.seq ?_ | refine SW.reg ?_ | refine SO.nil ?_ | refine SW.skip ?_ | refine SW.condF rfl ?_ | refine SO.mov rfl rfl rfl ?_ | refine SO.lenSl rfl rfl rfl (by assumption) ?_ | refine SO.gtrF rfl rfl rfl rfl (by omega) ?_)
  refine SO.mapSet strKey [] rfl rfl rfl rfl hD1 (fun h2 dk2 hD2 hmem2 hk2 => ?_)
  have hE2 : Gr h n h2 (n + 1) := hE1.keep (Nat.le_refl _) hk2
  repeat' (first | refine SW.seq ?_ | refine SW.block ?_ | refine SW.reg ?_ | refine SO.nil ?_ | refine SO.mov rfl rfl rfl ?_ | refine SO.lenSl rfl rfl rfl (by assumption) ?_)
  refine SW.loop ?_
  refine loop fs.length 0 h2 (n + 1) _ (by omega) (fun j hj => by omega) (by simp [treeE, hlen]) hE2 (by omega) hD2 ?_ _ rfl rfl rfl rfl rfl
  intro x
  rw [hmem2]
  simp
end Go.Ev
