/- Contracts: bridge: the parents of a snapshot. -/
import Derived.Test.YtpamccbgifeoaaaGreatDoorF25
set_option linter.all false
namespace Go.Ev
set_option maxRecDepth 100000
set_option maxHeartbeats 8000000
abbrev mapC (m : Nat) : List AV := [.map m]
def ppE (ps : List Int) (ancs : List (List Int)) : Int :=
  if firstE (par1 ps ancs.length) ps.length 0 ≠ 0 then firstE (par1 ps ancs.length) ps.length 0
  else if (ps.any fun x => ps.any fun p => (ancs.getD p.toNat []).contains x) = true then 1 else 0
def KeysOf (ps : List Int) (ancs : List (List Int)) (keys : List Int) : Prop := ∀ x, x ∈ keys ↔ x ∈ ps ∨ ∃ p ∈ ps, x ∈ ancs.getD p.toNat []
abbrev rest58 : CC := .seq (.seq (.reg c58x16) (.block 4 (.loop c58x22))) (.seq (.seq (.reg c58x23) (.block 6 (.loop c58x28))) (.seq (.reg c58x29) .ret))
theorem filter_less {es : List (AV × AV × Nat)} {seen : List Nat} {e : AV × AV × Nat} (he : e ∈ es) (hn : e.2.2 ∉ seen) : (es.filter fun x => !(seen ++ [e.2.2]).contains x.2.2).length < (es.filter fun x => !seen.contains x.2.2).length := by
  have h1 : (es.filter fun x => !(seen ++ [e.2.2]).contains x.2.2) = (es.filter fun x => !seen.contains x.2.2).filter fun x => !(x.2.2 == e.2.2) := by
    rw [List.filter_filter]
    congr 1
    funext x
    rw [Bool.eq_iff_iff]
    simp
    constructor
    · rintro ⟨h1, h2⟩; exact ⟨h2, h1⟩
    · rintro ⟨h1, h2⟩; exact ⟨h2, h1⟩
  rw [h1, List.length_filter_lt_length_iff_exists]
  exact ⟨e, List.mem_filter.2 ⟨he, by simpa using hn⟩, by simp⟩
theorem parents58 {h : Hp} {n cb : Nat} {u vp : AV} {ms : List Nat} {ancs : List (List Int)} {ps : List Int} (hcb : hb h cb = some (.cell [u] 77 false)) (hcn : cb < n) (hu : Sl h n 1 u ms.length (ms.flatMap mapC)) (hml : ms.length = ancs.length) (hms : ∀ j (h1 : j < ms.length) (h2 : j < ancs.length), ms[j] < n ∧ MapIs intK h ms[j] ancs[j]) (hp : Sl h n 1 vp ps.length (ps.flatMap intC)) (hpl : ps.length ≤ 1000) (hal : ancs.length ≤ 1000) :
    Fn E 58 [.ptr cb 0, vp] h n fun r h' n' => Gr h n h' n' ∧ ((ppE ps ancs ≠ 0 ∧ r = .tup [.nilm, .int .i64 (ppE ps ancs)]) ∨ (ppE ps ancs = 0 ∧ n < n' ∧ ∃ keys, r = .tup [.map n, .int .i64 0] ∧ MapIs intK h' n keys ∧ KeysOf ps ancs keys)) := by
  refine Fn.of code58 (by decide) rfl fun Q cs hq => ?_
  show SW E Q 58 [(r0, .ptr cb 0), (r1, vp)] _ _ _ _
  have hbad : ∀ (e : Int) (g : Hp) (m : Nat) (R : List (Path × AV)) (todo : List AItem), e = ppE ps ancs → e ≠ 0 → Gr h n g m → look R r4 = some .nilm → look R r5 = some (.int .i64 e) → SW E Q 58 R (.code .ret :: todo) cs g m := fun e g m R todo he h0 hE q4 q5 => SW.ret code58 ⟨_, q4, _, q5, hq _ _ _ ⟨hE, .inl ⟨he ▸ h0, by rw [← he]; rfl⟩⟩⟩
  have loop3 : ppE ps ancs = 0 → ∀ keys : List Int, (∀ x, x ∈ keys ↔ ∃ p ∈ ps, x ∈ ancs.getD p.toNat []) → ∀ (k j : Nat) (g : Hp) (m : Nat) (keys3 : List Int), j + k = ps.length → Gr h n g m → n < m → MapIs intK g n keys3 → (∀ x, x ∈ keys3 ↔ x ∈ keys ∨ x ∈ ps.take j) → ∀ R, look R r6 = some (.map n) → look R r69 = some vp → look R r70 = some (.int .i64 (ps.length : Int)) → look R r71 = some (.int .i64 (j : Int)) → SW E Q 58 R [.code c58x28, .inLoop c58x28, .inBlock 6, .code (.seq (.reg c58x29) .ret)] cs g m := by
    intro hpp keys hkeys k
    induction k with
    | zero =>
      intro j g m keys3 hj hE hnm hM hk3 R q6 q69 q70 q71
      refine SW.sub (R' := [(r6, .map n), (r69, vp), (r70, .int .i64 (ps.length : Int)), (r71, .int .i64 (j : Int))]) (by simp [q6, q69, q70, q71]) ?_
      repeat' (first | refine SW.seq ?_ | refine SW.reg ?_ | refine SO.nil ?_ | refine SW.condF rfl ?_ | refine SW.exit rfl ?_ | refine SO.mov rfl rfl rfl ?_ | refine SO.lssF rfl rfl rfl rfl (by omega) ?_)
      refine SW.ret code58 ⟨_, rfl, _, rfl, hq _ _ _ ⟨hE, .inr ⟨hpp, hnm, keys3, rfl, hM, fun x => ?_⟩⟩⟩
      rw [hk3, hkeys, show j = ps.length by omega, List.take_length]
      exact Or.comm
    | succ k ih =>
      intro j g m keys3 hj hE hnm hM hk3 R q6 q69 q70 q71
      have hj' : j < ps.length := by omega
      have hp1 := hp.ext hE
      refine SW.sub (R' := [(r6, .map n), (r69, vp), (r70, .int .i64 (ps.length : Int)), (r71, .int .i64 (j : Int))]) (by simp [q6, q69, q70, q71]) ?_
      repeat' (first | refine SO.idxOf (fun _ => rfl) rfl rfl rfl rfl hp1 hj' (fun a o hp => ?_) | refine SO.load0 rfl rfl rfl (by assumption) (Gr.refl _ _) ?_ | refine SW.seq ?_ | refine SW.block ?_ | refine SW.reg ?_ | refine SO.nil ?_ | refine SW.skip ?_ | refine SW.condT rfl ?_ | refine SO.mov rfl rfl rfl ?_ | refine SO.lssT rfl rfl rfl rfl (by omega) ?_)
      refine SO.mapSet intKey ps[j] rfl rfl rfl rfl hM (fun g1 ks1 hM1 hmem1 hk1 => ?_)
      repeat' (first | refine SW.reg ?_ | refine SO.nil ?_ | refine SW.out ?_ | refine SO.mov rfl rfl rfl ?_ | refine SO.add rfl rfl rfl rfl (by omega) ?_)
      refine SW.again ?_
      refine ih (j + 1) g1 m _ (by omega) (hE.keep (Nat.le_refl _) hk1) hnm hM1 (fun x => ?_) _ rfl rfl rfl rfl
      rw [hmem1, hk3, List.take_succ_eq_append_getElem hj']
      rw [List.mem_append, List.mem_singleton, or_assoc]
  have loop2 : firstE (par1 ps ancs.length) ps.length 0 = 0 → ∀ keys : List Int, (∀ x, x ∈ keys ↔ ∃ p ∈ ps, x ∈ ancs.getD p.toNat []) → ∀ (g : Hp) (m : Nat), Gr h n g m → n < m → MapIs intK g n keys → ∀ (k j : Nat), j + k = ps.length → (∀ x ∈ ps.take j, x ∉ keys) → ∀ R, look R r1 = some vp → look R r6 = some (.map n) → look R r59 = some vp → look R r60 = some (.int .i64 (ps.length : Int)) → look R r61 = some (.int .i64 (j : Int)) → SW E Q 58 R [.code c58x22, .inLoop c58x22, .inBlock 4, .code (.seq (.seq (.reg c58x23) (.block 6 (.loop c58x28))) (.seq (.reg c58x29) .ret))] cs g m := by
    intro hz keys hkeys g m hE hnm hM k
    have hp1 := hp.ext hE
    have hpp : ppE ps ancs = if (ps.any fun x => ps.any fun p => (ancs.getD p.toNat []).contains x) = true then 1 else 0 := by rw [ppE, hz, if_neg (by simp)]
    have hin : ∀ x, x ∈ keys ↔ (ps.any fun p => (ancs.getD p.toNat []).contains x) = true := fun x => by rw [hkeys, List.any_eq_true]; simp
    induction k with
    | zero =>
      intro j hj hno R q1 q6 q59 q60 q61
      rw [show j = ps.length by omega, List.take_length] at hno
      refine SW.sub (R' := [(r1, vp), (r6, .map n), (r59, vp), (r60, .int .i64 (ps.length : Int)), (r61, .int .i64 (j : Int))]) (by simp [q1, q6, q59, q60, q61]) ?_
      repeat' (first | refine SW.seq ?_ | refine SW.block ?_ | refine SW.reg ?_ | refine SO.nil ?_ | refine SW.condF rfl ?_ | refine SW.exit rfl ?_ | refine SO.mov rfl rfl rfl ?_ | refine SO.lenSl rfl rfl rfl (by assumption) ?_ | refine SO.lssF rfl rfl rfl rfl (by omega) ?_)
      refine SW.loop ?_
      have h0 : ppE ps ancs = 0 := by
        rw [hpp, if_neg]
        intro ha
        obtain ⟨x, hx, h1⟩ := List.any_eq_true.1 ha
        exact hno x hx ((hin x).2 h1)
      exact loop3 h0 keys hkeys ps.length 0 g m keys (by omega) hE hnm hM (fun x => by simp) _ rfl rfl rfl rfl
    | succ k ih =>
      intro j hj hno R q1 q6 q59 q60 q61
      have hj' : j < ps.length := by omega
      refine SW.sub (R' := [(r1, vp), (r6, .map n), (r59, vp), (r60, .int .i64 (ps.length : Int)), (r61, .int .i64 (j : Int))]) (by simp [q1, q6, q59, q60, q61]) ?_
      repeat' (first | refine SO.idxOf (fun _ => rfl) rfl rfl rfl rfl hp1 hj' (fun a o hp => ?_) | refine SO.load0 rfl rfl rfl (by assumption) (Gr.refl _ _) ?_ | refine SW.seq ?_ | refine SW.block ?_ | refine SW.reg ?_ | refine SO.nil ?_ | refine SW.skip ?_ | refine SW.condT rfl ?_ | refine SO.mov rfl rfl rfl ?_ | refine SO.lssT rfl rfl rfl rfl (by omega) ?_)
      by_cases hc : ps[j] ∈ keys
      case pos =>
        refine SO.lookupT intKey ps[j] rfl rfl rfl rfl hM hc ?_
        repeat' (first | refine SW.seq ?_ | refine SW.reg ?_ | refine SO.nil ?_ | refine SW.condT rfl ?_ | refine SO.mov rfl rfl rfl ?_)
        refine hbad 1 _ _ _ _ ?_ (by simp) hE rfl rfl
        rw [hpp, if_pos (List.any_eq_true.2 ⟨ps[j], List.getElem_mem hj', (hin _).1 hc⟩)]
      case neg =>
        refine SO.lookupF intKey ps[j] rfl rfl rfl rfl hM hc ?_
        repeat' (first | refine SW.reg ?_ | refine SO.nil ?_ | refine SW.skip ?_ | refine SW.out ?_ | refine SW.condF rfl ?_ | refine SO.mov rfl rfl rfl ?_ | refine SO.add rfl rfl rfl rfl (by omega) ?_)
        refine SW.again ?_
        refine ih (j + 1) (by omega) (fun x hx => ?_) _ rfl rfl rfl rfl rfl
        rw [List.take_succ_eq_append_getElem hj'] at hx
        rcases List.mem_append.1 hx with hx | hx
        · exact hno x hx
        · simp at hx; subst hx; exact hc
  have loop1 : ∀ (k i : Nat) (g : Hp) (m : Nat) (keys : List Int), i + k = ps.length → firstE (par1 ps ancs.length) ps.length 0 = firstE (par1 ps ancs.length) k i → Gr h n g m → n < m → MapIs intK g n keys → (∀ x, x ∈ keys ↔ ∃ p ∈ ps.take i, x ∈ ancs.getD p.toNat []) → ∀ R, look R r0 = some (.ptr cb 0) → look R r1 = some vp → look R r6 = some (.map n) → look R r15 = some vp → look R r16 = some (.int .i64 (ps.length : Int)) → look R r17 = some (.int .i64 (i : Int)) → SW E Q 58 R [.code c58x15, .inLoop c58x15, .inBlock 0, .code rest58] cs g m := by
    intro k
    induction k with
    | zero =>
      intro i g m keys hi he hE hnm hM hkeys R q0 q1 q6 q15 q16 q17
      rw [show i = ps.length by omega, List.take_length] at hkeys
      have hp1 := hp.ext hE
      refine SW.sub (R' := [(r0, .ptr cb 0), (r1, vp), (r6, .map n), (r15, vp), (r16, .int .i64 (ps.length : Int)), (r17, .int .i64 (i : Int))]) (by simp [q0, q1, q6, q15, q16, q17]) ?_
      repeat' (first | refine SW.seq ?_ | refine SW.block ?_ | refine SW.reg ?_ | refine SO.nil ?_ | refine SW.condF rfl ?_ | refine SW.exit rfl ?_ | refine SO.mov rfl rfl rfl ?_ | refine SO.lenSl rfl rfl rfl (by assumption) ?_ | refine SO.lssF rfl rfl rfl rfl (by omega) ?_)
      refine SW.loop ?_
      exact loop2 (by rw [he]; rfl) keys hkeys g m hE hnm hM ps.length 0 (by omega) (by simp) _ rfl rfl rfl rfl rfl
    | succ k ih =>
      intro i g m keys hi he hE hnm hM hkeys R q0 q1 q6 q15 q16 q17
      have hi' : i < ps.length := by omega
      have hat : ps[i]? = some ps[i] := List.getElem?_eq_getElem hi'
      have hp1 := hp.ext hE
      have hu1 := hu.ext hE
      have hcb1 : hb g cb = some (.cell [u] 77 false) := by rw [hE.same cb hcn]; exact hcb
      have lE := hE.le
      simp only [firstE] at he
      refine SW.sub (R' := [(r0, .ptr cb 0), (r1, vp), (r6, .map n), (r15, vp), (r16, .int .i64 (ps.length : Int)), (r17, .int .i64 (i : Int))]) (by simp [q0, q1, q6, q15, q16, q17]) ?_
      have hgo : par1 ps ancs.length i = 0 → 0 ≤ ps[i] → ps[i] < ancs.length → ∀ R, look R r0 = some (.ptr cb 0) → look R r1 = some vp → look R r6 = some (.map n) → look R r15 = some vp → look R r16 = some (.int .i64 (ps.length : Int)) → look R r17 = some (.int .i64 (i : Int)) → look R r47 = some u → look R r48 = some (.int .i64 ps[i]) → SO E Q 58 .ops R [⟨(some r49), none, [.r r47, .r r48], (.idxSlA 1)⟩, ⟨(some r50), none, [.r r49], .loadC⟩, ⟨(some r51), none, [.r r50], .rangeMap⟩] [.code (.block 2 (.loop c58x13)), .inBlock 1, .code (.reg c58x14), .inLoop c58x15, .inBlock 0, .code rest58] cs g m := by
        intro hz h0 hN R q0 q1 q6 q15 q16 q17 q47 q48
        refine SO.forget (R' := [(r0, .ptr cb 0), (r1, vp), (r6, .map n), (r15, vp), (r16, .int .i64 (ps.length : Int)), (r17, .int .i64 (i : Int)), (r47, u), (r48, .int .i64 ps[i])]) (by simp [q0, q1, q6, q15, q16, q17, q47, q48]) ?_
        rw [hz, if_neg (by simp)] at he
        have hxm : ps[i].toNat < ms.length := by omega
        have hxa : ps[i].toNat < ancs.length := by omega
        obtain ⟨hMn, es, hes, hEs⟩ := hms ps[i].toNat hxm hxa
        refine SO.idxAt ps[i].toNat (fun _ => rfl) rfl rfl rfl rfl (by omega) hu1 hxm (fun a o hp' => ?_)
        refine SO.load0 rfl rfl rfl hp' (Gr.refl _ _) ?_
        have hesg : hb g ms[ps[i].toNat] = some (.map es es.length) := by rw [hE.same _ hMn]; exact hes
        refine SO.rangeM rfl rfl rfl hesg (fun g1 hit hE1 => ?_)
        have hgetD : ancs.getD ps[i].toNat [] = ancs[ps[i].toNat] := by simp [List.getD, List.getElem?_eq_getElem hxa]
        have hkey : ∀ e ∈ es, ∃ y ∈ ancs[ps[i].toNat], e.1 = intK y := fun e he => by
          have : e.1 ∈ es.map (·.1) := List.mem_map_of_mem he
          rw [hEs.keys] at this
          obtain ⟨y, h1, h2⟩ := List.mem_map.1 this
          exact ⟨y, h1, h2.symm⟩
        have hkey' : ∀ y ∈ ancs[ps[i].toNat], ∃ e ∈ es, e.1 = intK y := fun y hy => by
          have : intK y ∈ ancs[ps[i].toNat].map intK := List.mem_map_of_mem hy
          rw [← hEs.keys] at this
          obtain ⟨e, h1, h2⟩ := List.mem_map.1 this
          exact ⟨e, h1, h2⟩
        have inner : ∀ (c : Nat) (seen : List Nat) (g2 : Hp) (keys2 : List Int), (es.filter fun x => !seen.contains x.2.2).length ≤ c → Gr h n g2 (m + 1) → hb g2 m = some (.miter (some ms[ps[i].toNat]) es.length seen es.length) → MapIs intK g2 n keys2 → (∀ y, y ∈ keys2 ↔ y ∈ keys ∨ ∃ e ∈ es, e.2.2 ∈ seen ∧ e.1 = intK y) → ∀ R, look R r0 = some (.ptr cb 0) → look R r1 = some vp → look R r6 = some (.map n) → look R r15 = some vp → look R r16 = some (.int .i64 (ps.length : Int)) → look R r17 = some (.int .i64 (i : Int)) → look R r51 = some (.ptr m 0) → SW E Q 58 R [.code c58x13, .inLoop c58x13, .inBlock 2, .inBlock 1, .code (.reg c58x14), .inLoop c58x15, .inBlock 0, .code rest58] cs g2 (m + 1) := by
          intro c
          induction c with
          | zero =>
            intro seen g2 keys2 hc hE2 hit2 hM2 hk2 R q0 q1 q6 q15 q16 q17 q51
            have hes2 : hb g2 ms[ps[i].toNat] = some (.map es es.length) := by rw [hE2.same _ hMn]; exact hes
            refine SW.sub (R' := [(r0, .ptr cb 0), (r1, vp), (r6, .map n), (r15, vp), (r16, .int .i64 (ps.length : Int)), (r17, .int .i64 (i : Int)), (r51, .ptr m 0)]) (by simp [q0, q1, q6, q15, q16, q17, q51]) ?_
            refine SW.seq ?_
            refine SW.reg ?_
            refine SO.nextM rfl rfl rfl hit2 hes2 hEs.lt (fun hall => ?_) (fun e he' hns g3 _ _ => ?_)
            · repeat' (first | refine SW.seq ?_ | refine SW.reg ?_ | refine SO.nil ?_ | refine SW.out ?_ | refine SW.condF rfl ?_ | refine SW.exit rfl ?_ | refine SO.mov rfl rfl rfl ?_ | refine SO.extract rfl rfl rfl rfl ?_ | refine SO.add rfl rfl rfl rfl (by omega) ?_)
              refine SW.again ?_
              refine ih (i + 1) g2 (m + 1) keys2 (by omega) he hE2 (by omega) hM2 (fun y => ?_) _ rfl rfl rfl rfl rfl rfl
              rw [hk2, hkeys, List.take_succ_eq_append_getElem hi']
              constructor
              · rintro (⟨p, h1, h2⟩ | ⟨e, h1, _, h3⟩)
                · exact ⟨p, List.mem_append.2 (.inl h1), h2⟩
                · obtain ⟨y', h4, h5⟩ := hkey e h1
                  rw [h3] at h5
                  simp at h5; subst h5
                  exact ⟨ps[i], List.mem_append.2 (.inr (List.mem_singleton.2 rfl)), by rw [hgetD]; exact h4⟩
              · rintro ⟨p, h1, h2⟩
                rcases List.mem_append.1 h1 with h1 | h1
                · exact .inl ⟨p, h1, h2⟩
                · rw [List.mem_singleton] at h1; subst h1
                  rw [hgetD] at h2
                  obtain ⟨e, h3, h4⟩ := hkey' y h2
                  exact .inr ⟨e, h3, hall e h3, h4⟩
            · have := filter_less he' hns
              omega
          | succ c ihc =>
            intro seen g2 keys2 hc hE2 hit2 hM2 hk2 R q0 q1 q6 q15 q16 q17 q51
            have hes2 : hb g2 ms[ps[i].toNat] = some (.map es es.length) := by rw [hE2.same _ hMn]; exact hes
            refine SW.sub (R' := [(r0, .ptr cb 0), (r1, vp), (r6, .map n), (r15, vp), (r16, .int .i64 (ps.length : Int)), (r17, .int .i64 (i : Int)), (r51, .ptr m 0)]) (by simp [q0, q1, q6, q15, q16, q17, q51]) ?_
            refine SW.seq ?_
            refine SW.reg ?_
            refine SO.nextM rfl rfl rfl hit2 hes2 hEs.lt (fun hall => ?_) (fun e he' hns g3 hit3 hk3 => ?_)
            · repeat' (first | refine SW.seq ?_ | refine SW.reg ?_ | refine SO.nil ?_ | refine SW.out ?_ | refine SW.condF rfl ?_ | refine SW.exit rfl ?_ | refine SO.mov rfl rfl rfl ?_ | refine SO.extract rfl rfl rfl rfl ?_ | refine SO.add rfl rfl rfl rfl (by omega) ?_)
              refine SW.again ?_
              refine ih (i + 1) g2 (m + 1) keys2 (by omega) he hE2 (by omega) hM2 (fun y => ?_) _ rfl rfl rfl rfl rfl rfl
              rw [hk2, hkeys, List.take_succ_eq_append_getElem hi']
              constructor
              · rintro (⟨p, h1, h2⟩ | ⟨e, h1, _, h3⟩)
                · exact ⟨p, List.mem_append.2 (.inl h1), h2⟩
                · obtain ⟨y', h4, h5⟩ := hkey e h1
                  rw [h3] at h5
                  simp at h5; subst h5
                  exact ⟨ps[i], List.mem_append.2 (.inr (List.mem_singleton.2 rfl)), by rw [hgetD]; exact h4⟩
              · rintro ⟨p, h1, h2⟩
                rcases List.mem_append.1 h1 with h1 | h1
                · exact .inl ⟨p, h1, h2⟩
                · rw [List.mem_singleton] at h1; subst h1
                  rw [hgetD] at h2
                  obtain ⟨e, h3, h4⟩ := hkey' y h2
                  exact .inr ⟨e, h3, hall e h3, h4⟩
            · obtain ⟨y, hy, hey⟩ := hkey e he'
              have hE3 : Gr h n g3 (m + 1) := hE2.keep (by omega) hk3
              have hes3 : hb g3 ms[ps[i].toNat] = some (.map es es.length) := by rw [hE3.same _ hMn]; exact hes
              have hM3 : MapIs intK g3 n keys2 := hM2.same (hk3 n (by omega))
              have hfl := filter_less he' hns
              rw [hey]
              repeat' (first | refine SO.entryM rfl rfl rfl hit3 hes3 (find_stamp hEs.nodup he') ?_ | refine SW.seq ?_ | refine SW.block ?_ | refine SW.reg ?_ | refine SO.nil ?_ | refine SW.skip ?_ | refine SW.condT rfl ?_ | refine SO.mov rfl rfl rfl ?_ | refine SO.extract rfl rfl rfl rfl ?_)
              rw [hey]
              skip
              refine SO.mapSet intKey y rfl rfl rfl rfl hM3 (fun g4 ks4 hM4 hmem4 hk4 => ?_)
              repeat' (first | refine SO.nil ?_ | refine SW.out ?_)
              refine SW.again ?_
              refine ihc (seen ++ [e.2.2]) g4 _ (by omega) (hE3.keep (Nat.le_refl _) hk4) (by rw [hk4 m (by omega)]; exact hit3) hM4 (fun z => ?_) _ rfl rfl rfl rfl rfl rfl rfl
              rw [hmem4, hk2]
              constructor
              · rintro ((h1 | ⟨e', h1, h2, h3⟩) | rfl)
                · exact .inl h1
                · exact .inr ⟨e', h1, by simp [h2], h3⟩
                · exact .inr ⟨e, he', by simp, hey⟩
              · rintro (h1 | ⟨e', h1, h2, h3⟩)
                · exact .inl (.inl h1)
                · rcases List.mem_append.1 h2 with h2 | h2
                  · exact .inl (.inr ⟨e', h1, h2, h3⟩)
                  · simp at h2
                    have h5 := find_stamp hEs.nodup h1
                    rw [h2, find_stamp hEs.nodup he'] at h5
                    simp at h5
                    rw [← h5, hey] at h3
                    simp at h3
                    exact .inr h3.symm
        have hM1 : MapIs intK g1 n keys := hM.same (hE1.same n hnm)
        repeat' (first | refine SW.block ?_ | refine SO.nil ?_)
        refine SW.loop ?_
        exact inner es.length [] g1 keys (List.length_filter_le _ _) (hE.trans hE1) hit hM1 (fun y => by simp) _ rfl rfl rfl rfl rfl rfl rfl
      repeat' (first | refine SO.idxOf (fun _ => rfl) rfl rfl rfl rfl hp1 hi' (fun a o hp => ?_) | refine SO.idxAt (i - 1) (fun _ => rfl) rfl rfl rfl rfl (by omega) hp1 (by omega) (fun a o hp => ?_) | refine SO.load0 rfl rfl rfl (by assumption) (Gr.refl _ _) ?_ | refine SO.loadV rfl rfl rfl hcb1 rfl ?_ | refine SW.seq ?_ | refine SW.block ?_ | refine SW.reg ?_ | refine SO.nil ?_ | refine SW.skip ?_ | refine SW.condT rfl ?_ | refine SW.condF rfl ?_ | refine SO.nope rfl rfl ?_ | refine SO.mov rfl rfl rfl ?_ | refine SO.pickT rfl rfl rfl rfl rfl ?_ | refine SO.pickF rfl rfl rfl rfl rfl ?_ | refine SO.fieldA rfl rfl rfl ?_ | refine SO.nilchk rfl rfl rfl ?_ | refine SO.lenSl rfl rfl rfl (by assumption) ?_ | refine SO.lssT rfl rfl rfl rfl (by omega) ?_ | refine SO.sub rfl rfl rfl rfl (by omega) ?_ | refine SO.lss rfl rfl rfl rfl (fun _ => ?_) (fun _ => ?_) | refine SO.leq rfl rfl rfl rfl (fun _ => ?_) (fun _ => ?_) | refine SO.gtr rfl rfl rfl rfl (fun _ => ?_) (fun _ => ?_) | refine SO.geq rfl rfl rfl rfl (fun _ => ?_) (fun _ => ?_))
      · rename_i h0
        have h1 : par1 ps ancs.length i = 2 := by simp only [par1, hat]; rw [if_pos (.inl h0)]
        refine hbad 2 _ _ _ _ ?_ (by simp) hE rfl rfl
        rw [ppE, he, h1]; simp
      · rename_i h0 hge
        have h1 : par1 ps ancs.length i = 2 := by simp only [par1, hat]; rw [if_pos (.inr (by omega))]
        refine hbad 2 _ _ _ _ ?_ (by simp) hE rfl rfl
        rw [ppE, he, h1]; simp
      · rename_i h0 hge hpos hle
        have h1 : par1 ps ancs.length i = 9 := by
          simp only [par1, hat]
          rw [if_neg (by omega)]
          cases i with
          | zero => omega
          | succ j =>
            have hj : ps[j]? = some ps[j] := List.getElem?_eq_getElem (by omega)
            have hle' : ps[j + 1] ≤ ps[j] := by simpa using hle
            simp only [hj]
            rw [if_pos (decide_eq_true hle')]
        refine hbad 9 _ _ _ _ ?_ (by simp) hE rfl rfl
        rw [ppE, he, h1]; simp
      · rename_i h0 hge hpos hlt
        have h1 : par1 ps ancs.length i = 0 := by
          simp only [par1, hat]
          rw [if_neg (by omega)]
          cases i with
          | zero => omega
          | succ j =>
            have hj : ps[j]? = some ps[j] := List.getElem?_eq_getElem (by omega)
            have hlt' : ps[j] < ps[j + 1] := by simpa using hlt
            simp only [hj]
            rw [if_neg (by simp; omega)]
        exact hgo h1 (by omega) (by omega) _ rfl rfl rfl rfl rfl rfl rfl rfl
      · rename_i h0 hge hpos
        have h1 : par1 ps ancs.length i = 0 := by
          simp only [par1, hat]
          rw [if_neg (by omega)]
          cases i with
          | zero => rfl
          | succ j => omega
        exact hgo h1 (by omega) (by omega) _ rfl rfl rfl rfl rfl rfl rfl rfl
  repeat' (first | refine SO.mkMap intK rfl rfl (fun h1 hM1 hE1 => ?_) | refine SW.seq ?_ | refine SW.block ?_ | refine SW.reg ?_ | refine SO.nil ?_ | refine SO.mov rfl rfl rfl ?_ | refine SO.lenSl rfl rfl rfl (by assumption) ?_)
  refine SW.loop ?_
  exact loop1 ps.length 0 h1 (n + 1) [] (by omega) rfl hE1 (by omega) hM1 (by simp) _ rfl rfl rfl rfl rfl rfl
end Go.Ev
