/- Contracts: the reference's encoder: check, encode, Check, Encode. -/
import Derived.Test.YtpamccbgifeoaaaGreatDoorF9
set_option linter.all false
namespace Go.Ev
set_option maxRecDepth 100000
set_option maxHeartbeats 4000000
theorem nilsSl (h : Hp) (n esz : Nat) : Sl h n esz .nils 0 [] := ⟨by simp, .inl ⟨rfl, rfl⟩⟩
theorem check56 : ∀ (x : XR) (d : Nat) {h : Hp} {n : Nat}, XOk h n x → XFit d x → x.nodes ≤ 1000000 → Fn E 56 [.agg (xC x)] h n fun r h' n' => r = .int .i64 0 ∧ Gr h n h' n' := by
  intro x
  induction hsz : SizeOf.sizeOf x using Nat.strongRecOn generalizing x with
  | ind sz ih =>
    intro d h n hx hf hn
    refine Fn.of code56 (by decide) rfl fun Q cs hq => ?_
    show SW E Q 56 [(r0, .agg (xC x))] _ _ _ _
    cases hx with
    | atom bs =>
      cases hf with
      | atom d' _ hbs =>
        have hnil := nilsSl h n 3
        repeat' (first | refine SO.box rfl rfl rfl (by simp) (fun h1 hc hE => ?_) | refine SO.loadV rfl rfl rfl (by assumption) rfl ?_ | refine SW.seq ?_ | refine SW.reg ?_ | refine SO.nil ?_ | refine SW.skip ?_ | refine SW.condT rfl ?_ | refine SW.condF rfl ?_ | refine SO.mov rfl rfl rfl ?_ | refine SO.notF rfl rfl rfl ?_ | refine SO.lenStr rfl rfl rfl ?_ | refine SO.fieldA rfl rfl rfl ?_ | refine SO.lenSl rfl rfl rfl (by assumption) ?_ | refine SO.gtrF rfl rfl rfl rfl (by omega) ?_)
        exact SW.ret code56 ⟨_, rfl, hq _ _ _ ⟨rfl, hE⟩⟩
    | list v xs hs hxs =>
      cases hf with
      | list d' _ _ hfs =>
        simp only [XR.nodes] at hn
        have hlen : ∀ ys : List XR, ys.length ≤ XR.nodess ys := by
          intro ys
          induction ys with
          | nil => simp [XR.nodess]
          | cons y ys ih =>
            have : 1 ≤ y.nodes := by cases y <;> simp [XR.nodes]
            simp [XR.nodess]; omega
        have hl := hlen xs
        have loop : ∀ (k i : Nat) (h1 : Hp) (n1 : Nat), i + k = xs.length → hb h1 n = some (.cell (xC (.list v xs)) 51 false) → n < n1 → Gr h n h1 n1 → ∀ R, look R r1 = some (.ptr n 0) → look R r3 = some (.int .i64 (i : Int)) → SW E Q 56 R [.code c56x15, .inLoop c56x15, .inBlock 0, .code (.seq (.reg c56x16) .ret)] cs h1 n1 := by
          intro k
          induction k with
          | zero =>
            intro i h1 n1 hi hc hnn hE R q1 q3
            refine SW.sub (R' := [(r1, .ptr n 0), (r3, .int .i64 (i : Int))]) (by simp [q1, q3]) ?_
            repeat' (first | refine SO.loadV rfl rfl rfl (by assumption) rfl ?_ | refine SW.seq ?_ | refine SW.reg ?_ | refine SO.nil ?_ | refine SW.condF rfl ?_ | refine SW.exit rfl ?_ | refine SO.mov rfl rfl rfl ?_ | refine SO.fieldA rfl rfl rfl ?_ | refine SO.lenSl rfl rfl rfl (by assumption) ?_ | refine SO.lssF rfl rfl rfl rfl (by omega) ?_)
            exact SW.ret code56 ⟨_, rfl, hq _ _ _ ⟨rfl, hE⟩⟩
          | succ k ihk =>
            intro i h1 n1 hi hc hnn hE R q1 q3
            have hi' : i < xs.length := by omega
            have hs1 := hs.ext hE
            have hmem := List.getElem_mem hi'
            have hnx : xs[i].nodes ≤ 1000000 := by
              have e1 : XR.nodess (xs.take (i + 1)) = XR.nodess (xs.take i) + xs[i].nodes := by rw [List.take_succ_eq_append_getElem hi', nodess_append]; simp [XR.nodess]
              have e2 : XR.nodess xs = XR.nodess (xs.take (i + 1)) + XR.nodess (xs.drop (i + 1)) := by rw [← nodess_append, List.take_append_drop]
              omega
            refine SW.sub (R' := [(r1, .ptr n 0), (r3, .int .i64 (i : Int))]) (by simp [q1, q3]) ?_
            repeat' (first | refine SO.loadV rfl rfl rfl (by assumption) rfl ?_ | refine SO.idxOf xC_length rfl rfl rfl rfl hs1 hi' (fun a o hp => ?_) | refine SO.loadA rfl rfl rfl (by assumption) (Gr.refl _ _) (xC_length _) ?_ | refine SW.seq ?_ | refine SW.block ?_ | refine SW.reg ?_ | refine SO.nil ?_ | refine SW.skip ?_ | refine SW.condT rfl ?_ | refine SO.mov rfl rfl rfl ?_ | refine SO.fieldA rfl rfl rfl ?_ | refine SO.lenSl rfl rfl rfl (by assumption) ?_ | refine SO.lssT rfl rfl rfl rfl (by omega) ?_)
            refine SO.callG rfl rfl rfl (ih (SizeOf.sizeOf xs[i]) (by rw [← hsz]; have := List.sizeOf_lt_of_mem hmem; simp; omega) xs[i] rfl d' ((hxs _ hmem).ext hE) (hfs _ hmem) hnx) ?_
            rintro _ h2 n2 ⟨rfl, hE2⟩
            repeat' (first | refine SW.seq ?_ | refine SW.reg ?_ | refine SO.nil ?_ | refine SW.skip ?_ | refine SW.out ?_ | refine SW.condF rfl ?_ | refine SO.mov rfl rfl rfl ?_ | refine SO.neiF rfl rfl rfl rfl (by omega) ?_ | refine SO.add rfl rfl rfl rfl (by omega) ?_)
            refine SW.again ?_
            exact ihk (i + 1) h2 n2 (by omega) (by rw [hE2.same n hnn]; exact hc) (by have := hE2.le; omega) (hE.trans hE2) _ rfl rfl
        repeat' (first | refine SO.box rfl rfl rfl (by simp) (fun h1 hc hE => ?_) | refine SO.loadV rfl rfl rfl (by assumption) rfl ?_ | refine SO.strNe rfl rfl rfl rfl (fun hne => absurd rfl hne) (fun _ => ?_) | refine SW.seq ?_ | refine SW.block ?_ | refine SW.reg ?_ | refine SO.nil ?_ | refine SW.skip ?_ | refine SW.condF rfl ?_ | refine SO.mov rfl rfl rfl ?_ | refine SO.notT rfl rfl rfl ?_ | refine SO.fieldA rfl rfl rfl ?_)
        refine SW.loop ?_
        exact loop xs.length 0 _ _ (by omega) hc (by omega) hE _ rfl rfl
theorem encode28 : ∀ (x : XR) {h : Hp} {n : Nat}, XOk h n x → x.enc.length ≤ 1000000 → Fn E 28 [.agg (xC x)] h n fun r h' n' => r = strOf x.enc ∧ Gr h n h' n' := by
  intro x
  induction hsz : SizeOf.sizeOf x using Nat.strongRecOn generalizing x with
  | ind sz ih =>
    intro h n hx hle
    refine Fn.of code28 (by decide) rfl fun Q cs hq => ?_
    show SW E Q 28 [(r0, .agg (xC x))] _ _ _ _
    cases hx with
    | atom bs =>
      simp only [XR.enc] at hle hq
      have hle' : (decN bs.length).length + 1 + bs.length ≤ 1000000 := by simpa [Nat.add_assoc, Nat.add_comm] using hle
      repeat' (first | refine SO.box rfl rfl rfl (by simp) (fun h1 hc hE => ?_) | refine SO.loadV rfl rfl rfl (by assumption) rfl ?_ | refine SW.seq ?_ | refine SW.reg ?_ | refine SO.nil ?_ | refine SW.condT rfl ?_ | (refine SW.drawG ?_; simp only [gOps, gRc, gTail]) | refine SO.mov rfl rfl rfl ?_ | refine SO.notF rfl rfl rfl ?_ | refine SO.lenStr rfl rfl rfl ?_ | refine SO.fieldA rfl rfl rfl ?_)
      refine SO.callG rfl rfl rfl (decimal57 bs.length (by omega)) ?_
      rintro _ h2 n2 ⟨rfl, hE2⟩
      have hc2 : hb h2 n = some (.cell (xC (.atom bs)) 51 false) := by rw [hE2.same n (by omega)]; exact hc
      refine SO.more (Still.loadV (c := ⟨none, none, [], .mov⟩) rfl rfl rfl hc2 rfl Still.nil) ?_
      simp only [gOps, gRc, gTail]
      repeat' (first | refine SO.concat rfl rfl rfl rfl (by simp; omega) ?_ | refine SO.nilD ?_ | refine SO.mov rfl rfl rfl ?_)
      refine SW.ret code28 ⟨_, rfl, hq _ _ _ ⟨?_, hE.trans hE2⟩⟩
      show strOf ((decN bs.length ++ [58]) ++ bs) = _
      rw [List.append_assoc]; rfl
    | list v xs hs hxs =>
      simp only [XR.enc] at hle hq
      have hle' : XR.encs xs ++ [] = XR.encs xs := by simp
      have hlel : (XR.encs xs).length + 2 ≤ 1000000 := by simpa using hle
      have hlen : ∀ ys : List XR, ys.length ≤ (XR.encs ys).length := by
        intro ys
        induction ys with
        | nil => simp [XR.encs]
        | cons y ys ih =>
          have : 1 ≤ y.enc.length := by cases y <;> simp [XR.enc]; omega
          simp [XR.encs]; omega
      have hl := hlen xs
      have loop : ∀ (k i : Nat) (h1 : Hp) (n1 : Nat), i + k = xs.length → hb h1 n = some (.cell (xC (.list v xs)) 51 false) → n < n1 → Gr h n h1 n1 → ∀ R, look R r1 = some (.ptr n 0) → look R r3 = some (strOf (40 :: XR.encs (xs.take i))) → look R r4 = some (.int .i64 (i : Int)) → SW E Q 28 R [.code c28x8, .inLoop c28x8, .inBlock 0, .code (.seq (.reg c28x9) .ret)] cs h1 n1 := by
        intro k
        induction k with
        | zero =>
          intro i h1 n1 hi hc hnn hE R q1 q3 q4
          rw [show i = xs.length by omega, List.take_length] at q3
          refine SW.sub (R' := [(r1, .ptr n 0), (r3, strOf (40 :: XR.encs xs)), (r4, .int .i64 (i : Int))]) (by simp [q1, q3, q4]) ?_
          repeat' (first | refine SO.loadV rfl rfl rfl (by assumption) rfl ?_ | refine SO.concat rfl rfl rfl rfl (by simp; omega) ?_ | refine SW.seq ?_ | refine SW.reg ?_ | refine SO.nil ?_ | refine SW.condF rfl ?_ | refine SW.exit rfl ?_ | refine SO.mov rfl rfl rfl ?_ | refine SO.fieldA rfl rfl rfl ?_ | refine SO.lenSl rfl rfl rfl (by assumption) ?_ | refine SO.lssF rfl rfl rfl rfl (by omega) ?_)
          exact SW.ret code28 ⟨_, rfl, hq _ _ _ ⟨rfl, hE⟩⟩
        | succ k ihk =>
          intro i h1 n1 hi hc hnn hE R q1 q3 q4
          have hi' : i < xs.length := by omega
          have hs1 := hs.ext hE
          have hmem := List.getElem_mem hi'
          have e1 : XR.encs (xs.take (i + 1)) = XR.encs (xs.take i) ++ xs[i].enc := by rw [List.take_succ_eq_append_getElem hi', encs_append]; simp [XR.encs]
          have e2 : XR.encs xs = XR.encs (xs.take (i + 1)) ++ XR.encs (xs.drop (i + 1)) := by rw [← encs_append, List.take_append_drop]
          have e3 : (XR.encs (xs.take i)).length + xs[i].enc.length ≤ (XR.encs xs).length := by rw [e2, e1]; simp
          refine SW.sub (R' := [(r1, .ptr n 0), (r3, strOf (40 :: XR.encs (xs.take i))), (r4, .int .i64 (i : Int))]) (by simp [q1, q3, q4]) ?_
          repeat' (first | refine SO.loadV rfl rfl rfl (by assumption) rfl ?_ | refine SO.idxOf xC_length rfl rfl rfl rfl hs1 hi' (fun a o hp => ?_) | refine SO.loadA rfl rfl rfl (by assumption) (Gr.refl _ _) (xC_length _) ?_ | refine SW.seq ?_ | refine SW.block ?_ | refine SW.reg ?_ | refine SO.nil ?_ | refine SW.skip ?_ | refine SW.condT rfl ?_ | refine SO.mov rfl rfl rfl ?_ | refine SO.fieldA rfl rfl rfl ?_ | refine SO.lenSl rfl rfl rfl (by assumption) ?_ | refine SO.lssT rfl rfl rfl rfl (by omega) ?_)
          refine SO.callG rfl rfl rfl (ih (SizeOf.sizeOf xs[i]) (by rw [← hsz]; have := List.sizeOf_lt_of_mem hmem; simp; omega) xs[i] rfl ((hxs _ hmem).ext hE) (by omega)) ?_
          rintro _ h2 n2 ⟨rfl, hE2⟩
          repeat' (first | refine SO.concat rfl rfl rfl rfl (by simp; omega) ?_ | refine SW.reg ?_ | refine SO.nil ?_ | refine SW.out ?_ | refine SO.mov rfl rfl rfl ?_ | refine SO.add rfl rfl rfl rfl (by omega) ?_)
          refine SW.again ?_
          refine ihk (i + 1) h2 n2 (by omega) (by rw [hE2.same n hnn]; exact hc) (by have := hE2.le; omega) (hE.trans hE2) _ rfl ?_ rfl
          rw [e1]; rfl
      repeat' (first | refine SO.box rfl rfl rfl (by simp) (fun h1 hc hE => ?_) | refine SO.loadV rfl rfl rfl (by assumption) rfl ?_ | refine SW.seq ?_ | refine SW.block ?_ | refine SW.reg ?_ | refine SO.nil ?_ | refine SW.skip ?_ | refine SW.condF rfl ?_ | refine SO.mov rfl rfl rfl ?_ | refine SO.notT rfl rfl rfl ?_ | refine SO.fieldA rfl rfl rfl ?_)
      refine SW.loop ?_
      exact loop xs.length 0 _ _ (by omega) hc (by omega) hE _ rfl rfl rfl
theorem xcheck27 (x : XR) {h : Hp} {n : Nat} (hx : XOk h n x) (hf : XFit 12 x) (hn : x.nodes ≤ 20000) : Fn E 27 [.agg (xC x)] h n fun r h' n' => r = .int .i64 0 ∧ Gr h n h' n' := by
  refine Fn.of code27 (by decide) rfl fun Q cs hq => ?_
  show SW E Q 27 [(r0, .agg (xC x))] _ _ _ _
  repeat' (first | refine SO.box rfl rfl rfl (by simp) (fun h1 hc hE => ?_) | refine SW.seq ?_ | refine SW.reg ?_ | refine SO.nil ?_ | refine SO.mov rfl rfl rfl ?_)
  refine SO.loadVA rfl rfl rfl hc (xC_length x) ?_
  refine SO.callG rfl rfl rfl (count55 x 12 20000 (hx.ext hE) hf hn (by decide) (by decide)) ?_
  rintro _ h2 n2 ⟨rfl, hE2⟩
  have hc2 : hb h2 n = some (.cell (xC x) 51 false) := by rw [hE2.same n (by omega)]; exact hc
  repeat' (first | refine SW.seq ?_ | refine SW.reg ?_ | refine SO.nil ?_ | refine SW.skip ?_ | refine SW.condF rfl ?_ | refine SO.gtrF rfl rfl rfl rfl (by omega) ?_)
  refine SO.loadVA rfl rfl rfl hc2 (xC_length x) ?_
  refine SO.callG rfl rfl rfl (check56 x 12 (hx.ext (hE.trans hE2)) hf (by omega)) ?_
  rintro _ h3 n3 ⟨rfl, hE3⟩
  repeat' (first | refine SO.nil ?_ | refine SO.mov rfl rfl rfl ?_)
  exact SW.ret code27 ⟨_, rfl, hq _ _ _ ⟨rfl, (hE.trans hE2).trans hE3⟩⟩
theorem xencode16 (x : XR) {h : Hp} {n : Nat} (hx : XOk h n x) (hf : XFit 12 x) (hn : x.nodes ≤ 20000) (hle : x.enc.length ≤ 1000000) : Fn E 16 [.agg (xC x)] h n fun r h' n' => r = .tup [strOf x.enc, .int .i64 0] ∧ Gr h n h' n' := by
  refine Fn.of code16 (by decide) rfl fun Q cs hq => ?_
  show SW E Q 16 [(r0, .agg (xC x))] _ _ _ _
  repeat' (first | refine SO.box rfl rfl rfl (by simp) (fun h1 hc hE => ?_) | refine SW.seq ?_ | refine SW.reg ?_ | refine SO.nil ?_ | refine SO.mov rfl rfl rfl ?_)
  refine SO.loadVA rfl rfl rfl hc (xC_length x) ?_
  refine SO.callG rfl rfl rfl (xcheck27 x (hx.ext hE) hf hn) ?_
  rintro _ h2 n2 ⟨rfl, hE2⟩
  have hc2 : hb h2 n = some (.cell (xC x) 51 false) := by rw [hE2.same n (by omega)]; exact hc
  repeat' (first | refine SW.seq ?_ | refine SW.reg ?_ | refine SO.nil ?_ | refine SW.skip ?_ | refine SW.condF rfl ?_ | refine SO.mov rfl rfl rfl ?_ | refine SO.neiF rfl rfl rfl rfl (by omega) ?_)
  refine SO.loadVA rfl rfl rfl hc2 (xC_length x) ?_
  refine SO.callG rfl rfl rfl (encode28 x (hx.ext (hE.trans hE2)) hle) ?_
  rintro _ h3 n3 ⟨rfl, hE3⟩
  repeat' (first | refine SO.nil ?_ | refine SO.mov rfl rfl rfl ?_)
  exact SW.ret code16 ⟨_, rfl, _, rfl, hq _ _ _ ⟨rfl, (hE.trans hE2).trans hE3⟩⟩
end Go.Ev
