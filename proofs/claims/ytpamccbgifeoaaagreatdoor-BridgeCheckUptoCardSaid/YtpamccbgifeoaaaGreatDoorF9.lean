/- The expressions of the reference; its encoder. -/
import Derived.Test.YtpamccbgifeoaaaGreatDoorF8
set_option linter.all false
namespace Go.Ev
set_option maxRecDepth 100000
set_option maxHeartbeats 4000000
inductive XR where
  | atom (bs : List UInt8)
  | list (v : AV) (xs : List XR)
def xC : XR → List AV
  | .atom bs => [.bool false, strOf bs, .nils]
  | .list v _ => [.bool true, strOf [], v]
theorem xC_length (x : XR) : (xC x).length = 3 := by cases x <;> rfl
inductive XOk (h : Hp) (n : Nat) : XR → Prop where
  | atom (bs : List UInt8) : XOk h n (.atom bs)
  | list (v : AV) (xs : List XR) : Sl h n 3 v xs.length (xs.flatMap xC) → (∀ x ∈ xs, XOk h n x) → XOk h n (.list v xs)
theorem XOk.ext {h h' : Hp} {n n' : Nat} {x : XR} (hx : XOk h n x) (e : Gr h n h' n') : XOk h' n' x := by
  induction hx with
  | atom bs => exact .atom bs
  | list v xs hs _ ih => exact .list v xs (hs.ext e) ih
inductive SX where
  | atom (bs : List UInt8)
  | list (xs : List SX)
mutual
def XR.sx : XR → SX
  | .atom bs => .atom bs
  | .list _ xs => .list (XR.sxs xs)
def XR.sxs : List XR → List SX
  | [] => []
  | x :: xs => x.sx :: XR.sxs xs
end
mutual
def XR.enc : XR → List UInt8
  | .atom bs => decN bs.length ++ (58 :: bs)
  | .list _ xs => 40 :: (XR.encs xs ++ [41])
def XR.encs : List XR → List UInt8
  | [] => []
  | x :: xs => x.enc ++ XR.encs xs
end
mutual
def XR.nodes : XR → Nat
  | .atom _ => 1
  | .list _ xs => 1 + XR.nodess xs
def XR.nodess : List XR → Nat
  | [] => 0
  | x :: xs => x.nodes + XR.nodess xs
end
inductive XFit : Nat → XR → Prop where
  | atom (d : Nat) (bs : List UInt8) : bs.length ≤ 65536 → XFit (d + 1) (.atom bs)
  | list (d : Nat) (v : AV) (xs : List XR) : (∀ x ∈ xs, XFit d x) → XFit (d + 1) (.list v xs)
theorem encs_append (xs ys : List XR) : XR.encs (xs ++ ys) = XR.encs xs ++ XR.encs ys := by
  induction xs with
  | nil => simp [XR.encs]
  | cons x xs ih => simp [XR.encs, ih]
theorem nodess_append (xs ys : List XR) : XR.nodess (xs ++ ys) = XR.nodess xs + XR.nodess ys := by
  induction xs with
  | nil => simp [XR.nodess]
  | cons x xs ih => simp [XR.nodess, ih]; omega
theorem atom31 {h : Hp} {n : Nat} (bs : List UInt8) : Fn E 31 [strOf bs] h n fun r h' n' => r = .agg (xC (.atom bs)) ∧ Gr h n h' n' := by
  refine Fn.of code31 (by decide) rfl fun Q cs hq => ?_
  show SW E Q 31 [(r0, strOf bs)] _ _ _ _
  repeat' (first | refine SO.alloc rfl rfl (fun h3 hc3 hE3 => ?_) | refine SO.build rfl rfl rfl (fun K => rfl) ?_ | refine SO.storeAll rfl rfl rfl hc3 rfl rfl (fun h4 hc4 hk4 => ?_) | refine SW.seq ?_ | refine SW.reg ?_ | refine SO.nil ?_ | refine SO.mov rfl rfl rfl ?_)
  exact SW.ret code31 ⟨n, 0, _, rfl, .inl ⟨_, _, hc4⟩, by simp, hq _ _ _ ⟨rfl, hE3.keep (Nat.le_refl _) hk4⟩⟩
theorem list30 {h h0 : Hp} {n n0 : Nat} {v : AV} {xs : List XR} (hs : Sl h0 n0 3 v xs.length (xs.flatMap xC)) : Fn E 30 [v] h n fun r h' n' => r = .agg (xC (.list v xs)) ∧ Gr h n h' n' := by
  have hv : v = .nils ∨ (∃ a b c d, v = .slc a b c d) ∨ (∃ a b c d, v = .gsl a b c d) := by
    obtain ⟨_, ⟨rfl, _⟩ | ⟨a, o, c, vs, ⟨rfl, _⟩ | ⟨rfl, _⟩, _⟩⟩ := hs
    · exact .inl rfl
    · exact .inr (.inl ⟨_, _, _, _, rfl⟩)
    · exact .inr (.inr ⟨_, _, _, _, rfl⟩)
  refine Fn.of code30 (by decide) rfl fun Q cs hq => ?_
  show SW E Q 30 [(r0, v)] _ _ _ _
  rcases hv with rfl | ⟨_, _, _, _, rfl⟩ | ⟨_, _, _, _, rfl⟩
  all_goals
    repeat' (first | refine SO.alloc rfl rfl (fun h3 hc3 hE3 => ?_) | refine SO.build rfl rfl rfl (fun K => rfl) ?_ | refine SO.storeAll rfl rfl rfl hc3 rfl rfl (fun h4 hc4 hk4 => ?_) | refine SW.seq ?_ | refine SW.reg ?_ | refine SO.nil ?_ | refine SO.mov rfl rfl rfl ?_)
    exact SW.ret code30 ⟨n, 0, _, rfl, .inl ⟨_, _, hc4⟩, by simp, hq _ _ _ ⟨rfl, hE3.keep (Nat.le_refl _) hk4⟩⟩
theorem number29 {h : Hp} {n : Nat} (m : Nat) (hm : m ≤ 9000000000000000000) : Fn E 29 [.int .i64 (m : Int)] h n fun r h' n' => r = .agg (xC (.atom (decN m))) ∧ Gr h n h' n' := by
  refine Fn.of code29 (by decide) rfl fun Q cs hq => ?_
  show SW E Q 29 [(r0, .int .i64 (m : Int))] _ _ _ _
  repeat' (first | refine SO.alloc rfl rfl (fun h3 hc3 hE3 => ?_) | refine SW.seq ?_ | refine SW.reg ?_ | refine SO.nil ?_ | refine SO.mov rfl rfl rfl ?_)
  refine SO.callG rfl rfl rfl (decimal57 m hm) ?_
  rintro _ h1 n1 ⟨rfl, hE1⟩
  refine SO.callG rfl rfl rfl (atom31 (decN m)) ?_
  rintro _ h2 n2 ⟨rfl, hE2⟩
  have hc : hb h2 n = some (.cell [.bool false, strOf [], .nils] 51 false) := by rw [hE2.same n (by have := hE1.le; omega), hE1.same n (by omega)]; exact hc3
  repeat' (first | refine SO.storeAll rfl rfl rfl hc rfl rfl (fun h4 hc4 hk4 => ?_) | refine SO.nil ?_)
  exact SW.ret code29 ⟨n, 0, _, rfl, .inl ⟨_, _, hc4⟩, by simp [xC], hq _ _ _ ⟨rfl, ((hE3.trans hE1).trans hE2).keep (Nat.le_refl _) hk4⟩⟩
theorem count55 : ∀ (x : XR) (d mx : Nat) {h : Hp} {n : Nat}, XOk h n x → XFit d x → x.nodes ≤ mx → mx ≤ 1000000 → d ≤ 1000 → Fn E 55 [.agg (xC x), .int .i64 (mx : Int), .int .i64 (d : Int)] h n fun r h' n' => r = .int .i64 (x.nodes : Int) ∧ Gr h n h' n' := by
  intro x
  induction hsz : SizeOf.sizeOf x using Nat.strongRecOn generalizing x with
  | ind sz ih =>
    intro d mx h n hx hf hn hmx hd
    refine Fn.of code55 (by decide) rfl fun Q cs hq => ?_
    show SW E Q 55 [(r0, .agg (xC x)), (r1, .int .i64 (mx : Int)), (r2, .int .i64 (d : Int))] _ _ _ _
    cases hx with
    | atom bs =>
      cases hf with
      | atom d' _ hbs =>
        simp only [XR.nodes] at hn hq
        repeat' (first | refine SO.box rfl rfl rfl (by simp) (fun h1 hc hE => ?_) | refine SO.loadV rfl rfl rfl (by assumption) rfl ?_ | refine SW.seq ?_ | refine SW.reg ?_ | refine SO.nil ?_ | refine SW.skip ?_ | refine SW.condT rfl ?_ | refine SW.condF rfl ?_ | refine SO.mov rfl rfl rfl ?_ | refine SO.pickF rfl rfl rfl rfl rfl ?_ | refine SO.notF rfl rfl rfl ?_ | refine SO.fieldA rfl rfl rfl ?_ | refine SO.lssF rfl rfl rfl rfl (by omega) ?_)
        exact SW.ret code55 ⟨_, rfl, hq _ _ _ ⟨rfl, hE⟩⟩
    | list v xs hs hxs =>
      cases hf with
      | list d' _ _ hfs =>
        simp only [XR.nodes] at hn hq
        have hsl := xs.length
        have hlen : ∀ ys : List XR, ys.length ≤ XR.nodess ys := by
          intro ys
          induction ys with
          | nil => simp [XR.nodess]
          | cons y ys ih =>
            have : 1 ≤ y.nodes := by cases y <;> simp [XR.nodes]
            simp [XR.nodess]; omega
        have hl := hlen xs
        have loop : ∀ (k i : Nat) (h1 : Hp) (n1 : Nat), i + k = xs.length → hb h1 n = some (.cell (xC (.list v xs)) 51 false) → n < n1 → Gr h n h1 n1 → ∀ R, look R r1 = some (.int .i64 (mx : Int)) → look R r2 = some (.int .i64 ((d' + 1 : Nat) : Int)) → look R r3 = some (.ptr n 0) → look R r7 = some (.int .i64 ((1 + XR.nodess (xs.take i) : Nat) : Int)) → look R r8 = some (.int .i64 (i : Int)) → SW E Q 55 R [.code c55x10, .inLoop c55x10, .inBlock 0, .code (.seq (.reg c55x11) .ret)] cs h1 n1 := by
          intro k
          induction k with
          | zero =>
            intro i h1 n1 hi hc hnn hE R q1 q2 q3 q7 q8
            rw [show i = xs.length by omega, List.take_length] at q7
            refine SW.sub (R' := [(r1, .int .i64 (mx : Int)), (r2, .int .i64 ((d' + 1 : Nat) : Int)), (r3, .ptr n 0), (r7, .int .i64 ((1 + XR.nodess xs : Nat) : Int)), (r8, .int .i64 (i : Int))]) (by simp [q1, q2, q3, q7, q8]) ?_
            repeat' (first | refine SO.loadV rfl rfl rfl (by assumption) rfl ?_ | refine SW.seq ?_ | refine SW.reg ?_ | refine SO.nil ?_ | refine SW.condF rfl ?_ | refine SW.exit rfl ?_ | refine SO.nope rfl rfl ?_ | refine SO.mov rfl rfl rfl ?_ | refine SO.pickF rfl rfl rfl rfl rfl ?_ | refine SO.fieldA rfl rfl rfl ?_ | refine SO.lenSl rfl rfl rfl (by assumption) ?_ | refine SO.lssF rfl rfl rfl rfl (by omega) ?_)
            exact SW.ret code55 ⟨_, rfl, hq _ _ _ ⟨rfl, hE⟩⟩
          | succ k ihk =>
            intro i h1 n1 hi hc hnn hE R q1 q2 q3 q7 q8
            have hi' : i < xs.length := by omega
            have hs1 := hs.ext hE
            have e1 : XR.nodess (xs.take (i + 1)) = XR.nodess (xs.take i) + xs[i].nodes := by rw [List.take_succ_eq_append_getElem hi', nodess_append]; simp [XR.nodess]
            have e2 : XR.nodess xs = XR.nodess (xs.take (i + 1)) + XR.nodess (xs.drop (i + 1)) := by rw [← nodess_append, List.take_append_drop]
            have hmem := List.getElem_mem hi'
            refine SW.sub (R' := [(r1, .int .i64 (mx : Int)), (r2, .int .i64 ((d' + 1 : Nat) : Int)), (r3, .ptr n 0), (r7, .int .i64 ((1 + XR.nodess (xs.take i) : Nat) : Int)), (r8, .int .i64 (i : Int))]) (by simp [q1, q2, q3, q7, q8]) ?_
            repeat' (first | refine SO.loadV rfl rfl rfl (by assumption) rfl ?_ | refine SO.idxOf xC_length rfl rfl rfl rfl hs1 hi' (fun a o hp => ?_) | refine SO.loadA rfl rfl rfl (by assumption) (Gr.refl _ _) (xC_length _) ?_ | refine SW.seq ?_ | refine SW.block ?_ | refine SW.reg ?_ | refine SO.nil ?_ | refine SW.skip ?_ | refine SW.condT rfl ?_ | refine SO.mov rfl rfl rfl ?_ | refine SO.pickT rfl rfl rfl rfl rfl ?_ | refine SO.fieldA rfl rfl rfl ?_ | refine SO.lenSl rfl rfl rfl (by assumption) ?_ | refine SO.lssT rfl rfl rfl rfl (by omega) ?_ | refine SO.leqT rfl rfl rfl rfl (by omega) ?_ | refine SO.sub rfl rfl rfl rfl (by omega) ?_)
            have hfn := ih (SizeOf.sizeOf xs[i]) (by rw [← hsz]; have := List.sizeOf_lt_of_mem hmem; simp; omega) xs[i] rfl d' (mx - (1 + XR.nodess (xs.take i))) ((hxs _ hmem).ext hE) (hfs _ hmem) (by omega) (by omega) (by omega)
            rw [show ((mx - (1 + XR.nodess (xs.take i)) : Nat) : Int) = (mx : Int) - ((1 + XR.nodess (xs.take i) : Nat) : Int) by omega, show ((d' : Nat) : Int) = ((d' + 1 : Nat) : Int) - 1 by omega] at hfn
            refine SO.callG rfl rfl rfl hfn ?_
            rintro _ h2 n2 ⟨rfl, hE2⟩
            repeat' (first | refine SW.reg ?_ | refine SO.nil ?_ | refine SW.out ?_ | refine SO.mov rfl rfl rfl ?_ | refine SO.add rfl rfl rfl rfl (by omega) ?_)
            refine SW.again ?_
            refine ihk (i + 1) h2 n2 (by omega) (by rw [hE2.same n hnn]; exact hc) (by have := hE2.le; omega) (hE.trans hE2) _ rfl rfl rfl ?_ rfl
            rw [e1, ← Nat.add_assoc]; rfl
        repeat' (first | refine SO.box rfl rfl rfl (by simp) (fun h1 hc hE => ?_) | refine SO.loadV rfl rfl rfl (by assumption) rfl ?_ | refine SW.seq ?_ | refine SW.block ?_ | refine SW.reg ?_ | refine SO.nil ?_ | refine SW.skip ?_ | refine SW.condF rfl ?_ | refine SO.mov rfl rfl rfl ?_ | refine SO.pickF rfl rfl rfl rfl rfl ?_ | refine SO.notT rfl rfl rfl ?_ | refine SO.fieldA rfl rfl rfl ?_ | refine SO.lssF rfl rfl rfl rfl (by omega) ?_)
        refine SW.loop ?_
        exact loop xs.length 0 _ _ (by omega) hc (by omega) hE _ rfl rfl rfl rfl rfl
end Go.Ev
