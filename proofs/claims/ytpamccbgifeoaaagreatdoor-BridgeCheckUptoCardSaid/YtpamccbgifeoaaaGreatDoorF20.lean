/- Contracts: the program's encoder: encode, add, shape, Check, Encode. -/
import Derived.Test.YtpamccbgifeoaaaGreatDoorF19
set_option linter.all false
namespace Go.Ev
set_option maxRecDepth 100000
set_option maxHeartbeats 4000000
theorem XR.nodes_pos (x : XR) : 1 ≤ x.nodes := by cases x <;> simp [XR.nodes]
theorem nodess_len : ∀ ys : List XR, ys.length ≤ XR.nodess ys
  | [] => by simp [XR.nodess]
  | y :: ys => by
    have := y.nodes_pos
    have := nodess_len ys
    simp [XR.nodess]; omega
theorem XR.enc_pos (x : XR) : 1 ≤ x.enc.length := by cases x <;> simp [XR.enc]; omega
theorem encs_len : ∀ ys : List XR, ys.length ≤ (XR.encs ys).length
  | [] => by simp [XR.encs]
  | y :: ys => by
    have := y.enc_pos
    have := encs_len ys
    simp [XR.encs]; omega
theorem encs_take {xs : List XR} {i : Nat} (hi : i < xs.length) : XR.encs (xs.take (i + 1)) = XR.encs (xs.take i) ++ xs[i].enc ∧ (XR.encs (xs.take i)).length + xs[i].enc.length ≤ (XR.encs xs).length := by
  have e1 : XR.encs (xs.take (i + 1)) = XR.encs (xs.take i) ++ xs[i].enc := by rw [List.take_succ_eq_append_getElem hi, encs_append]; simp [XR.encs]
  have e2 : XR.encs xs = XR.encs (xs.take (i + 1)) ++ XR.encs (xs.drop (i + 1)) := by rw [← encs_append, List.take_append_drop]
  exact ⟨e1, by rw [e2, e1]; simp⟩
theorem nodess_take {xs : List XR} {i : Nat} (hi : i < xs.length) : XR.nodess (xs.take (i + 1)) = XR.nodess (xs.take i) + xs[i].nodes ∧ XR.nodess (xs.take i) + xs[i].nodes ≤ XR.nodess xs := by
  have e1 : XR.nodess (xs.take (i + 1)) = XR.nodess (xs.take i) + xs[i].nodes := by rw [List.take_succ_eq_append_getElem hi, nodess_append]; simp [XR.nodess]
  have e2 : XR.nodess xs = XR.nodess (xs.take (i + 1)) + XR.nodess (xs.drop (i + 1)) := by rw [← nodess_append, List.take_append_drop]
  exact ⟨e1, by omega⟩
theorem encode25 : ∀ (x : XR) {h : Hp} {n b : Nat} {bs : List UInt8}, Pow h b → XOk h b x → Bld h n b bs → bs.length + x.enc.length ≤ 1000000 → Fn E 25 [.ptr b 0, .agg (xC x)] h n fun r h' n' => Bld h' n' b (bs ++ x.enc) ∧ Kp b h n h' n' := by
  intro x
  induction hsz : SizeOf.sizeOf x using Nat.strongRecOn generalizing x with
  | ind sz ih =>
    intro h n b bs hpw hx hB hle
    have hbn := hB.lt
    refine Fn.of code25 (by decide) rfl fun Q cs hq => ?_
    show SW E Q 25 [(r0, .ptr b 0), (r1, .agg (xC x))] _ _ _ _
    cases hx with
    | atom ts =>
      simp only [XR.enc] at hle hq
      have hle' : bs.length + ((decN ts.length).length + 1 + ts.length) ≤ 1000000 := by simpa [Nat.add_assoc, Nat.add_comm] using hle
      repeat' (first | refine SO.box rfl rfl rfl (by simp) (fun h1 hc hE => ?_) | refine SO.loadV rfl rfl rfl (by assumption) rfl ?_ | refine SW.seq ?_ | refine SW.reg ?_ | refine SO.nil ?_ | refine SW.condT rfl ?_ | refine SO.mov rfl rfl rfl ?_ | refine SO.notF rfl rfl rfl ?_ | refine SO.lenStr rfl rfl rfl ?_ | refine SO.fieldA rfl rfl rfl ?_)
      refine SO.callG rfl rfl rfl (itoa50 (hpw.ext (hE.less (by omega))) ts.length (by omega)) ?_
      rintro _ h2 n2 ⟨rfl, hE2⟩
      have l2 := hE2.le
      refine SO.callG rfl rfl rfl (writeString53 (decN ts.length) ((hB.ext hE).ext hE2) (by omega)) ?_
      rintro _ h3 n3 ⟨hB3, hK3⟩
      have l3 := hK3.le
      repeat' (first | refine SW.seq ?_ | refine SW.reg ?_ | refine SO.nil ?_ | refine SO.mov rfl rfl rfl ?_)
      refine SO.callG rfl rfl rfl (writeByte54 58 hB3 (by simp; omega)) ?_
      rintro _ h4 n4 ⟨hB4, hK4⟩
      have l4 := hK4.le
      have hc4 : hb h4 n = some (.cell (xC (.atom ts)) 51 false) := hK4.cell n _ _ _ (by omega) (by omega) (hK3.cell n _ _ _ (by omega) (by omega) (by rw [hE2.same n (by omega)]; exact hc))
      repeat' (first | refine SO.loadV rfl rfl rfl hc4 rfl ?_ | refine SW.seq ?_ | refine SW.reg ?_ | refine SO.nil ?_ | refine SO.mov rfl rfl rfl ?_ | refine SO.fieldA rfl rfl rfl ?_)
      refine SO.callG rfl rfl rfl (writeString53 ts hB4 (by simp; omega)) ?_
      rintro _ h5 n5 ⟨hB5, hK5⟩
      repeat' refine SO.nil ?_
      refine SW.ret code25 (hq _ _ _ ⟨?_, (((Kp.of (hE.trans hE2) hbn).trans hK3).trans hK4).trans hK5⟩)
      have e : bs ++ (decN ts.length ++ 58 :: ts) = bs ++ decN ts.length ++ [58] ++ ts := by simp
      rw [e]; exact hB5
    | list v xs hs hxs =>
      simp only [XR.enc] at hle hq
      have hlel : bs.length + ((XR.encs xs).length + 2) ≤ 1000000 := by simpa using hle
      have hl := encs_len xs
      have loop : ∀ (k i : Nat) (h1 : Hp) (n1 : Nat), i + k = xs.length → Bld h1 n1 b (bs ++ 40 :: XR.encs (xs.take i)) → Kp b h n h1 n1 → ∀ R, look R r0 = some (.ptr b 0) → look R r24 = some v → look R r25 = some (.int .i64 (xs.length : Int)) → look R r26 = some (.int .i64 (i : Int)) → SW E Q 25 R [.code c25x11, .inLoop c25x11, .inBlock 0, .code (.reg c25x12)] cs h1 n1 := by
        intro k
        induction k with
        | zero =>
          intro i h1 n1 hi hB1 hK1 R q0 q24 q25 q26
          rw [show i = xs.length by omega, List.take_length] at hB1
          refine SW.sub (R' := [(r0, .ptr b 0), (r24, v), (r25, .int .i64 (xs.length : Int)), (r26, .int .i64 (i : Int))]) (by simp [q0, q24, q25, q26]) ?_
          repeat' (first | refine SW.seq ?_ | refine SW.reg ?_ | refine SO.nil ?_ | refine SW.condF rfl ?_ | refine SW.exit rfl ?_ | refine SO.mov rfl rfl rfl ?_ | refine SO.lssF rfl rfl rfl rfl (by omega) ?_)
          refine SO.callG rfl rfl rfl (writeByte54 41 hB1 (by simp; omega)) ?_
          rintro _ h2 n2 ⟨hB2, hK2⟩
          repeat' refine SO.nil ?_
          refine SW.fin code25 (hq _ _ _ ⟨?_, hK1.trans hK2⟩)
          have e : bs ++ 40 :: (XR.encs xs ++ [41]) = bs ++ 40 :: XR.encs xs ++ [41] := by simp
          rw [e]; exact hB2
        | succ k ihk =>
          intro i h1 n1 hi hB1 hK1 R q0 q24 q25 q26
          have hi' : i < xs.length := by omega
          have l1 := hK1.le
          have hs1 := hs.ext hK1.gr
          have hmem := List.getElem_mem hi'
          obtain ⟨e1, e3⟩ := encs_take hi'
          refine SW.sub (R' := [(r0, .ptr b 0), (r24, v), (r25, .int .i64 (xs.length : Int)), (r26, .int .i64 (i : Int))]) (by simp [q0, q24, q25, q26]) ?_
          repeat' (first | refine SO.idxOf xC_length rfl rfl rfl rfl hs1 hi' (fun a o hp => ?_) | refine SO.loadA rfl rfl rfl (by assumption) ⟨by omega, fun _ _ => rfl⟩ (xC_length _) ?_ | refine SO.alloc rfl rfl (fun h2 hc2 hE2 => ?_) | refine SW.seq ?_ | refine SW.block ?_ | refine SW.reg ?_ | refine SO.nil ?_ | refine SW.skip ?_ | refine SW.condT rfl ?_ | refine SO.lssT rfl rfl rfl rfl (by omega) ?_)
          refine SO.storeAll rfl rfl rfl hc2 (xC_length _) rfl (fun h3 hc3 hk3 => ?_)
          have hE3 : Gr h1 n1 h3 (n1 + 1) := hE2.keep (Nat.le_refl _) hk3
          repeat' (first | refine SW.reg ?_ | refine SO.nil ?_ | refine SO.mov rfl rfl rfl ?_)
          refine SO.loadVA rfl rfl rfl hc3 (xC_length _) ?_
          skip
          have hG3 : Gr h b h3 b := hK1.gr.trans (Kp.of hE3 (by omega)).gr
          refine SO.callG rfl rfl rfl (ih (SizeOf.sizeOf xs[i]) (by rw [← hsz]; have := List.sizeOf_lt_of_mem hmem; simp; omega) xs[i] rfl (hpw.ext hG3) ((hxs _ hmem).ext hG3) (hB1.ext hE3) (by simp; omega)) ?_
          rintro _ h4 n4 ⟨hB4, hK4⟩
          repeat' (first | refine SW.reg ?_ | refine SO.nil ?_ | refine SW.out ?_ | refine SO.mov rfl rfl rfl ?_ | refine SO.add rfl rfl rfl rfl (by omega) ?_)
          refine SW.again ?_
          refine ihk (i + 1) h4 n4 (by omega) ?_ ((hK1.trans (Kp.of hE3 (by omega))).trans hK4) _ rfl rfl rfl rfl
          rw [e1]
          have e : bs ++ 40 :: (XR.encs (xs.take i) ++ xs[i].enc) = bs ++ 40 :: XR.encs (xs.take i) ++ xs[i].enc := by simp
          rw [e]; exact hB4
      repeat' (first | refine SO.box rfl rfl rfl (by simp) (fun h1 hc hE => ?_) | refine SO.loadV rfl rfl rfl (by assumption) rfl ?_ | refine SW.seq ?_ | refine SW.reg ?_ | refine SO.nil ?_ | refine SW.skip ?_ | refine SW.condF rfl ?_ | refine SO.mov rfl rfl rfl ?_ | refine SO.notT rfl rfl rfl ?_ | refine SO.fieldA rfl rfl rfl ?_)
      refine SO.callG rfl rfl rfl (writeByte54 40 (hB.ext hE) (by omega)) ?_
      rintro _ h2 n2 ⟨hB2, hK2⟩
      have hc2 : hb h2 n = some (.cell (xC (.list v xs)) 51 false) := hK2.cell n _ _ _ (by omega) (by omega) hc
      have hK : Kp b h n h2 n2 := (Kp.of hE hbn).trans hK2
      have hs2 := hs.ext hK.gr
      repeat' (first | refine SO.loadV rfl rfl rfl hc2 rfl ?_ | refine SW.seq ?_ | refine SW.block ?_ | refine SW.reg ?_ | refine SO.nil ?_ | refine SO.mov rfl rfl rfl ?_ | refine SO.fieldA rfl rfl rfl ?_ | refine SO.lenSl rfl rfl rfl (by assumption) ?_)
      refine SW.loop ?_
      exact loop xs.length 0 _ _ (by omega) (by simpa [XR.encs] using hB2) hK _ rfl rfl rfl rfl
theorem add51 : ∀ (x : XR) (d : Nat) {h : Hp} {n m c lv : Nat}, XOk h m x → XFit d x → hb h m = some (.cell [.int .i64 (c : Int), .bool false] 111 false) → m < n → c + x.nodes ≤ 20000 → lv + d ≤ 13 → Fn E 51 [.ptr m 0, .agg (xC x), .int .i64 (lv : Int)] h n fun r h' n' => hb h' m = some (.cell [.int .i64 ((c + x.nodes : Nat) : Int), .bool false] 111 false) ∧ n ≤ n' ∧ ∀ a, a ≠ m → a < n → hb h' a = hb h a := by
  intro x
  induction hsz : SizeOf.sizeOf x using Nat.strongRecOn generalizing x with
  | ind sz ih =>
    intro d h n m c lv hx hf hm hmn hc20 hd
    refine Fn.of code51 (by decide) rfl fun Q cs hq => ?_
    show SW E Q 51 [(r0, .ptr m 0), (r1, .agg (xC x)), (r2, .int .i64 (lv : Int))] _ _ _ _
    cases hx with
    | atom ts =>
      cases hf with
      | atom d' _ hbs =>
        simp only [XR.nodes] at hc20 hq
        repeat' (first | refine SO.box rfl rfl rfl (by simp) (fun h1 hc1 hE => ?_) | refine SW.seq ?_ | refine SW.reg ?_ | refine SO.nil ?_ | refine SO.mov rfl rfl rfl ?_ | refine SO.fieldA rfl rfl rfl ?_ | refine SO.nilchk rfl rfl rfl ?_)
        have hm1 : hb h1 m = some (.cell [.int .i64 (c : Int), .bool false] 111 false) := by rw [hE.same m hmn]; exact hm
        repeat' (first | refine SO.loadV rfl rfl rfl hm1 rfl ?_ | refine SO.fieldA rfl rfl rfl ?_ | refine SO.nilchk rfl rfl rfl ?_ | refine SO.add rfl rfl rfl rfl (by omega) ?_)
        refine SO.store1 rfl rfl rfl hm1 rfl (by simp) (by simp) (fun h2 hm2 hk2 => ?_)
        have hc2 : hb h2 n = some (.cell (xC (.atom ts)) 51 false) := by rw [hk2 n (by omega)]; exact hc1
        repeat' (first | refine SO.loadV rfl rfl rfl hc2 rfl ?_ | refine SO.loadV rfl rfl rfl hm2 rfl ?_ | refine SW.seq ?_ | refine SW.reg ?_ | refine SO.nil ?_ | refine SW.skip ?_ | refine SW.condT rfl ?_ | refine SW.condF rfl ?_ | refine SO.mov rfl rfl rfl ?_ | refine SO.pickF rfl rfl rfl rfl rfl ?_ | refine SO.notF rfl rfl rfl ?_ | refine SO.fieldA rfl rfl rfl ?_ | refine SO.nilchk rfl rfl rfl ?_ | refine SO.gtrF rfl rfl rfl rfl (by omega) ?_)
        exact SW.ret code51 (hq _ _ _ ⟨hm2, by omega, fun a h1 h2 => by rw [hk2 a h1, hE.same a h2]⟩)
    | list v xs hs hxs =>
      cases hf with
      | list d' _ _ hfs =>
        simp only [XR.nodes] at hc20 hq
        have hl := nodess_len xs
        have loop : ∀ (k i : Nat) (h1 : Hp) (n1 : Nat), i + k = xs.length → hb h1 m = some (.cell [.int .i64 ((c + 1 + XR.nodess (xs.take i) : Nat) : Int), .bool false] 111 false) → n ≤ n1 → (∀ a, a ≠ m → a < n → hb h1 a = hb h a) → ∀ R, look R r0 = some (.ptr m 0) → look R r2 = some (.int .i64 (lv : Int)) → look R r31 = some v → look R r32 = some (.int .i64 (xs.length : Int)) → look R r33 = some (.int .i64 (i : Int)) → SW E Q 51 R [.code c51x11, .inLoop c51x11, .inBlock 0] cs h1 n1 := by
          intro k
          induction k with
          | zero =>
            intro i h1 n1 hi hm1 hn1 hk1 R q0 q2 q31 q32 q33
            rw [show i = xs.length by omega, List.take_length] at hm1
            refine SW.sub (R' := [(r0, .ptr m 0), (r2, .int .i64 (lv : Int)), (r31, v), (r32, .int .i64 (xs.length : Int)), (r33, .int .i64 (i : Int))]) (by simp [q0, q2, q31, q32, q33]) ?_
            repeat' (first | refine SW.seq ?_ | refine SW.reg ?_ | refine SO.nil ?_ | refine SW.condF rfl ?_ | refine SW.exit rfl ?_ | refine SO.lssF rfl rfl rfl rfl (by omega) ?_)
            exact SW.fin code51 (hq _ _ _ ⟨by rw [← Nat.add_assoc]; exact hm1, hn1, hk1⟩)
          | succ k ihk =>
            intro i h1 n1 hi hm1 hn1 hk1 R q0 q2 q31 q32 q33
            have hi' : i < xs.length := by omega
            have hGm : Gr h m h1 m := ⟨Nat.le_refl _, fun a ha => hk1 a (by omega) (by omega)⟩
            have hs1 := hs.ext hGm
            have hmem := List.getElem_mem hi'
            obtain ⟨e1, e2⟩ := nodess_take hi'
            refine SW.sub (R' := [(r0, .ptr m 0), (r2, .int .i64 (lv : Int)), (r31, v), (r32, .int .i64 (xs.length : Int)), (r33, .int .i64 (i : Int))]) (by simp [q0, q2, q31, q32, q33]) ?_
            repeat' (first | refine SO.idxOf xC_length rfl rfl rfl rfl hs1 hi' (fun a o hp => ?_) | refine SO.loadA rfl rfl rfl (by assumption) ⟨by omega, fun _ _ => rfl⟩ (xC_length _) ?_ | refine SO.alloc rfl rfl (fun h2 hc2 hE2 => ?_) | refine SW.seq ?_ | refine SW.block ?_ | refine SW.reg ?_ | refine SO.nil ?_ | refine SW.skip ?_ | refine SW.condT rfl ?_ | refine SO.lssT rfl rfl rfl rfl (by omega) ?_)
            refine SO.storeAll rfl rfl rfl hc2 (xC_length _) rfl (fun h3 hc3 hk3 => ?_)
            have hE3 : Gr h1 n1 h3 (n1 + 1) := hE2.keep (Nat.le_refl _) hk3
            have hm3 : hb h3 m = some (.cell [.int .i64 ((c + 1 + XR.nodess (xs.take i) : Nat) : Int), .bool false] 111 false) := by rw [hE3.same m (by omega)]; exact hm1
            repeat' (first | refine SO.loadV rfl rfl rfl hm3 rfl ?_ | refine SW.seq ?_ | refine SW.reg ?_ | refine SO.nil ?_ | refine SW.skip ?_ | refine SW.condF rfl ?_ | refine SO.mov rfl rfl rfl ?_ | refine SO.fieldA rfl rfl rfl ?_ | refine SO.nilchk rfl rfl rfl ?_)
            refine SO.loadVA rfl rfl rfl hc3 (xC_length _) ?_
            repeat' (first | refine SO.mov rfl rfl rfl ?_ | refine SO.add rfl rfl rfl rfl (by omega) ?_)
            have hG3 : Gr h m h3 m := ⟨Nat.le_refl _, fun a ha => by rw [hE3.same a (by omega)]; exact hk1 a (by omega) (by omega)⟩
            have hfn := ih (SizeOf.sizeOf xs[i]) (by rw [← hsz]; have := List.sizeOf_lt_of_mem hmem; simp; omega) xs[i] rfl d' (lv := lv + 1) (n := n1 + 1) ((hxs _ hmem).ext hG3) (hfs _ hmem) hm3 (by omega) (by omega) (by omega)
            rw [show ((lv + 1 : Nat) : Int) = (lv : Int) + 1 by omega] at hfn
            refine SO.callG rfl rfl rfl hfn ?_
            rintro _ h4 n4 ⟨hm4, hn4, hk4⟩
            repeat' (first | refine SW.reg ?_ | refine SO.nil ?_ | refine SW.out ?_ | refine SO.mov rfl rfl rfl ?_ | refine SO.add rfl rfl rfl rfl (by omega) ?_)
            refine SW.again ?_
            refine ihk (i + 1) h4 n4 (by omega) ?_ (by omega) (fun a ha1 ha2 => by rw [hk4 a ha1 (by omega), hE3.same a (by omega)]; exact hk1 a ha1 ha2) _ rfl rfl rfl rfl rfl
            rw [e1, ← Nat.add_assoc]; exact hm4
        repeat' (first | refine SO.box rfl rfl rfl (by simp) (fun h1 hc1 hE => ?_) | refine SW.seq ?_ | refine SW.reg ?_ | refine SO.nil ?_ | refine SO.mov rfl rfl rfl ?_ | refine SO.fieldA rfl rfl rfl ?_ | refine SO.nilchk rfl rfl rfl ?_)
        have hm1 : hb h1 m = some (.cell [.int .i64 (c : Int), .bool false] 111 false) := by rw [hE.same m hmn]; exact hm
        repeat' (first | refine SO.loadV rfl rfl rfl hm1 rfl ?_ | refine SO.fieldA rfl rfl rfl ?_ | refine SO.nilchk rfl rfl rfl ?_ | refine SO.add rfl rfl rfl rfl (by omega) ?_)
        refine SO.store1 rfl rfl rfl hm1 rfl (by simp) (by simp) (fun h2 hm2 hk2 => ?_)
        have hc2 : hb h2 n = some (.cell (xC (.list v xs)) 51 false) := by rw [hk2 n (by omega)]; exact hc1
        repeat' (first | refine SO.loadV rfl rfl rfl hc2 rfl ?_ | refine SO.loadV rfl rfl rfl hm2 rfl ?_ | refine SW.seq ?_ | refine SW.block ?_ | refine SW.reg ?_ | refine SO.nil ?_ | refine SW.skip ?_ | refine SW.condF rfl ?_ | refine SO.mov rfl rfl rfl ?_ | refine SO.pickF rfl rfl rfl rfl rfl ?_ | refine SO.notT rfl rfl rfl ?_ | refine SO.fieldA rfl rfl rfl ?_ | refine SO.nilchk rfl rfl rfl ?_ | refine SO.lenSl rfl rfl rfl (by assumption) ?_ | refine SO.gtrF rfl rfl rfl rfl (by omega) ?_)
        refine SW.loop ?_
        refine loop xs.length 0 h2 (n + 1) (by omega) ?_ (by omega) (fun a h1 h2 => by rw [hk2 a h1, hE.same a h2]) _ rfl rfl rfl rfl rfl
        exact hm2
theorem shape52 : ∀ (x : XR) (d : Nat) {h : Hp} {n : Nat}, XOk h n x → XFit d x → x.nodes ≤ 1000000 → Fn E 52 [.agg (xC x)] h n fun r h' n' => r = .int .i64 0 ∧ Gr h n h' n' := by
  intro x
  induction hsz : SizeOf.sizeOf x using Nat.strongRecOn generalizing x with
  | ind sz ih =>
    intro d h n hx hf hn
    refine Fn.of code52 (by decide) rfl fun Q cs hq => ?_
    show SW E Q 52 [(r0, .agg (xC x))] _ _ _ _
    cases hx with
    | atom ts =>
      cases hf with
      | atom d' _ hbs =>
        have hnil := nilsSl h n 3
        repeat' (first | refine SO.box rfl rfl rfl (by simp) (fun h1 hc hE => ?_) | refine SO.loadV rfl rfl rfl (by assumption) rfl ?_ | refine SW.seq ?_ | refine SW.block ?_ | refine SW.reg ?_ | refine SO.nil ?_ | refine SW.skip ?_ | refine SW.out ?_ | refine SW.condF rfl ?_ | refine SO.nope rfl rfl ?_ | refine SO.mov rfl rfl rfl ?_ | refine SO.pickT rfl rfl rfl rfl rfl ?_ | refine SO.pickF rfl rfl rfl rfl rfl ?_ | refine SO.notF rfl rfl rfl ?_ | refine SO.lenStr rfl rfl rfl ?_ | refine SO.fieldA rfl rfl rfl ?_ | refine SO.lenSl rfl rfl rfl (by assumption) ?_ | refine SO.gtrF rfl rfl rfl rfl (by omega) ?_)
        refine SW.loop ?_
        repeat' (first | refine SW.seq ?_ | refine SW.reg ?_ | refine SO.nil ?_ | refine SW.condF rfl ?_ | refine SW.exit rfl ?_ | refine SO.mov rfl rfl rfl ?_ | refine SO.lssF rfl rfl rfl rfl (by omega) ?_)
        exact SW.ret code52 ⟨_, rfl, hq _ _ _ ⟨rfl, hE⟩⟩
    | list v xs hs hxs =>
      cases hf with
      | list d' _ _ hfs =>
        simp only [XR.nodes] at hn
        have hl := nodess_len xs
        have hl0 : ([] : List UInt8).length = 0 := rfl
        have loop : ∀ (k i : Nat) (h1 : Hp) (n1 : Nat), i + k = xs.length → Gr h n h1 n1 → ∀ R, look R r31 = some v → look R r32 = some (.int .i64 (xs.length : Int)) → look R r33 = some (.int .i64 (i : Int)) → SW E Q 52 R [.code c52x12, .inLoop c52x12, .inBlock 1, .code (.seq (.reg c52x13) .ret)] cs h1 n1 := by
          intro k
          induction k with
          | zero =>
            intro i h1 n1 hi hE R q31 q32 q33
            refine SW.sub (R' := [(r31, v), (r32, .int .i64 (xs.length : Int)), (r33, .int .i64 (i : Int))]) (by simp [q31, q32, q33]) ?_
            repeat' (first | refine SW.seq ?_ | refine SW.reg ?_ | refine SO.nil ?_ | refine SW.condF rfl ?_ | refine SW.exit rfl ?_ | refine SO.mov rfl rfl rfl ?_ | refine SO.lssF rfl rfl rfl rfl (by omega) ?_)
            exact SW.ret code52 ⟨_, rfl, hq _ _ _ ⟨rfl, hE⟩⟩
          | succ k ihk =>
            intro i h1 n1 hi hE R q31 q32 q33
            have hi' : i < xs.length := by omega
            have hs1 := hs.ext hE
            have hmem := List.getElem_mem hi'
            obtain ⟨_, e2⟩ := nodess_take hi'
            refine SW.sub (R' := [(r31, v), (r32, .int .i64 (xs.length : Int)), (r33, .int .i64 (i : Int))]) (by simp [q31, q32, q33]) ?_
            repeat' (first | refine SO.idxOf xC_length rfl rfl rfl rfl hs1 hi' (fun a o hp => ?_) | refine SO.loadA rfl rfl rfl (by assumption) (Gr.refl _ _) (xC_length _) ?_ | refine SO.alloc rfl rfl (fun h2 hc2 hE2 => ?_) | refine SW.seq ?_ | refine SW.block ?_ | refine SW.reg ?_ | refine SO.nil ?_ | refine SW.skip ?_ | refine SW.condT rfl ?_ | refine SO.lssT rfl rfl rfl rfl (by omega) ?_)
            refine SO.storeAll rfl rfl rfl hc2 (xC_length _) rfl (fun h3 hc3 hk3 => ?_)
            have hE3 : Gr h1 n1 h3 (n1 + 1) := hE2.keep (Nat.le_refl _) hk3
            repeat' (first | refine SW.seq ?_ | refine SW.reg ?_ | refine SO.nil ?_)
            refine SO.loadVA rfl rfl rfl hc3 (xC_length _) ?_
            refine SO.callG rfl rfl rfl (ih (SizeOf.sizeOf xs[i]) (by rw [← hsz]; have := List.sizeOf_lt_of_mem hmem; simp; omega) xs[i] rfl d' ((hxs _ hmem).ext (hE.trans hE3)) (hfs _ hmem) (by omega)) ?_
            rintro _ h4 n4 ⟨rfl, hE4⟩
            repeat' (first | refine SW.seq ?_ | refine SW.reg ?_ | refine SO.nil ?_ | refine SW.skip ?_ | refine SW.out ?_ | refine SW.condF rfl ?_ | refine SO.mov rfl rfl rfl ?_ | refine SO.neiF rfl rfl rfl rfl (by omega) ?_ | refine SO.add rfl rfl rfl rfl (by omega) ?_)
            refine SW.again ?_
            exact ihk (i + 1) h4 n4 (by omega) ((hE.trans hE3).trans hE4) _ rfl rfl rfl
        repeat' (first | refine SO.box rfl rfl rfl (by simp) (fun h1 hc hE => ?_) | refine SO.loadV rfl rfl rfl (by assumption) rfl ?_ | refine SO.strNe rfl rfl rfl rfl (fun hne => absurd rfl hne) (fun _ => ?_) | refine SW.seq ?_ | refine SW.block ?_ | refine SW.reg ?_ | refine SO.nil ?_ | refine SW.skip ?_ | refine SW.out ?_ | refine SW.condF rfl ?_ | refine SO.nope rfl rfl ?_ | refine SO.mov rfl rfl rfl ?_ | refine SO.pickT rfl rfl rfl rfl rfl ?_ | refine SO.pickF rfl rfl rfl rfl rfl ?_ | refine SO.notT rfl rfl rfl ?_ | refine SO.lenStr rfl rfl rfl ?_ | refine SO.fieldA rfl rfl rfl ?_ | refine SO.lenSl rfl rfl rfl (by assumption) ?_ | refine SO.gtrF rfl rfl rfl rfl (by omega) ?_)
        refine SW.loop ?_
        exact loop xs.length 0 _ _ (by omega) hE _ rfl rfl rfl
theorem xcheck24 (x : XR) {h : Hp} {n : Nat} (hx : XOk h n x) (hf : XFit 12 x) (hn : x.nodes ≤ 20000) : Fn E 24 [.agg (xC x)] h n fun r h' n' => r = .int .i64 0 ∧ Gr h n h' n' := by
  refine Fn.of code24 (by decide) rfl fun Q cs hq => ?_
  show SW E Q 24 [(r0, .agg (xC x))] _ _ _ _
  repeat' (first | refine SO.box rfl rfl rfl (by simp) (fun h1 hc hE => ?_) | refine SW.seq ?_ | refine SW.reg ?_ | refine SO.nil ?_ | refine SO.mov rfl rfl rfl ?_)
  refine SO.build rfl rfl rfl (fun K => rfl) ?_
  refine SO.box rfl rfl rfl (by simp) (fun h2 hm hE2 => ?_)
  have hc2 : hb h2 n = some (.cell (xC x) 51 false) := by rw [hE2.same n (by omega)]; exact hc
  repeat' (first | refine SW.seq ?_ | refine SW.reg ?_ | refine SO.nil ?_ | refine SO.mov rfl rfl rfl ?_)
  refine SO.loadVA rfl rfl rfl hc2 (xC_length x) ?_
  refine SO.callG rfl rfl rfl (add51 x 12 (m := n + 1) (c := 0) (lv := 1) (hx.ext (hE.trans ⟨by omega, fun a ha => hE2.same a (by omega)⟩)) hf hm (by omega) (by omega) (by omega)) ?_
  rintro _ h3 n3 ⟨hm3, hn3, hk3⟩
  have hE3 : Gr h n h3 n3 := ⟨by omega, fun a ha => by rw [hk3 a (by omega) (by omega), hE2.same a (by omega), hE.same a ha]⟩
  have hc3 : hb h3 n = some (.cell (xC x) 51 false) := by rw [hk3 n (by omega) (by omega)]; exact hc2
  repeat' (first | refine SO.loadV rfl rfl rfl hm3 rfl ?_ | refine SW.seq ?_ | refine SW.reg ?_ | refine SO.nil ?_ | refine SW.skip ?_ | refine SW.condF rfl ?_ | refine SO.mov rfl rfl rfl ?_ | refine SO.fieldA rfl rfl rfl ?_ | refine SO.nilchk rfl rfl rfl ?_)
  refine SO.loadVA rfl rfl rfl hc3 (xC_length x) ?_
  refine SO.callG rfl rfl rfl (shape52 x 12 (hx.ext hE3) hf (by omega)) ?_
  rintro _ h4 n4 ⟨rfl, hE4⟩
  repeat' (first | refine SO.nil ?_ | refine SO.mov rfl rfl rfl ?_)
  exact SW.ret code24 ⟨_, rfl, hq _ _ _ ⟨rfl, hE3.trans hE4⟩⟩
theorem xencode15 (x : XR) {h : Hp} {n : Nat} (hpw : Pow h n) (hx : XOk h n x) (hf : XFit 12 x) (hn : x.nodes ≤ 20000) (hle : x.enc.length ≤ 1000000) : Fn E 15 [.agg (xC x)] h n fun r h' n' => r = .tup [strOf x.enc, .int .i64 0] ∧ Gr h n h' n' := by
  refine Fn.of code15 (by decide) rfl fun Q cs hq => ?_
  show SW E Q 15 [(r0, .agg (xC x))] _ _ _ _
  repeat' (first | refine SO.box rfl rfl rfl (by simp) (fun h1 hc hE => ?_) | refine SW.seq ?_ | refine SW.reg ?_ | refine SO.nil ?_ | refine SO.mov rfl rfl rfl ?_)
  refine SO.loadVA rfl rfl rfl hc (xC_length x) ?_
  refine SO.callG rfl rfl rfl (xcheck24 x (hx.ext hE) hf hn) ?_
  rintro _ h2 n2 ⟨rfl, hE2⟩
  have l2 := hE2.le
  have hc2 : hb h2 n = some (.cell (xC x) 51 false) := by rw [hE2.same n (by omega)]; exact hc
  repeat' (first | refine SO.alloc rfl rfl (fun h3 hb3 hE3 => ?_) | refine SW.seq ?_ | refine SW.reg ?_ | refine SO.nil ?_ | refine SW.skip ?_ | refine SW.condF rfl ?_ | refine SO.mov rfl rfl rfl ?_ | refine SO.neiF rfl rfl rfl rfl (by omega) ?_)
  have hc3 : hb h3 n = some (.cell (xC x) 51 false) := by rw [hE3.same n (by omega)]; exact hc2
  refine SO.loadVA rfl rfl rfl hc3 (xC_length x) ?_
  have hG : Gr h n h3 n2 := ⟨by omega, fun a ha => by rw [hE3.same a (by omega), hE2.same a (by omega), hE.same a ha]⟩
  have hB : Bld h3 (n2 + 1) n2 [] := ⟨.nilp, .nils, none, hb3, .inl rfl, ⟨.inl ⟨rfl, rfl, rfl⟩, .inl ⟨rfl, rfl⟩⟩, by omega⟩
  refine SO.callG rfl rfl rfl (encode25 x (hpw.ext hG) (hx.ext hG) hB (by simpa using hle)) ?_
  rintro _ h4 n4 ⟨hB4, hK4⟩
  have l4 := hK4.le
  rw [List.nil_append] at hB4
  repeat' (first | refine SW.seq ?_ | refine SW.reg ?_ | refine SO.nil ?_)
  refine SO.callG rfl rfl rfl (string26 hB4 (by omega)) ?_
  rintro _ h5 n5 ⟨rfl, hk5, rfl⟩
  repeat' (first | refine SO.nil ?_ | refine SO.mov rfl rfl rfl ?_)
  refine SW.ret code15 ⟨_, rfl, _, rfl, hq _ _ _ ⟨rfl, ⟨by omega, fun a ha => ?_⟩⟩⟩
  rw [hk5 a (by omega), hK4.low a (by omega)]
  exact hG.same a ha
end Go.Ev
