/- Contracts: strings.HasSuffix; lines.each, Split, IsText; primpatch.content, element. -/
import Derived.Test.YtpamccbgifeoaaaGreatDoorF23
set_option linter.all false
namespace Go.Ev
set_option maxRecDepth 100000
set_option maxHeartbeats 8000000
theorem drop_last {bs : List UInt8} (hb : bs ≠ []) : bs.drop (bs.length - 1) = [10] ↔ bs.getLast? = some 10 := by
  have hpos : 0 < bs.length := List.length_pos_iff.2 hb
  have h1 : bs.getLast? = some (bs[bs.length - 1]'(by omega)) := by rw [List.getLast?_eq_getElem?, List.getElem?_eq_getElem (by omega)]
  have h2 : bs.drop (bs.length - 1) = [bs[bs.length - 1]'(by omega)] := by
    rw [List.drop_eq_getElem_cons (by omega), List.drop_eq_nil_of_le (by omega)]
  rw [h1, h2]
  simp
theorem hasSuffix283 {h : Hp} {n : Nat} (bs : List UInt8) (hb : bs ≠ []) (hl : bs.length ≤ 4000000000000000000) : Fn E 283 [strOf bs, strOf [10]] h n fun r h' n' => r = .bool (bs.getLast? == some 10) ∧ h' = h ∧ n' = n := by
  refine Fn.of code283 (by decide) rfl fun Q cs hq => ?_
  show SW E Q 283 [(r0, strOf bs), (r1, strOf [10])] _ _ _ _
  have hlen : ([10] : List UInt8).length = 1 := rfl
  have hpos : 0 < bs.length := List.length_pos_iff.2 hb
  repeat' (first | refine SO.sliceTFa (bs.length - 1) rfl rfl rfl rfl (by omega) (by omega) ?_ | refine SO.strEq rfl rfl rfl rfl (fun he => ?_) (fun hne => ?_) | refine SW.seq ?_ | refine SW.reg ?_ | refine SO.nil ?_ | refine SO.mov rfl rfl rfl ?_ | refine SO.pickT rfl rfl rfl rfl rfl ?_ | refine SO.lenStr rfl rfl rfl ?_ | refine SO.geqT rfl rfl rfl rfl (by omega) ?_ | refine SO.sub rfl rfl rfl rfl (by omega) ?_)
  · refine SW.ret code283 ⟨_, rfl, hq _ _ _ ⟨?_, rfl, rfl⟩⟩
    rw [(drop_last hb).1 he]; rfl
  · refine SW.ret code283 ⟨_, rfl, hq _ _ _ ⟨?_, rfl, rfl⟩⟩
    have : (bs.getLast? == some 10) = false := by simpa using fun e => hne ((drop_last hb).2 e)
    rw [this]; rfl
theorem hasSuffix199 {h : Hp} {n : Nat} (bs : List UInt8) (hb : bs ≠ []) (hl : bs.length ≤ 4000000000000000000) : Fn E 199 [strOf bs, strOf [10]] h n fun r h' n' => r = .bool (bs.getLast? == some 10) ∧ h' = h ∧ n' = n := by
  refine Fn.of code199 (by decide) rfl fun Q cs hq => ?_
  show SW E Q 199 [(r0, strOf bs), (r1, strOf [10])] _ _ _ _
  repeat' (first | refine SW.seq ?_ | refine SW.reg ?_ | refine SO.nil ?_ | refine SO.mov rfl rfl rfl ?_)
  refine SO.callG rfl rfl rfl (hasSuffix283 bs hb hl) ?_
  rintro _ h' n' ⟨rfl, rfl, rfl⟩
  repeat' (first | refine SO.nil ?_ | refine SO.mov rfl rfl rfl ?_)
  exact SW.ret code199 ⟨_, rfl, hq _ _ _ ⟨rfl, rfl, rfl⟩⟩
theorem each200 {h : Hp} {n : Nat} (bs : List UInt8) : Fn E 200 [strOf bs] h n fun r h' n' => r = .fn 284 [] [.ptr n 0] ∧ hb h' n = some (.cell [strOf bs] 9 false) ∧ Gr h n h' (n + 1) ∧ n' = n + 1 := by
  refine Fn.of code200 (by decide) rfl fun Q cs hq => ?_
  show SW E Q 200 [(r0, strOf bs)] _ _ _ _
  repeat' (first | refine SO.box rfl rfl rfl (by simp [strOf_eq]) (fun h1 hc hE => ?_) | refine SO.val (oc := .mkFn 284 0) (v := .fn 284 [] [.ptr n 0]) rfl rfl (one1 rfl) (fun K => rfl) ?_ | refine SW.seq ?_ | refine SW.reg ?_ | refine SO.nil ?_ | refine SO.mov rfl rfl rfl ?_)
  exact SW.ret code200 ⟨_, rfl, hq _ _ _ ⟨rfl, hc, hE, rfl⟩⟩
theorem parts_some : ∀ {bs : List UInt8} {p : Nat} (cur : List UInt8), posOf 10 bs = some p → partsGo cur bs = (cur ++ bs.take p) :: partsGo [] (bs.drop (p + 1))
  | [], p, cur, h => by simp [posOf] at h
  | x :: xs, p, cur, h => by
    simp only [posOf] at h
    split at h
    · rename_i he
      simp at h; subst h
      simp [partsGo, he]
    · rename_i hne
      simp only [Option.map_eq_some_iff] at h
      obtain ⟨q, hq, rfl⟩ := h
      have ih := parts_some (cur ++ [x]) hq
      simp only [partsGo, if_neg hne, ih, List.take_succ_cons, List.drop_succ_cons]
      simp
theorem parts_none : ∀ {bs : List UInt8} (cur : List UInt8), posOf 10 bs = none → partsGo cur bs = []
  | [], cur, _ => by simp [partsGo]
  | x :: xs, cur, h => by
    simp only [posOf] at h
    split at h
    · simp at h
    · rename_i hne
      simp only [Option.map_eq_none_iff] at h
      have ih := parts_none (cur ++ [x]) h
      simp only [partsGo, if_neg hne, ih]
def longAny (ds : List (List UInt8)) : Bool := ds.any fun p => decide (1000 < p.length)
abbrev body121 : CC := .block 1 (.seq (.reg c121x9) (.reg c121x10))
structure Lin (h0 : Hp) (n : Nat) (t : Tr) (g : Hp) (m : Nat) (u : AV) (fo : Option Nat) (ds : List (List UInt8)) (rest : List UInt8) : Prop where
  le : n + 5 ≤ m
  out : hb g n = some (.cell [u] 87 false)
  long : hb g (n + 1) = some (.cell [.bool (longAny ds)] 4 false)
  s : hb g (n + 2) = some (.cell [strOf rest] 9 false)
  d : hb g (n + 3) = some (.dfr true)
  l : hb g (n + 4) = some (.loop .ready none 121 t [r24] (.reg c121x8) body121 (n + 3))
  own : Own g (n + 5) m 1 9 u fo (ds.flatMap strC)
  low : ∀ b, b < n → hb g b = hb h0 b
theorem longAny_snoc (ds : List (List UInt8)) (p : List UInt8) : longAny (ds ++ [p]) = (longAny ds || decide (1000 < p.length)) := by simp [longAny]
theorem lines121 {h : Hp} {n : Nat} (bs : List UInt8) (hl : bs.length ≤ 4000000000000000000) : Fn E 121 [strOf bs] h n fun r h' n' => (∃ v e, r = .tup [v, .int .i64 e] ∧ (e = 0 ↔ textOk bs = true)) ∧ Gr h n h' n' := by
  refine Fn.of code121 (by decide) rfl fun Q cs hq => ?_
  show SW E Q 121 [(r0, strOf bs)] _ _ _ _
  have hret : ∀ (v : AV) (e : Int) (h1 : Hp) (n1 : Nat) (R : List (Path × AV)) (todo : List AItem), (e = 0 ↔ textOk bs = true) → Gr h n h1 n1 → look R r2 = some v → look R r3 = some (.int .i64 e) → SW E Q 121 R (.code .ret :: todo) cs h1 n1 := fun v e h1 n1 R todo he hE h2 h3 => SW.ret code121 ⟨v, h2, _, h3, hq _ _ _ ⟨⟨v, e, rfl, he⟩, hE⟩⟩
  by_cases hlen : bs.length ≤ 65536
  case neg =>
    repeat' (first | refine SW.seq ?_ | refine SW.reg ?_ | refine SO.nil ?_ | refine SW.condT rfl ?_ | refine SO.mov rfl rfl rfl ?_ | refine SO.lenStr rfl rfl rfl ?_ | refine SO.gtrT rfl rfl rfl rfl (by omega) ?_)
    exact hret _ 4 _ _ _ _ (by simp [textOk, hlen]) (Gr.refl _ _) rfl rfl
  repeat' (first | refine SW.seq ?_ | refine SW.reg ?_ | refine SO.nil ?_ | refine SW.skip ?_ | refine SW.condF rfl ?_ | refine SO.mov rfl rfl rfl ?_ | refine SO.lenStr rfl rfl rfl ?_ | refine SO.gtrF rfl rfl rfl rfl (by omega) ?_)
  refine SO.callG rfl rfl rfl (indexByte198 bs 0) ?_
  rintro _ h' n' ⟨rfl, rfl, rfl⟩
  cases hz : posOf 0 bs with
  | some p =>
    rw [show posI (some p) = (p : Int) from rfl]
    repeat' (first | refine SW.seq ?_ | refine SW.reg ?_ | refine SO.nil ?_ | refine SW.condT rfl ?_ | refine SO.nope rfl rfl ?_ | refine SO.mov rfl rfl rfl ?_ | refine SO.pickT rfl rfl rfl rfl rfl ?_ | refine SO.geqT rfl rfl rfl rfl (by omega) ?_)
    refine hret _ 3 _ _ _ _ ?_ (Gr.refl _ _) rfl rfl
    have hp := posOf_lt hz
    have : bs.all (fun c => c != 0) = false := by
      cases ha : bs.all (fun c => c != 0) with
      | false => rfl
      | true =>
        have : posOf 0 bs = none := posOf_no fun x hx => by simpa using List.all_eq_true.1 ha x hx
        rw [this] at hz; simp at hz
    simp [textOk, this]
  | none =>
    rw [show posI none = -1 from rfl]
    have hz' : bs.all (fun c => c != 0) = true := List.all_eq_true.2 fun x hx => by simpa using posOf_none hz x hx
    have hrest : (bs == [] || bs.getLast? == some 10) = true → ∀ R, look R r0 = some (strOf bs) → SO E Q 121 .ops R c121x5 [.code (.seq (.reg c121x6) (.seq (.seq (.reg c121x7) (.block 0 (.rangeFunc (.r r23) [r24] (.reg c121x8) body121))) (.seq (.seq (.reg c121x11) (.cond (.r r40) (.seq (.reg c121x12) .ret) .skip)) (.seq (.reg c121x13) .ret))))] cs h' n' := by
      intro hend R q0
      refine SO.forget (R' := [(r0, strOf bs)]) (by simp [q0]) ?_
      have htx : textOk bs = (decide ((partsOf bs).length ≤ 2000) && (partsOf bs).all fun p => decide (p.length ≤ 1000)) := by
        unfold textOk
        rw [hz', hend, decide_eq_true hlen]
        simp only [Bool.true_and]
      have hpl : (partsOf bs).length ≤ bs.length := partsGo_length bs []
      repeat' (first | refine SO.alloc rfl rfl (fun h1 hc1 hE1 => ?_) | refine SW.seq ?_ | refine SW.reg ?_ | refine SO.nil ?_)
      refine SO.store1 rfl rfl rfl (by assumption) rfl (by simp) (by simp) (fun h3 hc3 hk3 => ?_)
      rename_i g1 k1 e1
      have hG3 : Gr h' n' h3 (n' + 2) := ⟨by omega, fun b hb0 => by rw [hk3 b (by omega), hE1.same b (by omega), e1.same b hb0]⟩
      have a4 : hb h3 n' = some (.cell [.nils] 87 false) := by rw [hk3 n' (by omega), hE1.same n' (by omega)]; exact k1
      repeat' (first | refine SW.seq ?_ | refine SW.reg ?_ | refine SO.nil ?_ | refine SO.mov rfl rfl rfl ?_)
      refine SO.callG rfl rfl rfl (each200 bs) ?_
      rintro _ h4 n4 ⟨rfl, hc4, hE4, rfl⟩
      repeat' (first | refine SW.block ?_ | refine SO.nil ?_)
      have b4 : hb h4 n' = some (.cell [.nils] 87 false) := by rw [hE4.same n' (by omega)]; exact a4
      have b5 : hb h4 (n' + 1) = some (.cell [.bool false] 4 false) := by rw [hE4.same (n' + 1) (by omega)]; exact hc3
      have hG4 : Gr h' n' h4 (n' + 3) := hG3.trans hE4
      refine SW.sub (R' := [(r4, .ptr n' 0), (r5, .ptr (n' + 1) 0), (r23, .fn 284 [] [.ptr (n' + 2) 0])]) (by simp [look]; exact ⟨rfl, rfl, rfl⟩) ?_
      refine SW.rangeF rfl code284 rfl fun t ht h5 hd5 hl5 hE5 => ?_
      have hG5 : Gr h' n' h5 (n' + 5) := hG4.trans hE5
      have after : ∀ (g : Hp) (m : Nat) (u : AV) (fo : Option Nat) (rest : List UInt8), Lin h' n' t g m u fo (partsOf bs) rest → Wp E Q (.give (.tup []) (.mk 121 t (.inRF (n' + 4) :: [.inBlock 0, .code (.seq (.seq (.reg c121x11) (.cond (.r r40) (.seq (.reg c121x12) .ret) .skip)) (.seq (.reg c121x13) .ret))]) [n' + 3] none :: cs)) g m := by
        intro g m u fo rest hL
        have hle := hL.le
        refine Wp.afterRF ht hL.l fun g1 hk1 => ?_
        have c4 : hb g1 n' = some (.cell [u] 87 false) := by rw [hk1 n' (by omega)]; exact hL.out
        have c5 : hb g1 (n' + 1) = some (.cell [.bool (longAny (partsOf bs))] 4 false) := by rw [hk1 (n' + 1) (by omega)]; exact hL.long
        have cd : hb g1 (n' + 3) = some (.dfr true) := by rw [hk1 (n' + 3) (by omega)]; exact hL.d
        have hsu : Sl g1 m 1 u (partsOf bs).length ((partsOf bs).flatMap strC) := (hL.own.keep (Nat.le_refl _) fun b hb1 _ => hk1 b (by omega)).sl (by rw [flatMap_length (esz := 1) (fun _ => rfl)]) (by decide)
        have hlast : ∀ (v : AV) (e : Int) (R : List (Path × AV)) (todo : List AItem), (e = 0 ↔ textOk bs = true) → look R r2 = some v → look R r3 = some (.int .i64 e) → SW E Q ⟨121, [n' + 3], none⟩ R (.code .ret :: todo) cs g1 m := fun v e R todo he q2 q3 => SW.retD code121 cd fun g2 hk2 => ⟨v, q2, _, q3, hq _ _ _ ⟨⟨v, e, rfl, he⟩, ⟨by omega, fun b hb0 => by rw [hk2 b (by omega), hk1 b (by omega)]; exact hL.low b hb0⟩⟩⟩
        have hlong : (partsOf bs).all (fun p => decide (p.length ≤ 1000)) = !longAny (partsOf bs) := by
          rw [longAny, List.not_any_eq_all_not]
          congr 1
          funext p
          by_cases h1 : p.length ≤ 1000
          · simp [h1]; try omega
          · simp [h1]; try omega
        rw [hlong] at htx
        cases hla : longAny (partsOf bs) with
        | true =>
          rw [hla] at c5 htx
          repeat' (first | refine SO.loadV rfl rfl rfl c5 rfl ?_ | refine SW.seq ?_ | refine SW.reg ?_ | refine SO.nil ?_ | refine SW.out ?_ | refine SW.condT rfl ?_ | refine SO.nope rfl rfl ?_ | refine SO.mov rfl rfl rfl ?_ | refine SO.pickT rfl rfl rfl rfl rfl ?_)
          exact hlast _ 4 _ _ (by simp [htx]) rfl rfl
        | false =>
          rw [hla] at c5 htx
          by_cases hcnt : (partsOf bs).length ≤ 2000
          · repeat' (first | refine SO.loadV rfl rfl rfl c5 rfl ?_ | refine SO.loadV rfl rfl rfl c4 rfl ?_ | refine SW.seq ?_ | refine SW.reg ?_ | refine SO.nil ?_ | refine SW.skip ?_ | refine SW.out ?_ | refine SW.condF rfl ?_ | refine SO.mov rfl rfl rfl ?_ | refine SO.pickF rfl rfl rfl rfl rfl ?_ | refine SO.lenSl rfl rfl rfl (by assumption) ?_ | refine SO.gtrF rfl rfl rfl rfl (by omega) ?_)
            exact hlast _ 0 _ _ (by simp [htx, hcnt]) rfl rfl
          · repeat' (first | refine SO.loadV rfl rfl rfl c5 rfl ?_ | refine SO.loadV rfl rfl rfl c4 rfl ?_ | refine SW.seq ?_ | refine SW.reg ?_ | refine SO.nil ?_ | refine SW.out ?_ | refine SW.condT rfl ?_ | refine SO.mov rfl rfl rfl ?_ | refine SO.pickF rfl rfl rfl rfl rfl ?_ | refine SO.lenSl rfl rfl rfl (by assumption) ?_ | refine SO.gtrT rfl rfl rfl rfl (by omega) ?_)
            exact hlast _ 4 _ _ (by simp [htx, hcnt]) rfl rfl
      have loop : ∀ (k : Nat) (rest : List UInt8) (ds : List (List UInt8)) (g : Hp) (m : Nat) (u : AV) (fo : Option Nat), rest.length ≤ k → ds.length + rest.length ≤ bs.length → partsOf bs = ds ++ partsGo [] rest → Lin h' n' t g m u fo ds rest →
          ∀ R, look R r0 = some (.yld (n' + 4)) → look R r1 = some (.ptr (n' + 2) 0) → SW E Q 284 R [.code c284x3, .inLoop c284x3, .inBlock 0] (.mk 121 t (.inRF (n' + 4) :: [.inBlock 0, .code (.seq (.seq (.reg c121x11) (.cond (.r r40) (.seq (.reg c121x12) .ret) .skip)) (.seq (.reg c121x13) .ret))]) [n' + 3] none :: cs) g m := by
        intro k
        induction k with
        | zero =>
          intro rest ds g m u fo hk hdl hp hL R q0 q1
          obtain rfl : rest = [] := List.length_eq_zero_iff.1 (by omega)
          have hs := hL.s
          refine SW.sub (R' := [(r0, .yld (n' + 4)), (r1, .ptr (n' + 2) 0)]) (by simp [q0, q1]) ?_
          repeat' (first | refine SO.loadV rfl rfl rfl hs rfl ?_ | refine SW.seq ?_ | refine SW.block ?_ | refine SW.reg ?_)
          refine SO.callG rfl rfl rfl (indexByte198 [] 10) ?_
          rintro _ g' m' ⟨rfl, rfl, rfl⟩
          rw [show posI (posOf 10 []) = -1 from rfl]
          repeat' (first | refine SW.seq ?_ | refine SW.reg ?_ | refine SO.nil ?_ | refine SW.condT rfl ?_ | refine SO.nope rfl rfl ?_ | refine SO.mov rfl rfl rfl ?_ | refine SO.pickT rfl rfl rfl rfl rfl ?_ | refine SO.lssT rfl rfl rfl rfl (by omega) ?_)
          simp only [partsGo, List.append_nil] at hp
          rw [← hp] at hL
          exact SW.ret code284 (after _ _ _ _ _ hL)
        | succ k ih =>
          intro rest ds g m u fo hk hdl hp hL R q0 q1
          have hs := hL.s
          have hle := hL.le
          refine SW.sub (R' := [(r0, .yld (n' + 4)), (r1, .ptr (n' + 2) 0)]) (by simp [q0, q1]) ?_
          repeat' (first | refine SO.loadV rfl rfl rfl hs rfl ?_ | refine SW.seq ?_ | refine SW.block ?_ | refine SW.reg ?_)
          refine SO.callG rfl rfl rfl (indexByte198 rest 10) ?_
          rintro _ g' m' ⟨rfl, rfl, rfl⟩
          cases hpo : posOf 10 rest with
          | none =>
            rw [show posI none = -1 from rfl]
            repeat' (first | refine SW.seq ?_ | refine SW.reg ?_ | refine SO.nil ?_ | refine SW.condT rfl ?_ | refine SO.nope rfl rfl ?_ | refine SO.mov rfl rfl rfl ?_ | refine SO.pickT rfl rfl rfl rfl rfl ?_ | refine SO.lssT rfl rfl rfl rfl (by omega) ?_)
            rw [parts_none [] hpo, List.append_nil] at hp
            rw [← hp] at hL
            exact SW.ret code284 (after _ _ _ _ _ hL)
          | some p =>
            have hplt := posOf_lt hpo
            rw [show posI (some p) = (p : Int) from rfl]
            rw [parts_some [] hpo, List.nil_append] at hp
            repeat' (first | refine SO.loadV rfl rfl rfl hs rfl ?_ | refine SO.sliceFTa p rfl rfl rfl rfl rfl (by omega) ?_ | refine SW.seq ?_ | refine SW.reg ?_ | refine SO.nil ?_ | refine SO.mov rfl rfl rfl ?_ | refine SO.lssF rfl rfl rfl rfl (by omega) ?_)
            refine SO.yield (P := fun g1 m1 => ∃ u1 fo1, Lin h' n' t g1 m1 u1 fo1 (ds ++ [rest.take p]) rest) rfl rfl rfl hL.l ht rfl ?_ ?_
            · intro Q' f' cs' hq'
              repeat' (first | refine SW.reg ?_ | refine SO.nil ?_ | refine SO.mov rfl rfl rfl ?_)
              refine SW.beginRound hL.l fun g1 hl1 hk1 => ?_
              have c5 : hb g1 (n' + 1) = some (.cell [.bool (longAny ds)] 4 false) := by rw [hk1 (n' + 1) (by omega)]; exact hL.long
              have c4 : hb g1 n' = some (.cell [u] 87 false) := by rw [hk1 n' (by omega)]; exact hL.out
              have ho1 : Own g1 (n' + 5) m' 1 9 u fo (ds.flatMap strC) := hL.own.keep (Nat.le_refl _) fun b hb1 _ => hk1 b (by omega)
              have hlong : ∃ w : Bool, w = longAny (ds ++ [rest.take p]) ∧ (longAny ds = true → w = true) ∧ (longAny ds = false → w = decide (1000 < (rest.take p).length)) := ⟨_, rfl, fun h1 => by rw [longAny_snoc, h1]; rfl, fun h1 => by rw [longAny_snoc, h1]; rfl⟩
              have second : ∀ g2 R, hb g2 (n' + 1) = some (.cell [.bool (longAny (ds ++ [rest.take p]))] 4 false) → (∀ b, b ≠ n' + 1 → hb g2 b = hb g1 b) → look R r4 = some (.ptr n' 0) → look R r6 = some (strOf (rest.take p)) → SO E Q' ⟨121, [], some (n' + 4)⟩ .ops R c121x10 [.inBlock 1] (f' :: cs') g2 m' := by
                intro g2 R d5 hk2 q4 q6
                refine SO.forget (R' := [(r4, .ptr n' 0), (r6, strOf (rest.take p))]) (by simp [q4, q6]) ?_
                have d4 : hb g2 n' = some (.cell [u] 87 false) := by rw [hk2 n' (by omega)]; exact c4
                have ho2 : Own g2 (n' + 5) m' 1 9 u fo (ds.flatMap strC) := ho1.keep (Nat.le_refl _) fun b hb1 _ => hk2 b (by omega)
                repeat' (first | refine SO.loadV rfl rfl rfl d4 rfl ?_ | refine SO.bslice rfl rfl rfl (fun k => rfl) (fun g3 hc3 hE3 => ?_) | refine SO.mov rfl rfl rfl ?_)
                have ho3 : Own g3 (n' + 5) (m' + 1) 1 9 u fo (ds.flatMap strC) := ho2.keep (by omega) fun b _ hb0 => hE3.same b hb0
                have hx : Sl g3 (m' + 1) 1 (.slc m' 0 1 1) 1 (strC (rest.take p)) := ⟨rfl, .inr ⟨m', 0, 1, strC (rest.take p), .inl ⟨rfl, Nat.le_refl _⟩, ⟨by omega, .inl ⟨_, _, hc3⟩⟩, by simp, rfl⟩⟩
                refine SO.append rfl rfl rfl rfl (by decide) (by decide) ho3 (by omega) hx (by rw [flatMap_length (esz := 1) (fun _ => rfl)]; simp; omega) fun v' fo' g4 m4 ho4 hn4 hk4 hf4 => ?_
                have hfo : ∀ b, b < n' + 5 → fo ≠ some b := fun b hb0 e => by have := own_ge8 hL.own e; omega
                have e4 : hb g4 n' = some (.cell [u] 87 false) := by rw [hk4 n' (by omega) (hfo _ (by omega)), hE3.same n' (by omega)]; exact d4
                refine SO.store1 rfl rfl rfl e4 (own_plain8 ho4).1 (own_plain8 ho4).2 (by simp) (fun g5 hc5 hk5 => ?_)
                repeat' (first | refine SO.nil ?_ | refine SW.out ?_)
                have hsame : ∀ b, b < n' + 5 → b ≠ n' → b ≠ n' + 1 → b ≠ n' + 4 → hb g5 b = hb g' b := fun b h1 h2 h3 h4 => by rw [hk5 b h2, hk4 b (by omega) (hfo b h1), hE3.same b (by omega), hk2 b h3, hk1 b h4]
                have hl5 : hb g5 (n' + 4) = some (.loop .busy none 121 t [r24] (.reg c121x8) body121 (n' + 3)) := by rw [hk5 (n' + 4) (by omega), hk4 (n' + 4) (by omega) (hfo _ (by omega)), hE3.same (n' + 4) (by omega), hk2 (n' + 4) (by omega)]; exact hl1
                refine SW.roundEnd hl5 fun g6 hl6 hk6 => hq' _ _ ⟨v', fo', ?_⟩
                refine ⟨by omega, by rw [hk6 n' (by omega)]; exact hc5, ?_, by rw [hk6 (n' + 2) (by omega), hsame (n' + 2) (by omega) (by omega) (by omega) (by omega)]; exact hL.s, by rw [hk6 (n' + 3) (by omega), hsame (n' + 3) (by omega) (by omega) (by omega) (by omega)]; exact hL.d, hl6, ?_, fun b hb0 => by rw [hk6 b (by omega), hsame b (by omega) (by omega) (by omega) (by omega)]; exact hL.low b hb0⟩
                · rw [hk6 (n' + 1) (by omega), hk5 (n' + 1) (by omega), hk4 (n' + 1) (by omega) (hfo _ (by omega)), hE3.same (n' + 1) (by omega)]; exact d5
                · rw [List.flatMap_append]
                  have := ho4.keep (h' := g6) (Nat.le_refl _) fun b hb1 _ => by rw [hk6 b (by omega), hk5 b (by omega)]
                  simpa using this
              obtain ⟨w, hw, w1, w2⟩ := hlong
              cases hla : longAny ds with
              | true =>
                rw [hla] at c5
                refine SW.block ?_
                refine SW.seq ?_
                refine SW.reg ?_
                repeat' (first | refine SO.loadV rfl rfl rfl c5 rfl ?_ | refine SO.store1 rfl rfl rfl c5 rfl (by simp) (by simp) (fun g2 hc2 hk2 => ?_) | refine SW.reg ?_ | refine SO.nil ?_ | refine SO.nope rfl rfl ?_ | refine SO.mov rfl rfl rfl ?_ | refine SO.pickT rfl rfl rfl rfl rfl ?_)
                refine second _ _ ?_ (by assumption) rfl rfl
                rw [← hw, w1 hla]; assumption
              | false =>
                rw [hla] at c5
                by_cases hlp : 1000 < (rest.take p).length
                · refine SW.block ?_
                  refine SW.seq ?_
                  refine SW.reg ?_
                  repeat' (first | refine SO.loadV rfl rfl rfl c5 rfl ?_ | refine SO.store1 rfl rfl rfl c5 rfl (by simp) (by simp) (fun g2 hc2 hk2 => ?_) | refine SW.reg ?_ | refine SO.nil ?_ | refine SO.mov rfl rfl rfl ?_ | refine SO.pickF rfl rfl rfl rfl rfl ?_ | refine SO.lenStr rfl rfl rfl ?_ | refine SO.gtrT rfl rfl rfl rfl (by omega) ?_)
                  refine second _ _ ?_ (by assumption) rfl rfl
                  rw [← hw, w2 hla, decide_eq_true hlp]; assumption
                · refine SW.block ?_
                  refine SW.seq ?_
                  refine SW.reg ?_
                  repeat' (first | refine SO.loadV rfl rfl rfl c5 rfl ?_ | refine SO.store1 rfl rfl rfl c5 rfl (by simp) (by simp) (fun g2 hc2 hk2 => ?_) | refine SW.reg ?_ | refine SO.nil ?_ | refine SO.mov rfl rfl rfl ?_ | refine SO.pickF rfl rfl rfl rfl rfl ?_ | refine SO.lenStr rfl rfl rfl ?_ | refine SO.gtrF rfl rfl rfl rfl (by omega) ?_)
                  refine second _ _ ?_ (by assumption) rfl rfl
                  rw [← hw, w2 hla, decide_eq_false hlp]; assumption
            · rintro g1 m1 ⟨u1, fo1, hL1⟩
              have hs1 := hL1.s
              repeat' (first | refine SO.loadV rfl rfl rfl hs1 rfl ?_ | refine SO.sliceTFa (p + 1) rfl rfl rfl rfl (by omega) (by omega) ?_ | refine SW.reg ?_ | refine SO.nil ?_ | refine SW.skip ?_ | refine SW.condF rfl ?_ | refine SO.mov rfl rfl rfl ?_ | refine SO.pickF rfl rfl rfl rfl rfl ?_ | refine SO.notT rfl rfl rfl ?_ | refine SO.add rfl rfl rfl rfl (by omega) ?_)
              refine SO.store1 rfl rfl rfl hs1 rfl (by simp [strOf_eq]) (by simp) (fun g2 hc2 hk2 => ?_)
              repeat' (first | refine SO.nil ?_ | refine SW.out ?_)
              refine SW.again ?_
              refine ih (rest.drop (p + 1)) (ds ++ [rest.take p]) g2 m1 u1 fo1 (by rw [List.length_drop]; omega) (by rw [List.length_drop, List.length_append]; simp; omega) (by rw [hp]; simp) ?_ _ rfl rfl
              have l1 := hL1.le
              exact ⟨l1, by rw [hk2 n' (by omega)]; exact hL1.out, by rw [hk2 (n' + 1) (by omega)]; exact hL1.long, hc2, by rw [hk2 (n' + 3) (by omega)]; exact hL1.d, by rw [hk2 (n' + 4) (by omega)]; exact hL1.l, hL1.own.keep (Nat.le_refl _) fun b hb1 _ => hk2 b (by omega), fun b hb0 => by rw [hk2 b (by omega)]; exact hL1.low b hb0⟩
      refine SW.run (fn := 284) (R := [(r0, .yld (n' + 4)), (r1, .ptr (n' + 2) 0)]) ?_ _ (RegIs.first (m := 2) (by decide) rfl)
      refine SW.block ?_
      refine SW.loop ?_
      refine loop bs.length bs [] h5 (n' + 5) .nils none (Nat.le_refl _) (by simp) (by simp [partsOf]) ?_ _ rfl rfl
      exact ⟨Nat.le_refl _, by rw [hE5.same n' (by omega)]; exact b4, by rw [hE5.same (n' + 1) (by omega)]; exact b5, by rw [hE5.same (n' + 2) (by omega)]; exact hc4, hd5, hl5, .inl ⟨rfl, rfl, rfl⟩, fun b hb0 => hG5.same b hb0⟩
    by_cases hnil : bs = []
    · repeat' (first | refine SO.strNe rfl rfl rfl rfl (fun hne => absurd hnil hne) (fun _ => ?_) | refine SW.seq ?_ | refine SW.reg ?_ | refine SO.nil ?_ | refine SW.skip ?_ | refine SW.condF rfl ?_ | refine SO.nope rfl rfl ?_ | refine SO.mov rfl rfl rfl ?_ | refine SO.pickF rfl rfl rfl rfl rfl ?_ | refine SO.geqF rfl rfl rfl rfl (by omega) ?_)
      exact hrest (by simp [hnil]) _ rfl
    · repeat' (first | refine SO.strNe rfl rfl rfl rfl (fun _ => ?_) (fun he => absurd he hnil) | refine SO.mov rfl rfl rfl ?_ | refine SO.geqF rfl rfl rfl rfl (by omega) ?_)
      refine SO.callG rfl rfl rfl (hasSuffix199 bs hnil hl) ?_
      rintro _ h2 n2 ⟨rfl, rfl, rfl⟩
      cases hsf : bs.getLast? == some 10 with
      | true =>
        repeat' (first | refine SW.seq ?_ | refine SW.reg ?_ | refine SO.nil ?_ | refine SW.skip ?_ | refine SW.condF rfl ?_ | refine SO.pickT rfl rfl rfl rfl rfl ?_ | refine SO.pickF rfl rfl rfl rfl rfl ?_ | refine SO.notT rfl rfl rfl ?_)
        exact hrest (by rw [hsf]; simp) _ rfl
      | false =>
        repeat' (first | refine SW.seq ?_ | refine SW.reg ?_ | refine SO.nil ?_ | refine SW.condT rfl ?_ | refine SO.mov rfl rfl rfl ?_ | refine SO.pickT rfl rfl rfl rfl rfl ?_ | refine SO.pickF rfl rfl rfl rfl rfl ?_ | refine SO.notF rfl rfl rfl ?_)
        refine hret _ 3 _ _ _ _ ?_ (Gr.refl _ _) rfl rfl
        have hn1 : (bs == []) = false := by simpa using hnil
        have : textOk bs = false := by unfold textOk; rw [hn1, hsf]; simp
        simp [this]
theorem isText263 {h : Hp} {n : Nat} (bs : List UInt8) (hl : bs.length ≤ 4000000000000000000) : Fn E 263 [strOf bs] h n fun r h' n' => r = .bool (textOk bs) ∧ Gr h n h' n' := by
  refine Fn.of code263 (by decide) rfl fun Q cs hq => ?_
  show SW E Q 263 [(r0, strOf bs)] _ _ _ _
  repeat' (first | refine SW.seq ?_ | refine SW.reg ?_ | refine SO.nil ?_ | refine SO.mov rfl rfl rfl ?_)
  refine SO.callG rfl rfl rfl (lines121 bs hl) ?_
  rintro _ h1 n1 ⟨⟨v, e, rfl, he⟩, hE⟩
  repeat' (first | refine SW.seq ?_ | refine SW.reg ?_ | refine SO.nil ?_ | refine SO.mov rfl rfl rfl ?_ | refine SO.extract rfl rfl rfl rfl ?_ | refine SO.eqi rfl rfl rfl rfl (fun _ => ?_) (fun _ => ?_))
  · rename_i h0
    exact SW.ret code263 ⟨_, rfl, hq _ _ _ ⟨by rw [he.1 h0]; rfl, hE⟩⟩
  · rename_i h0
    have : textOk bs = false := by cases ht : textOk bs; rfl; exact absurd (he.2 ht) h0
    exact SW.ret code263 ⟨_, rfl, hq _ _ _ ⟨by rw [this]; rfl, hE⟩⟩
theorem content178 {h : Hp} {n : Nat} (kind : Int) (bs : List UInt8) (hl : bs.length ≤ 4000000000000000000) : Fn E 178 [.int .i64 kind, strOf bs] h n fun r h' n' => r = .int .i64 (contentE kind bs) ∧ Gr h n h' n' := by
  refine Fn.of code178 (by decide) rfl fun Q cs hq => ?_
  show SW E Q 178 [(r0, .int .i64 kind), (r1, strOf bs)] _ _ _ _
  have hret : ∀ (e : Int) (h1 : Hp) (n1 : Nat) (R : List (Path × AV)) (todo : List AItem), e = contentE kind bs → Gr h n h1 n1 → look R r4 = some (.int .i64 e) → SW E Q 178 R (.code .ret :: todo) cs h1 n1 := fun e h1 n1 R todo he hE h4 => SW.ret code178 ⟨_, h4, hq _ _ _ ⟨by rw [he]; rfl, hE⟩⟩
  by_cases hlen : 65536 < bs.length
  · repeat' (first | refine SW.seq ?_ | refine SW.block ?_ | refine SW.reg ?_ | refine SO.nil ?_ | refine SW.condT rfl ?_ | refine SO.mov rfl rfl rfl ?_ | refine SO.lenStr rfl rfl rfl ?_ | refine SO.gtrT rfl rfl rfl rfl (by omega) ?_)
    exact hret 4 _ _ _ _ (by simp [contentE, hlen]) (Gr.refl _ _) rfl
  by_cases hk : kind = 1
  · repeat' (first | refine SW.seq ?_ | refine SW.block ?_ | refine SW.reg ?_ | refine SO.nil ?_ | refine SW.condF rfl ?_ | refine SO.mov rfl rfl rfl ?_ | refine SO.lenStr rfl rfl rfl ?_ | refine SO.gtrF rfl rfl rfl rfl (by omega) ?_ | refine SO.eqiT rfl rfl rfl rfl (by omega) ?_)
    refine SO.callG rfl rfl rfl (isText263 bs hl) ?_
    rintro _ h1 n1 ⟨rfl, hE⟩
    cases ht : textOk bs with
    | true =>
      repeat' (first | refine SW.seq ?_ | refine SW.reg ?_ | refine SO.nil ?_ | refine SW.skip ?_ | refine SW.out ?_ | refine SW.condF rfl ?_ | refine SO.mov rfl rfl rfl ?_ | refine SO.pickT rfl rfl rfl rfl rfl ?_ | refine SO.notT rfl rfl rfl ?_)
      exact hret 0 _ _ _ _ (by simp [contentE, hlen, ht]) hE rfl
    | false =>
      repeat' (first | refine SW.seq ?_ | refine SW.reg ?_ | refine SO.nil ?_ | refine SW.condT rfl ?_ | refine SO.mov rfl rfl rfl ?_ | refine SO.pickT rfl rfl rfl rfl rfl ?_ | refine SO.notF rfl rfl rfl ?_)
      exact hret 3 _ _ _ _ (by simp [contentE, hlen, hk, ht]) hE rfl
  · repeat' (first | refine SW.seq ?_ | refine SW.block ?_ | refine SW.reg ?_ | refine SO.nil ?_ | refine SW.skip ?_ | refine SW.out ?_ | refine SW.condF rfl ?_ | refine SO.nope rfl rfl ?_ | refine SO.mov rfl rfl rfl ?_ | refine SO.pickF rfl rfl rfl rfl rfl ?_ | refine SO.lenStr rfl rfl rfl ?_ | refine SO.gtrF rfl rfl rfl rfl (by omega) ?_ | refine SO.eqiF rfl rfl rfl rfl (by omega) ?_)
    exact hret 0 _ _ _ _ (by simp [contentE, hlen, hk]) (Gr.refl _ _) rfl
theorem element100 {h : Hp} {n : Nat} (x : PF) (hl : x.path.length ≤ 4000000000000000000) (hl' : x.data.length ≤ 4000000000000000000) : Fn E 100 [.agg (pfC x)] h n fun r h' n' => r = .int .i64 (fileE x) ∧ Gr h n h' n' := by
  refine Fn.of code100 (by decide) rfl fun Q cs hq => ?_
  show SW E Q 100 [(r0, .agg (pfC x))] _ _ _ _
  have hret : ∀ (e : Int) (h1 : Hp) (n1 : Nat) (R : List (Path × AV)) (todo : List AItem), e = fileE x → Gr h n h1 n1 → look R r2 = some (.int .i64 e) → SW E Q 100 R (.code .ret :: todo) cs h1 n1 := fun e h1 n1 R todo he hE h2 => SW.ret code100 ⟨_, h2, hq _ _ _ ⟨by rw [he]; rfl, hE⟩⟩
  repeat' (first | refine SO.box rfl rfl rfl (by simp) (fun h1 hc hE => ?_) | refine SO.loadV rfl rfl rfl (by assumption) rfl ?_ | refine SW.seq ?_ | refine SW.block ?_ | refine SW.reg ?_ | refine SO.nil ?_ | refine SO.mov rfl rfl rfl ?_ | refine SO.fieldA rfl rfl rfl ?_)
  refine SO.callG rfl rfl rfl (isPath176 x.path hl) ?_
  rintro _ h1' n1 ⟨rfl, hE1⟩
  have l1 := hE1.le
  have hc1 : hb h1' n = some (.cell (pfC x) 36 false) := by rw [hE1.same n (by omega)]; exact hc
  have hG := hE.trans hE1
  cases hp : pathOk x.path with
  | false =>
    repeat' (first | refine SW.seq ?_ | refine SW.reg ?_ | refine SO.nil ?_ | refine SW.condT rfl ?_ | refine SO.mov rfl rfl rfl ?_ | refine SO.notF rfl rfl rfl ?_)
    exact hret 5 _ _ _ _ (by simp [fileE, hp]) hG rfl
  | true =>
    repeat' (first | refine SO.loadV rfl rfl rfl hc1 rfl ?_ | refine SW.seq ?_ | refine SW.reg ?_ | refine SO.nil ?_ | refine SW.skip ?_ | refine SW.out ?_ | refine SW.condT rfl ?_ | refine SW.condF rfl ?_ | refine SO.nope rfl rfl ?_ | refine SO.mov rfl rfl rfl ?_ | refine SO.pickT rfl rfl rfl rfl rfl ?_ | refine SO.pickF rfl rfl rfl rfl rfl ?_ | refine SO.notT rfl rfl rfl ?_ | refine SO.fieldA rfl rfl rfl ?_ | refine SO.lss rfl rfl rfl rfl (fun _ => ?_) (fun _ => ?_) | refine SO.gtr rfl rfl rfl rfl (fun _ => ?_) (fun _ => ?_) | refine SO.eqi rfl rfl rfl rfl (fun _ => ?_) (fun _ => ?_) | refine SO.nei rfl rfl rfl rfl (fun _ => ?_) (fun _ => ?_) | refine SO.strNe rfl rfl rfl rfl (fun _ => ?_) (fun _ => ?_))
    all_goals first
      | (refine hret _ _ _ _ _ ?_ hG rfl; simp only [fileE, hp]; simp; omega)
      | skip
    · rename_i h1' h2' h3' h4' h5' h6' h7'
      refine hret 1 _ _ _ _ ?_ hG rfl
      simp only [fileE, hp]
      simp [h5', h6', h7']
    all_goals
      refine SO.callG rfl rfl rfl (content178 x.type x.data hl') ?_
      rintro _ h2 n2 ⟨rfl, hE2⟩
      repeat' (first | refine SO.nil ?_ | refine SO.mov rfl rfl rfl ?_)
      refine hret _ _ _ _ _ ?_ (hG.trans hE2) rfl
    · rename_i h1' h2' h3' h4' h5' h6' h7'
      simp only [fileE, hp]
      simp [h5', h6', h7']
    · rename_i h1' h2' h3' h4' h5'
      simp only [fileE, hp]
      simp [h5']
      omega
end Go.Ev
