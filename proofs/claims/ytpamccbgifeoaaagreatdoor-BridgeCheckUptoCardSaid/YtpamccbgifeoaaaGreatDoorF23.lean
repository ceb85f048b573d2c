/- Contracts: slices.Index, Contains; primpatch: action, tidy, Check of a new directory; bridge.isName; primpatch.parent. -/
import Derived.Test.YtpamccbgifeoaaaGreatDoorF22
import Derived.Test.YtpamccbgifeoaaaGreatDoorE7
import Derived.Test.YtpamccbgifeoaaaGreatDoorKCode3
set_option linter.all false
namespace Go.Ev
set_option maxRecDepth 100000
set_option maxHeartbeats 4000000
section
variable {E : Env} {Q : Post} {fn : Fr} {md : Md} {R : List (Path × AV)} {todo : List AItem} {cs : List AF} {h h' h0 : Hp} {n n' n0 : Nat} {os : List COp} {k k' : IntKind} {p : Path} {g : Option (Path × Bool)} {X Y Z : CX} {a o : Nat} {u v : AV} {x y : Int} {bs : List UInt8}
theorem SO.convSB {e : TypeId} (hg : wantB R g = true) (hd : Nat.beq p.len depth = true) (h1 : lookX R X = some (strOf bs)) (hw : ∀ h1, Sl h1 (n + 2) 1 (.gsl (n + 1) 0 bs.length 1) bs.length (bs.flatMap byteC) → Gr h n h1 (n + 2) → SO E Q fn md ((p, .gsl (n + 1) 0 bs.length 1) :: R) os todo cs h1 (n + 2)) : SO E Q fn md R (⟨some p, g, [X], .convSB e⟩ :: os) todo cs h n := by
  refine SO.val hg hd (one1 h1) (fun K => ?_) (hw (hput (n + 1) (.row (bs.flatMap byteC) e n 1) (hput n (.fam (n + 1) (n + 1)) h)) ?_ (((Gr.refl h n).new _).new _))
  · show bytesK bs.length (codeL bs) (fun cs => newK (.fam (Nat.succ n) (Nat.succ n)) h n fun f h n => newK (.row cs e f 1) h n fun a h n => K.v (.gsl a 0 bs.length 1) h n) = _
    rw [bytesK_val, bytesOf_codeL, flat_map8, new_at, new_at]
  · refine ⟨by rw [byteC_len8]; omega, .inr ⟨n + 1, 0, 1, bs.flatMap byteC, .inr ⟨rfl, .inl ⟨rfl, by decide⟩⟩, ⟨by omega, .inr (.inl ⟨e, n, 1, n + 1, n + 1, hb_self _ _ _, by omega, ?_, Nat.le_refl _⟩)⟩, by rw [byteC_len8]; omega, ?_⟩⟩
    · rw [hb_other _ _ (by omega), hb_self]
    · rw [List.drop_zero]; exact List.take_of_length_le (by rw [byteC_len8]; omega)
theorem SO.loadVAo {m off : Nat} {us : List AV} {e : TypeId} {ro : Bool} (hg : wantB R g = true) (hd : Nat.beq p.len depth = true) (h1 : lookX R X = some (.ptr a off)) (hb0 : hb h a = some (.cell us e ro)) (hm : off + m ≤ us.length) (hw : SO E Q fn md ((p, .agg ((us.drop off).take m)) :: R) os todo cs h n) : SO E Q fn md R (⟨some p, g, [X], .loadA m⟩ :: os) todo cs h n :=
  SO.val hg hd (one1 h1) (by
    have h2 := Pt.cell (o := off) hb0 (Nat.lt_succ_self a) (by omega)
    exact ex_loadA (n' := n) h2 (m := m) (by simp; omega)) hw
end
theorem index177 {h : Hp} {n : Nat} {v : AV} {bs : List UInt8} (c : UInt8) (hs : Sl h n 1 v bs.length (bs.flatMap byteC)) (hl : bs.length ≤ 4000000000000000000) : Fn E 177 [v, .int .u8 (c.toNat : Int)] h n fun r h' n' => (∃ z : Int, r = .int .i64 z ∧ (0 ≤ z ↔ c ∈ bs)) ∧ h' = h ∧ n' = n := by
  refine Fn.of code177 (by decide) rfl fun Q cs hq => ?_
  show SW E Q 177 [(r0, v), (r1, .int .u8 (c.toNat : Int))] _ _ _ _
  have loop : ∀ (k i : Nat), i + k = bs.length → (∀ x ∈ bs.take i, x ≠ c) → ∀ R, look R r0 = some v → look R r1 = some (.int .u8 (c.toNat : Int)) → look R r7 = some (.int .i64 (bs.length : Int)) → look R r8 = some (.int .i64 (i : Int)) → SW E Q 177 R [.code c177x7, .inLoop c177x7, .inBlock 0, .code (.seq (.reg c177x8) .ret)] cs h n := by
    intro k
    induction k with
    | zero =>
      intro i hi hno R q0 q1 q7 q8
      refine SW.sub (R' := [(r0, v), (r1, .int .u8 (c.toNat : Int)), (r7, .int .i64 (bs.length : Int)), (r8, .int .i64 (i : Int))]) (by simp [q0, q1, q7, q8]) ?_
      repeat' (first | refine SW.seq ?_ | refine SW.reg ?_ | refine SO.nil ?_ | refine SW.condF rfl ?_ | refine SW.exit rfl ?_ | refine SO.mov rfl rfl rfl ?_ | refine SO.lssF rfl rfl rfl rfl (by omega) ?_)
      rw [show i = bs.length by omega, List.take_length] at hno
      exact SW.ret code177 ⟨_, rfl, hq _ _ _ ⟨⟨-1, rfl, by simp; exact fun hm => hno c hm rfl⟩, rfl, rfl⟩⟩
    | succ k ih =>
      intro i hi hno R q0 q1 q7 q8
      have hi' : i < bs.length := by omega
      refine SW.sub (R' := [(r0, v), (r1, .int .u8 (c.toNat : Int)), (r7, .int .i64 (bs.length : Int)), (r8, .int .i64 (i : Int))]) (by simp [q0, q1, q7, q8]) ?_
      repeat' (first | refine SO.idxOf (fun _ => rfl) rfl rfl rfl rfl hs hi' (fun a o hp => ?_) | refine SO.load0 rfl rfl rfl (by assumption) (Gr.refl _ _) ?_ | refine SW.seq ?_ | refine SW.block ?_ | refine SW.reg ?_ | refine SO.nil ?_ | refine SW.skip ?_ | refine SW.out ?_ | refine SW.condT rfl ?_ | refine SW.condF rfl ?_ | refine SO.mov rfl rfl rfl ?_ | refine SO.lssT rfl rfl rfl rfl (by omega) ?_ | refine SO.add rfl rfl rfl rfl (by omega) ?_ | refine SO.eqi rfl rfl rfl rfl (fun _ => ?_) (fun _ => ?_))
      · rename_i he
        have he' : bs[i] = c := UInt8.toNat_inj.1 (by omega)
        refine SW.ret code177 ⟨_, rfl, hq _ _ _ ⟨⟨(i : Int), rfl, ?_⟩, rfl, rfl⟩⟩
        exact ⟨fun _ => he' ▸ List.getElem_mem hi', fun _ => by omega⟩
      · rename_i hne
        refine SW.again ?_
        refine ih (i + 1) (by omega) ?_ _ rfl rfl rfl rfl
        intro x hx
        rw [List.take_succ_eq_append_getElem hi'] at hx
        rcases List.mem_append.1 hx with hx | hx
        · exact hno x hx
        · simp at hx; subst hx; exact fun e => hne (by rw [e])
  repeat' (first | refine SW.seq ?_ | refine SW.block ?_ | refine SW.reg ?_ | refine SO.nil ?_ | refine SO.mov rfl rfl rfl ?_ | refine SO.lenSl rfl rfl rfl (by assumption) ?_)
  refine SW.loop ?_
  exact loop bs.length 0 (by omega) (by simp) _ rfl rfl rfl rfl
theorem contains99 {h : Hp} {n : Nat} {v : AV} {bs : List UInt8} (c : UInt8) (hs : Sl h n 1 v bs.length (bs.flatMap byteC)) (hl : bs.length ≤ 4000000000000000000) : Fn E 99 [v, .int .u8 (c.toNat : Int)] h n fun r h' n' => r = .bool (decide (c ∈ bs)) ∧ h' = h ∧ n' = n := by
  refine Fn.of code99 (by decide) rfl fun Q cs hq => ?_
  show SW E Q 99 [(r0, v), (r1, .int .u8 (c.toNat : Int))] _ _ _ _
  repeat' (first | refine SW.seq ?_ | refine SW.reg ?_ | refine SO.nil ?_ | refine SO.mov rfl rfl rfl ?_)
  refine SO.callG rfl rfl rfl (index177 c hs hl) ?_
  rintro _ h' n' ⟨⟨z, rfl, hz⟩, rfl, rfl⟩
  repeat' (first | refine SO.nil ?_ | refine SO.mov rfl rfl rfl ?_ | refine SO.geq rfl rfl rfl rfl (fun _ => ?_) (fun _ => ?_))
  · rename_i h0
    exact SW.ret code99 ⟨_, rfl, hq _ _ _ ⟨by rw [decide_eq_true (hz.1 h0)]; rfl, rfl, rfl⟩⟩
  · rename_i h0
    exact SW.ret code99 ⟨_, rfl, hq _ _ _ ⟨by rw [decide_eq_false (fun hm => by have := hz.2 hm; omega)]; rfl, rfl, rfl⟩⟩
abbrev dirC (bs : List UInt8) : List AV := [.int .i64 3, strOf bs, strOf [], .int .i64 0, .int .i64 0, .nils, .nils, .int .i64 0, strOf [], strOf [], .int .i64 0, .int .i64 0]
theorem action174 {h : Hp} {n : Nat} (bs : List UInt8) : Fn E 174 [.agg (dirC bs)] h n fun r h' n' => r = .ifc 390 (.agg (dirC bs)) ∧ Gr h n h' n' := by
  refine Fn.of code174 (by decide) rfl fun Q cs hq => ?_
  show SW E Q 174 [(r0, .agg (dirC bs))] _ _ _ _
  repeat' (first | refine SO.box rfl rfl rfl (by simp) (fun h1 hc hE => ?_) | refine SO.loadV rfl rfl rfl (by assumption) rfl ?_ | refine SO.loadVA rfl rfl rfl (by assumption) rfl ?_ | refine SO.build rfl rfl rfl (fun K => rfl) ?_ | refine SO.val (oc := .mkIfc 390) rfl rfl (one1 rfl) (fun K => rfl) ?_ | refine SW.seq ?_ | refine SW.block ?_ | refine SW.reg ?_ | refine SO.nil ?_ | refine SW.condT rfl ?_ | refine SW.condF rfl ?_ | refine SO.mov rfl rfl rfl ?_ | refine SO.fieldA rfl rfl rfl ?_ | refine SO.eqiT rfl rfl rfl rfl (by omega) ?_ | refine SO.eqiF rfl rfl rfl rfl (by omega) ?_)
  exact SW.ret code174 ⟨_, rfl, hq _ _ _ ⟨rfl, hE⟩⟩
theorem tidy175 {h : Hp} {n : Nat} (bs : List UInt8) : Fn E 175 [.agg (dirC bs)] h n fun r h' n' => r = .bool true ∧ Gr h n h' n' := by
  refine Fn.of code175 (by decide) rfl fun Q cs hq => ?_
  show SW E Q 175 [(r0, .agg (dirC bs))] _ _ _ _
  have hnil := nilsSl h n 1
  repeat' (first | refine SO.box rfl rfl rfl (by simp) (fun h1 hc hE => ?_) | refine SO.loadV rfl rfl rfl hc rfl ?_ | refine SO.loadVAo rfl rfl rfl hc (Nat.le_of_ble_eq_true rfl) ?_ | refine SO.alloc rfl rfl (fun h3 hc3 hE3 => ?_) | refine SW.seq ?_ | refine SW.block ?_ | refine SW.reg ?_ | refine SO.nil ?_ | refine SW.skip ?_ | refine SW.out ?_ | refine SW.condF rfl ?_ | refine SO.mov rfl rfl rfl ?_ | refine SO.fieldA rfl rfl rfl ?_ | refine SO.eqiF rfl rfl rfl rfl (by omega) ?_)
  refine SO.storeAll rfl rfl rfl hc3 rfl rfl (fun h4 hc4 hk4 => ?_)
  have hc' : hb h4 n = some (.cell (dirC bs) 291 false) := by rw [hk4 n (by omega), hE3.same n (by omega)]; exact hc
  repeat' (first | refine SO.loadV rfl rfl rfl hc' rfl ?_ | refine SO.loadV rfl rfl rfl hc4 rfl ?_ | refine SO.strEq rfl rfl rfl rfl (fun _ => ?_) (fun hne => absurd rfl hne) | refine SW.seq ?_ | refine SW.reg ?_ | refine SO.nil ?_ | refine SO.mov rfl rfl rfl ?_ | refine SO.pickT rfl rfl rfl rfl rfl ?_ | refine SO.fieldA rfl rfl rfl ?_ | refine SO.lenSl rfl rfl rfl (by assumption) ?_ | refine SO.eqiT rfl rfl rfl rfl (by omega) ?_ | refine SO.add rfl rfl rfl rfl (by omega) ?_)
  exact SW.ret code175 ⟨_, rfl, hq _ _ _ ⟨rfl, (hE.trans hE3).keep (by omega) hk4⟩⟩
theorem addingCheck {h : Hp} {n : Nat} (bs : List UInt8) : Fn E 608 [.agg (dirC bs)] h n fun r h' n' => r = .int .i64 0 ∧ Gr h n h' n' := by
  refine Fn.of code608 (by decide) rfl fun Q cs hq => ?_
  show SW E Q 608 [(r0, .agg (dirC bs))] _ _ _ _
  repeat' (first | refine SO.box rfl rfl rfl (by simp) (fun h1 hc hE => ?_) | refine SO.loadV rfl rfl rfl (by assumption) rfl ?_ | refine SW.seq ?_ | refine SW.reg ?_ | refine SO.nil ?_ | refine SW.condT rfl ?_ | refine SO.mov rfl rfl rfl ?_ | refine SO.fieldA rfl rfl rfl ?_ | refine SO.eqiT rfl rfl rfl rfl (by omega) ?_)
  exact SW.ret code608 ⟨_, rfl, hq _ _ _ ⟨rfl, hE⟩⟩
theorem primCheck98 {h : Hp} {n : Nat} (bs : List UInt8) (hl : bs.length ≤ 4000000000000000000) : Fn E 98 [.agg (dirC bs)] h n fun r h' n' => ((pathOk bs = true ∧ r = .int .i64 0) ∨ (pathOk bs = false ∧ r = .int .i64 5)) ∧ Gr h n h' n' := by
  refine Fn.of code98 (by decide) rfl fun Q cs hq => ?_
  show SW E Q 98 [(r0, .agg (dirC bs))] _ _ _ _
  repeat' (first | refine SO.box rfl rfl rfl (by simp) (fun h1 hc hE => ?_) | refine SO.loadVA rfl rfl rfl hc rfl ?_ | refine SO.build rfl rfl rfl (fun K => rfl) ?_ | refine SW.seq ?_ | refine SW.reg ?_ | refine SO.nil ?_ | refine SO.mov rfl rfl rfl ?_)
  refine SO.callG rfl rfl rfl (action174 bs) ?_
  rintro _ h2 n2 ⟨rfl, hE2⟩
  have l2 := hE2.le
  have hc2 : hb h2 n = some (.cell (dirC bs) 198 false) := by rw [hE2.same n (by omega)]; exact hc
  repeat' (first | refine SO.val (oc := .eql false (.iface true)) rfl rfl (two rfl rfl) (ex_eql rfl rfl) ?_ | refine SO.loadVA rfl rfl rfl hc2 rfl ?_ | refine SO.build rfl rfl rfl (fun K => rfl) ?_ | refine SW.seq ?_ | refine SW.reg ?_ | refine SO.nil ?_ | refine SW.skip ?_ | refine SW.condF rfl ?_ | refine SO.mov rfl rfl rfl ?_)
  refine SO.callG rfl rfl rfl (tidy175 bs) ?_
  rintro _ h3 n3 ⟨rfl, hE3⟩
  have l3 := hE3.le
  have hc3 : hb h3 n = some (.cell (dirC bs) 198 false) := by rw [hE3.same n (by omega)]; exact hc2
  repeat' (first | refine SO.loadV rfl rfl rfl hc3 rfl ?_ | refine SW.seq ?_ | refine SW.reg ?_ | refine SO.nil ?_ | refine SW.skip ?_ | refine SW.condF rfl ?_ | refine SO.notT rfl rfl rfl ?_ | refine SO.fieldA rfl rfl rfl ?_)
  refine SO.callG rfl rfl rfl (isPath176 bs hl) ?_
  rintro _ h4 n4 ⟨rfl, hE4⟩
  have l4 := hE4.le
  have hc4 : hb h4 n = some (.cell (dirC bs) 198 false) := by rw [hE4.same n (by omega)]; exact hc3
  have hG : Gr h n h4 n4 := ((hE.trans hE2).trans hE3).trans hE4
  cases hp : pathOk bs with
  | false =>
    repeat' (first | refine SW.seq ?_ | refine SW.reg ?_ | refine SO.nil ?_ | refine SW.condT rfl ?_ | refine SO.nope rfl rfl ?_ | refine SO.mov rfl rfl rfl ?_ | refine SO.pickT rfl rfl rfl rfl rfl ?_ | refine SO.notF rfl rfl rfl ?_)
    exact SW.ret code98 ⟨_, rfl, hq _ _ _ ⟨.inr ⟨hp, rfl⟩, hG⟩⟩
  | true =>
    repeat' (first | refine SO.loadV rfl rfl rfl hc4 rfl ?_ | refine SW.seq ?_ | refine SW.reg ?_ | refine SO.nil ?_ | refine SW.skip ?_ | refine SW.condF rfl ?_ | refine SO.nope rfl rfl ?_ | refine SO.mov rfl rfl rfl ?_ | refine SO.pickF rfl rfl rfl rfl rfl ?_ | refine SO.notT rfl rfl rfl ?_ | refine SO.fieldA rfl rfl rfl ?_ | refine SO.eqiF rfl rfl rfl rfl (by omega) ?_)
    refine SO.invoke rfl rfl rfl meth390 (addingCheck bs) ?_
    rintro _ h5 n5 ⟨rfl, hE5⟩
    repeat' (first | refine SO.nil ?_ | refine SO.mov rfl rfl rfl ?_)
    exact SW.ret code98 ⟨_, rfl, hq _ _ _ ⟨.inl ⟨hp, rfl⟩, hG.trans hE5⟩⟩
theorem posOf_no {c : UInt8} : ∀ {bs : List UInt8}, (∀ x ∈ bs, x ≠ c) → posOf c bs = none
  | [], _ => rfl
  | x :: xs, h => by
    have h1 : x ≠ c := h x (by simp)
    have h2 := posOf_no (bs := xs) fun y hy => h y (by simp [hy])
    simp [posOf, h1, h2]
theorem name_path (bs : List UInt8) : (pathOk bs && !decide ((47 : UInt8) ∈ bs)) = nameOk bs := by
  by_cases hm : (47 : UInt8) ∈ bs
  · rw [decide_eq_true hm]
    have : bs.all nameByte = false := List.all_eq_false.2 ⟨47, hm, by decide⟩
    simp [nameOk, this]
  · rw [decide_eq_false hm]
    have hn : posOf 47 bs = none := posOf_no fun x hx e => hm (e ▸ hx)
    have hs : segs [] bs = [bs] := by rw [segs_none [] hn]; rfl
    simp only [pathOk, hs, List.all_cons, List.all_nil, Bool.and_true, Bool.not_false]
    cases hk : nameOk bs with
    | false => simp
    | true =>
      have : bs.length ≤ 40 := by
        simp only [nameOk, Bool.and_eq_true, decide_eq_true_eq] at hk
        exact hk.2.2.1
      rw [decide_eq_true (by omega)]; rfl
theorem bridgeName59 {h : Hp} {n : Nat} (bs : List UInt8) (hl : bs.length ≤ 4000000000000000000) : Fn E 59 [strOf bs] h n fun r h' n' => r = .bool (nameOk bs) ∧ Gr h n h' n' := by
  rw [← name_path bs]
  refine Fn.of code59 (by decide) rfl fun Q cs hq => ?_
  show SW E Q 59 [(r0, strOf bs)] _ _ _ _
  repeat' (first | refine SO.build rfl rfl rfl (fun K => rfl) ?_ | refine SW.seq ?_ | refine SW.reg ?_ | refine SO.nil ?_ | refine SO.mov rfl rfl rfl ?_)
  refine SO.callG rfl rfl rfl (primCheck98 bs hl) ?_
  rintro _ h1 n1 ⟨⟨hp, rfl⟩ | ⟨hp, rfl⟩, hE⟩
  · rw [hp, Bool.true_and] at hq
    repeat' (first | refine SO.convSB rfl rfl rfl (fun h2 hs2 hE2 => ?_) | refine SO.mov rfl rfl rfl ?_ | refine SO.eqiT rfl rfl rfl rfl (by omega) ?_)
    refine SO.callG rfl rfl rfl (contains99 47 hs2 hl) ?_
    rintro _ h3 n3 ⟨rfl, rfl, rfl⟩
    cases hc : decide ((47 : UInt8) ∈ bs) with
    | true =>
      rw [hc] at hq
      repeat' (first | refine SO.nil ?_ | refine SO.mov rfl rfl rfl ?_ | refine SO.pickT rfl rfl rfl rfl rfl ?_ | refine SO.notT rfl rfl rfl ?_)
      exact SW.ret code59 ⟨.bool false, rfl, hq _ _ _ ⟨rfl, hE.trans hE2⟩⟩
    | false =>
      rw [hc] at hq
      repeat' (first | refine SO.nil ?_ | refine SO.mov rfl rfl rfl ?_ | refine SO.pickT rfl rfl rfl rfl rfl ?_ | refine SO.notF rfl rfl rfl ?_)
      exact SW.ret code59 ⟨.bool true, rfl, hq _ _ _ ⟨rfl, hE.trans hE2⟩⟩
  · rw [hp, Bool.false_and] at hq
    repeat' (first | refine SO.nil ?_ | refine SO.nope rfl rfl ?_ | refine SO.mov rfl rfl rfl ?_ | refine SO.pickF rfl rfl rfl rfl rfl ?_ | refine SO.eqiF rfl rfl rfl rfl (by omega) ?_)
    exact SW.ret code59 ⟨.bool false, rfl, hq _ _ _ ⟨rfl, hE⟩⟩
def lastGo (bs : List UInt8) : Nat → Int
  | 0 => -1
  | i + 1 => if bs[i]? = some 47 then (i : Int) else lastGo bs i
theorem lastGo_bounds (bs : List UInt8) : ∀ i, -1 ≤ lastGo bs i ∧ lastGo bs i < i
  | 0 => by simp [lastGo]
  | i + 1 => by
    have := lastGo_bounds bs i
    simp only [lastGo]
    split <;> omega
theorem parent_last (bs : List UInt8) : ∀ i, parentGo bs i = bs.take (lastGo bs i).toNat
  | 0 => by simp [parentGo, lastGo]
  | i + 1 => by
    simp only [parentGo, lastGo]
    split
    · simp
    · exact parent_last bs i
theorem last264 {h : Hp} {n : Nat} (bs : List UInt8) (hl : bs.length ≤ 4000000000000000000) : Fn E 264 [strOf bs, .int .u8 47] h n fun r h' n' => r = .int .i64 (lastGo bs bs.length) ∧ h' = h ∧ n' = n := by
  refine Fn.of code264 (by decide) rfl fun Q cs hq => ?_
  show SW E Q 264 [(r0, strOf bs), (r1, .int .u8 47)] _ _ _ _
  have hret : ∀ (e : Int) (R : List (Path × AV)) (todo : List AItem), e = lastGo bs bs.length → look R r4 = some (.int .i64 e) → SW E Q 264 R (.code .ret :: todo) cs h n := fun e R todo he hR => SW.ret code264 ⟨_, hR, hq _ _ _ ⟨by rw [he]; rfl, rfl, rfl⟩⟩
  have loop : ∀ (i : Nat), i ≤ bs.length → lastGo bs i = lastGo bs bs.length → ∀ R, look R r0 = some (strOf bs) → look R r1 = some (.int .u8 47) → look R r5 = some (.int .i64 ((i : Int) - 1)) → SW E Q 264 R [.code c264x6, .inLoop c264x6, .inBlock 0, .code (.seq (.reg c264x7) .ret)] cs h n := by
    intro i
    induction i with
    | zero =>
      intro hi hp R h0 h1 h5
      refine SW.sub (R' := [(r0, strOf bs), (r1, .int .u8 47), (r5, .int .i64 (-1))]) (by simp [h0, h1, h5]) ?_
      repeat' (first | refine SW.seq ?_ | refine SW.reg ?_ | refine SO.nil ?_ | refine SW.condF rfl ?_ | refine SW.exit rfl ?_ | refine SO.mov rfl rfl rfl ?_ | refine SO.geqF rfl rfl rfl rfl (by omega) ?_)
      exact hret (-1) _ _ (by rw [← hp]; rfl) rfl
    | succ i ih =>
      intro hi hp R h0 h1 h5
      have hi' : i < bs.length := by omega
      have e : (((i + 1 : Nat) : Int) - 1) = (i : Int) := by omega
      rw [e] at h5
      refine SW.sub (R' := [(r0, strOf bs), (r1, .int .u8 47), (r5, .int .i64 i)]) (by simp [h0, h1, h5]) ?_
      repeat' (first | refine SW.seq ?_ | refine SW.block ?_ | refine SW.reg ?_ | refine SO.nil ?_ | refine SW.skip ?_ | refine SW.out ?_ | refine SW.condT rfl ?_ | refine SW.condF rfl ?_ | refine SO.mov rfl rfl rfl ?_ | refine SO.idxStr rfl rfl rfl rfl (by omega) ?_ | refine SO.geqT rfl rfl rfl rfl (by omega) ?_ | refine SO.sub rfl rfl rfl rfl (by omega) ?_ | refine SO.eqi rfl rfl rfl rfl (fun _ => ?_) (fun _ => ?_))
      · rename_i he
        refine hret (i : Int) _ _ ?_ rfl
        have : bs[i]? = some 47 := by rw [List.getElem?_eq_getElem hi', Option.some.injEq]; exact UInt8.toNat_inj.1 (by show bs[i].toNat = 47; omega)
        rw [← hp, lastGo, if_pos this]
      · rename_i he
        refine SW.again ?_
        refine ih (by omega) ?_ _ rfl rfl rfl
        have : bs[i]? ≠ some 47 := by
          rw [List.getElem?_eq_getElem hi']
          intro e
          simp only [Option.some.injEq] at e
          rw [e] at he
          exact he rfl
        rw [← hp, lastGo, if_neg this]
  repeat' (first | refine SW.seq ?_ | refine SW.block ?_ | refine SW.reg ?_ | refine SO.nil ?_ | refine SO.mov rfl rfl rfl ?_ | refine SO.lenStr rfl rfl rfl ?_ | refine SO.sub rfl rfl rfl rfl (by omega) ?_)
  refine SW.loop ?_
  exact loop bs.length (Nat.le_refl _) rfl _ rfl rfl rfl
theorem last179 {h : Hp} {n : Nat} (bs : List UInt8) (hl : bs.length ≤ 4000000000000000000) : Fn E 179 [strOf bs, .int .u8 47] h n fun r h' n' => r = .int .i64 (lastGo bs bs.length) ∧ h' = h ∧ n' = n := by
  refine Fn.of code179 (by decide) rfl fun Q cs hq => ?_
  show SW E Q 179 [(r0, strOf bs), (r1, .int .u8 47)] _ _ _ _
  repeat' (first | refine SW.seq ?_ | refine SW.reg ?_ | refine SO.nil ?_ | refine SO.mov rfl rfl rfl ?_)
  refine SO.callG rfl rfl rfl (last264 bs hl) ?_
  rintro _ h' n' ⟨rfl, rfl, rfl⟩
  repeat' (first | refine SO.nil ?_ | refine SO.mov rfl rfl rfl ?_)
  exact SW.ret code179 ⟨_, rfl, hq _ _ _ ⟨rfl, rfl, rfl⟩⟩
theorem parent101 {h : Hp} {n : Nat} (bs : List UInt8) (hl : bs.length ≤ 4000000000000000000) : Fn E 101 [strOf bs] h n fun r h' n' => r = strOf (parentOf bs) ∧ h' = h ∧ n' = n := by
  refine Fn.of code101 (by decide) rfl fun Q cs hq => ?_
  show SW E Q 101 [(r0, strOf bs)] _ _ _ _
  repeat' (first | refine SW.seq ?_ | refine SW.reg ?_ | refine SO.nil ?_ | refine SO.mov rfl rfl rfl ?_)
  refine SO.callG rfl rfl rfl (last179 bs hl) ?_
  rintro _ h' n' ⟨rfl, rfl, rfl⟩
  have hb := lastGo_bounds bs bs.length
  have hz : (if lastGo bs bs.length > 0 then lastGo bs bs.length else 0) = ((lastGo bs bs.length).toNat : Int) := by split <;> omega
  repeat' (first | refine SO.maxI rfl rfl rfl rfl hz ?_ | refine SO.sliceFTa (lastGo bs bs.length).toNat rfl rfl rfl rfl rfl (by omega) ?_ | refine SO.nil ?_ | refine SO.mov rfl rfl rfl ?_)
  exact SW.ret code101 ⟨_, rfl, hq _ _ _ ⟨by rw [parentOf, parent_last]; rfl, rfl, rfl⟩⟩
end Go.Ev
