/- Contracts: quiltref04.clean, quiltref12.Parent, Path, Find. -/
import Derived.Test.YtpamccbgifeoaaaGreatDoorF1
import Derived.Test.YtpamccbgifeoaaaGreatDoorF62
set_option linter.all false
namespace Go.Ev
set_option maxRecDepth 100000
set_option maxHeartbeats 4000000
theorem clean477 {h : Hp} {n : Nat} (bs : List UInt8) (x y : UInt8) (hl : bs.length ≤ 4000000000000000000) : Fn E 477 [strOf bs, .int .u8 x.toNat, .int .u8 y.toNat] h n fun r h' n' => r = .bool (bs.all fun c => c != x && c != y) ∧ h' = h ∧ n' = n := by
  refine Fn.of code477 (by decide) rfl fun Q cs hq => ?_
  show SW E Q 477 [(r0, strOf bs), (r1, .int .u8 x.toNat), (r2, .int .u8 y.toNat)] _ _ _ _
  have hret : ∀ (b : Bool) (R : List (Path × AV)) (todo : List AItem), b = (bs.all fun c => c != x && c != y) → look R r6 = some (.bool b) → SW E Q 477 R (.code .ret :: todo) cs h n := fun b R todo hb hR => SW.ret code477 ⟨_, hR, hq _ _ _ ⟨by rw [hb]; rfl, rfl, rfl⟩⟩
  have loop : ∀ (k i : Nat), i + k = bs.length → ((bs.take i).all fun c => c != x && c != y) = true → ∀ R, look R r0 = some (strOf bs) → look R r1 = some (.int .u8 x.toNat) → look R r2 = some (.int .u8 y.toNat) → look R r7 = some (.int .i64 i) → SW E Q 477 R [.code c477x6, .inLoop c477x6, .inBlock 0, .code (.seq (.reg c477x7) .ret)] cs h n := by
    intro k
    induction k with
    | zero =>
      intro i hi hall R h0 h1 h2 h7
      refine SW.sub (R' := [(r0, strOf bs), (r1, .int .u8 x.toNat), (r2, .int .u8 y.toNat), (r7, .int .i64 i)]) (by simp [h0, h1, h2, h7]) ?_
      repeat' (first | refine SW.seq ?_ | refine SW.reg ?_ | refine SO.nil ?_ | refine SW.condF rfl ?_ | refine SW.exit rfl ?_ | refine SO.mov rfl rfl rfl ?_ | refine SO.lenStr rfl rfl rfl ?_ | refine SO.lssF rfl rfl rfl rfl (by omega) ?_)
      rw [show i = bs.length by omega, List.take_length] at hall
      exact hret true _ _ hall.symm rfl
    | succ k ih =>
      intro i hi hall R h0 h1 h2 h7
      have hi' : i < bs.length := by omega
      refine SW.sub (R' := [(r0, strOf bs), (r1, .int .u8 x.toNat), (r2, .int .u8 y.toNat), (r7, .int .i64 i)]) (by simp [h0, h1, h2, h7]) ?_
      have hstop : (bs[i] = x ∨ bs[i] = y) → false = (bs.all fun c => c != x && c != y) := by
        intro hb
        have : (bs.all fun c => c != x && c != y) = false := List.all_eq_false.2 ⟨bs[i], List.getElem_mem hi', by rcases hb with hb | hb <;> simp [hb]⟩
        rw [this]
      repeat' (first | refine SW.seq ?_ | refine SW.block ?_ | refine SW.reg ?_ | refine SO.nil ?_ | refine SW.skip ?_ | refine SW.out ?_ | refine SW.condT rfl ?_ | refine SW.condF rfl ?_ | refine SO.nope rfl rfl ?_ | refine SO.mov rfl rfl rfl ?_ | refine SO.pickT rfl rfl rfl rfl rfl ?_ | refine SO.pickF rfl rfl rfl rfl rfl ?_ | refine SO.lenStr rfl rfl rfl ?_ | refine SO.idxStr rfl rfl rfl rfl (by omega) ?_ | refine SO.lssT rfl rfl rfl rfl (by omega) ?_ | refine SO.add rfl rfl rfl rfl (by omega) ?_ | refine SO.eqi rfl rfl rfl rfl (fun _ => ?_) (fun _ => ?_))
      · rename_i he
        exact hret false _ _ (hstop (.inl (UInt8.toNat_inj.1 (by omega)))) rfl
      · rename_i he
        exact hret false _ _ (hstop (.inr (UInt8.toNat_inj.1 (by omega)))) rfl
      · rename_i hx hy
        refine SW.again ?_
        refine ih (i + 1) (by omega) ?_ _ rfl rfl rfl rfl
        rw [List.take_succ_eq_append_getElem hi', List.all_append, hall]
        have e1 : bs[i] ≠ x := fun e => hx (by rw [e])
        have e2 : bs[i] ≠ y := fun e => hy (by rw [e])
        simp [e1, e2]
  repeat' (first | refine SW.seq ?_ | refine SW.block ?_ | refine SW.reg ?_ | refine SO.nil ?_ | refine SO.mov rfl rfl rfl ?_)
  refine SW.loop ?_
  exact loop bs.length 0 (by omega) (by simp) _ rfl rfl rfl rfl
def parentGo (bs : List UInt8) : Nat → List UInt8
  | 0 => []
  | i + 1 => if bs[i]? = some 47 then bs.take i else parentGo bs i
def parentOf (bs : List UInt8) : List UInt8 := parentGo bs bs.length
theorem parent182 {h : Hp} {n : Nat} (bs : List UInt8) (hl : bs.length ≤ 4000000000000000000) : Fn E 182 [strOf bs] h n fun r h' n' => r = strOf (parentOf bs) ∧ h' = h ∧ n' = n := by
  refine Fn.of code182 (by decide) rfl fun Q cs hq => ?_
  show SW E Q 182 [(r0, strOf bs)] _ _ _ _
  have hret : ∀ (b : List UInt8) (R : List (Path × AV)) (todo : List AItem), b = parentOf bs → look R r2 = some (strOf b) → SW E Q 182 R (.code .ret :: todo) cs h n := fun b R todo hb hR => SW.ret code182 ⟨_, hR, hq _ _ _ ⟨by rw [hb]; rfl, rfl, rfl⟩⟩
  have loop : ∀ (i : Nat), i ≤ bs.length → parentGo bs i = parentOf bs → ∀ R, look R r0 = some (strOf bs) → look R r3 = some (.int .i64 ((i : Int) - 1)) → SW E Q 182 R [.code c182x6, .inLoop c182x6, .inBlock 0, .code (.seq (.reg c182x7) .ret)] cs h n := by
    intro i
    induction i with
    | zero =>
      intro hi hp R h0 h3
      refine SW.sub (R' := [(r0, strOf bs), (r3, .int .i64 (-1))]) (by simp [h0, h3]) ?_
      repeat' (first | refine SW.seq ?_ | refine SW.reg ?_ | refine SO.nil ?_ | refine SW.condF rfl ?_ | refine SW.exit rfl ?_ | refine SO.mov rfl rfl rfl ?_ | refine SO.geqF rfl rfl rfl rfl (by omega) ?_)
      exact hret [] _ _ (by rw [← hp]; rfl) rfl
    | succ i ih =>
      intro hi hp R h0 h3
      have hi' : i < bs.length := by omega
      have e : (((i + 1 : Nat) : Int) - 1) = (i : Int) := by omega
      rw [e] at h3
      refine SW.sub (R' := [(r0, strOf bs), (r3, .int .i64 i)]) (by simp [h0, h3]) ?_
      repeat' (first | refine SW.seq ?_ | refine SW.block ?_ | refine SW.reg ?_ | refine SO.nil ?_ | refine SW.skip ?_ | refine SW.out ?_ | refine SW.condT rfl ?_ | refine SW.condF rfl ?_ | refine SO.mov rfl rfl rfl ?_ | refine SO.idxStr rfl rfl rfl rfl (by omega) ?_ | refine SO.geqT rfl rfl rfl rfl (by omega) ?_ | refine SO.sliceFT rfl rfl rfl rfl (by omega) ?_ | refine SO.sub rfl rfl rfl rfl (by omega) ?_ | refine SO.eqi rfl rfl rfl rfl (fun _ => ?_) (fun _ => ?_))
      · rename_i he
        refine hret (bs.take i) _ _ ?_ rfl
        have : bs[i]? = some 47 := by rw [List.getElem?_eq_getElem hi', Option.some.injEq]; exact UInt8.toNat_inj.1 (by show bs[i].toNat = 47; omega)
        rw [← hp, parentGo, if_pos this]
      · rename_i he
        refine SW.again ?_
        refine ih (by omega) ?_ _ rfl rfl
        have : bs[i]? ≠ some 47 := by
          rw [List.getElem?_eq_getElem hi']
          intro e
          simp only [Option.some.injEq] at e
          rw [e] at he
          exact he rfl
        rw [← hp, parentGo, if_neg this]
  repeat' (first | refine SW.seq ?_ | refine SW.block ?_ | refine SW.reg ?_ | refine SO.nil ?_ | refine SO.mov rfl rfl rfl ?_ | refine SO.lenStr rfl rfl rfl ?_ | refine SO.sub rfl rfl rfl rfl (by omega) ?_)
  refine SW.loop ?_
  exact loop bs.length (Nat.le_refl _) rfl _ rfl rfl
def segs (cur : List UInt8) : List UInt8 → List (List UInt8)
  | [] => [cur]
  | c :: r => if c = 47 then cur :: segs [] r else segs (cur ++ [c]) r
def pathOk (bs : List UInt8) : Bool := decide (bs.length ≤ 200) && (segs [] bs).all nameOk
theorem part_snoc {bs : List UInt8} {i j : Nat} (hij : i ≤ j) (hj : j < bs.length) : part bs i (j + 1) = part bs i j ++ [bs[j]] := by
  unfold part
  rw [show j + 1 - i = (j - i) + 1 by omega, List.take_succ_eq_append_getElem (by simp; omega)]
  simp only [List.getElem_drop]
  congr 2
  simp only [show i + (j - i) = j by omega]
theorem path180 {h : Hp} {n : Nat} (bs : List UInt8) (hl : bs.length ≤ 4000000000000000000) : Fn E 180 [strOf bs] h n fun r h' n' => r = .bool (pathOk bs) ∧ h' = h ∧ n' = n := by
  refine Fn.of code180 (by decide) rfl fun Q cs hq => ?_
  show SW E Q 180 [(r0, strOf bs)] _ _ _ _
  have hret : ∀ (b : Bool) (R : List (Path × AV)) (todo : List AItem), b = pathOk bs → look R r2 = some (.bool b) → SW E Q 180 R (.code .ret :: todo) cs h n := fun b R todo hb hR => SW.ret code180 ⟨_, hR, hq _ _ _ ⟨by rw [hb]; rfl, rfl, rfl⟩⟩
  by_cases hlen : bs.length ≤ 200
  case neg =>
    repeat' (first | refine SW.seq ?_ | refine SW.reg ?_ | refine SO.nil ?_ | refine SW.condT rfl ?_ | refine SO.mov rfl rfl rfl ?_ | refine SO.lenStr rfl rfl rfl ?_ | refine SO.gtrT rfl rfl rfl rfl (by omega) ?_)
    exact hret false _ _ (by simp [pathOk, hlen]) rfl
  have hok : pathOk bs = (segs [] bs).all nameOk := by simp [pathOk, hlen]
  have hdone : ∀ R, (segs [] bs).all nameOk = true → look R r0 = some (strOf bs) → look R r4 = some (.int .i64 ((bs.length : Int) + 1)) → SW E Q 180 R [.inLoop c180x11, .inBlock 0, .code (.seq (.reg c180x12) .ret)] cs h n := by
    intro R ht h0 h4
    refine SW.sub (R' := [(r0, strOf bs), (r4, .int .i64 ((bs.length : Int) + 1))]) (by simp [h0, h4]) ?_
    refine SW.again ?_
    repeat' (first | refine SW.seq ?_ | refine SW.reg ?_ | refine SO.nil ?_ | refine SW.condF rfl ?_ | refine SW.exit rfl ?_ | refine SO.mov rfl rfl rfl ?_ | refine SO.lenStr rfl rfl rfl ?_ | refine SO.leqF rfl rfl rfl rfl (by omega) ?_)
    exact hret true _ _ (by rw [hok, ht]) rfl
  have loop : ∀ (k i fr : Nat), i + k = bs.length → fr ≤ i → (segs (part bs fr i) (bs.drop i)).all nameOk = (segs [] bs).all nameOk → ∀ R, look R r0 = some (strOf bs) → look R r3 = some (.int .i64 fr) → look R r4 = some (.int .i64 i) → SW E Q 180 R [.code c180x11, .inLoop c180x11, .inBlock 0, .code (.seq (.reg c180x12) .ret)] cs h n := by
    intro k
    induction k with
    | zero =>
      intro i fr hi hfr hseg R h0 h3 h4
      refine SW.sub (R' := [(r0, strOf bs), (r3, .int .i64 fr), (r4, .int .i64 i)]) (by simp [h0, h3, h4]) ?_
      have hdrop : bs.drop i = [] := List.drop_eq_nil_of_le (by omega)
      rw [hdrop] at hseg
      simp only [segs, List.all_cons, List.all_nil, Bool.and_true] at hseg
      repeat' (first | refine SW.seq ?_ | refine SW.block ?_ | refine SW.reg ?_ | refine SO.nil ?_ | refine SW.skip ?_ | refine SW.condT rfl ?_ | refine SW.condF rfl ?_ | refine SO.nope rfl rfl ?_ | refine SO.mov rfl rfl rfl ?_ | refine SO.pickF rfl rfl rfl rfl rfl ?_ | refine SO.lenStr rfl rfl rfl ?_ | refine SO.lssF rfl rfl rfl rfl (by omega) ?_ | refine SO.leqT rfl rfl rfl rfl (by omega) ?_ | refine SO.sliceTT rfl rfl rfl rfl rfl (by omega) (by omega) ?_)
      refine SO.callG rfl rfl rfl (name62 (part bs fr i) (by rw [part_length (by omega)]; omega) h n) ?_
      rintro v h' n' ⟨rfl, rfl, rfl⟩
      rw [hseg]
      cases ht : (segs [] bs).all nameOk with
      | true =>
        repeat' (first | refine SW.reg ?_ | refine SO.nil ?_ | refine SW.skip ?_ | refine SW.out ?_ | refine SW.condF rfl ?_ | refine SO.mov rfl rfl rfl ?_ | refine SO.notT rfl rfl rfl ?_ | refine SO.add rfl rfl rfl rfl (by omega) ?_)
        exact hdone _ ht rfl (by rw [show (bs.length : Int) = (i : Int) by omega]; rfl)
      | false =>
        repeat' (first | refine SW.seq ?_ | refine SW.reg ?_ | refine SO.nil ?_ | refine SW.condT rfl ?_ | refine SO.mov rfl rfl rfl ?_ | refine SO.notF rfl rfl rfl ?_)
        exact hret false _ _ (by rw [hok, ht]) rfl
    | succ k ih =>
      intro i fr hi hfr hseg R h0 h3 h4
      have hi' : i < bs.length := by omega
      refine SW.sub (R' := [(r0, strOf bs), (r3, .int .i64 fr), (r4, .int .i64 i)]) (by simp [h0, h3, h4]) ?_
      rw [List.drop_eq_getElem_cons hi'] at hseg
      simp only [segs] at hseg
      repeat' (first | refine SW.seq ?_ | refine SW.block ?_ | refine SW.reg ?_ | refine SO.nil ?_ | refine SW.skip ?_ | refine SW.condT rfl ?_ | refine SW.condF rfl ?_ | refine SW.exit rfl ?_ | refine SO.mov rfl rfl rfl ?_ | refine SO.pickT rfl rfl rfl rfl rfl ?_ | refine SO.lenStr rfl rfl rfl ?_ | refine SO.idxStr rfl rfl rfl rfl (by omega) ?_ | refine SO.lssT rfl rfl rfl rfl (by omega) ?_ | refine SO.leqT rfl rfl rfl rfl (by omega) ?_ | refine SO.sliceTT rfl rfl rfl rfl rfl (by omega) (by omega) ?_ | refine SO.add rfl rfl rfl rfl (by omega) ?_ | refine SO.nei rfl rfl rfl rfl (fun _ => ?_) (fun _ => ?_))
      ·
        rename_i hne
        have hne' : bs[i] ≠ 47 := fun e => hne (by rw [e]; rfl)
        rw [if_neg hne', ← part_snoc hfr hi'] at hseg
        refine SW.again ?_
        exact ih (i + 1) fr (by omega) (by omega) hseg _ rfl rfl rfl
      ·
        rename_i heq
        have heq' : bs[i] = 47 := UInt8.toNat_inj.1 (by show bs[i].toNat = 47; omega)
        rw [if_pos heq'] at hseg
        simp only [List.all_cons] at hseg
        refine SO.callG rfl rfl rfl (name62 (part bs fr i) (by rw [part_length (by omega)]; omega) h n) ?_
        rintro v h' n' ⟨rfl, rfl, rfl⟩
        cases hn : nameOk (part bs fr i) with
        | true =>
          rw [hn, Bool.true_and] at hseg
          repeat' (first | refine SW.reg ?_ | refine SO.nil ?_ | refine SW.skip ?_ | refine SW.out ?_ | refine SW.condF rfl ?_ | refine SO.mov rfl rfl rfl ?_ | refine SO.notT rfl rfl rfl ?_ | refine SO.add rfl rfl rfl rfl (by omega) ?_)
          refine SW.again ?_
          refine ih (i + 1) (i + 1) (by omega) (Nat.le_refl _) ?_ _ rfl rfl rfl
          rw [← hseg]
          simp [part]
        | false =>
          rw [hn, Bool.false_and] at hseg
          repeat' (first | refine SW.seq ?_ | refine SW.reg ?_ | refine SO.nil ?_ | refine SW.condT rfl ?_ | refine SO.mov rfl rfl rfl ?_ | refine SO.notF rfl rfl rfl ?_)
          exact hret false _ _ (by rw [hok, ← hseg]) rfl
  repeat' (first | refine SW.seq ?_ | refine SW.block ?_ | refine SW.reg ?_ | refine SO.nil ?_ | refine SW.skip ?_ | refine SW.condF rfl ?_ | refine SO.mov rfl rfl rfl ?_ | refine SO.lenStr rfl rfl rfl ?_ | refine SO.gtrF rfl rfl rfl rfl (by omega) ?_)
  refine SW.loop ?_
  exact loop bs.length 0 0 (by omega) (Nat.le_refl _) (by simp [part]) _ rfl rfl rfl
def findF (fs : List PF) (path : List UInt8) : Option PF := fs.find? fun f => f.path == path
def zeroF : List AV := [strOf [], .int .i64 0, .int .i64 0, strOf []]
theorem find183 {h : Hp} {n : Nat} {v : AV} {fs : List PF} (path : List UInt8) (hs : Sl h n 4 v fs.length (fs.flatMap pfC)) (hl : fs.length ≤ 4000000000000000000) :
    Fn E 183 [v, strOf path] h n fun r h' n' => (match findF fs path with | some f => r = .tup [.agg (pfC f), .bool true] | none => r = .tup [.agg zeroF, .bool false]) ∧ Gr h n h' n' := by
  refine Fn.of code183 (by decide) rfl fun Q cs hq => ?_
  show SW E Q 183 [(r0, v), (r1, strOf path)] _ _ _ _
  have loop : ∀ (k i : Nat) (h1 : Hp), i + k = fs.length → findF fs path = findF (fs.drop i) path → hb h1 n = some (.cell zeroF 36 false) → Gr h n h1 (n + 1) → ∀ R, look R r0 = some v → look R r1 = some (strOf path) → look R r4 = some (.ptr n 0) → look R r6 = some (.int .i64 i) → SW E Q 183 R [.code c183x6, .inLoop c183x6, .inBlock 0, .code (.seq (.reg c183x7) .ret)] cs h1 (n + 1) := by
    intro k
    induction k with
    | zero =>
      intro i h1 hi hfd hc hE R q0 q1 q4 q6
      refine SW.sub (R' := [(r0, v), (r1, strOf path), (r4, .ptr n 0), (r6, .int .i64 i)]) (by simp [q0, q1, q4, q6]) ?_
      repeat' (first | refine SO.build rfl rfl rfl (fun K => rfl) ?_ | refine SO.storeAll rfl rfl rfl hc rfl rfl (fun h2 hc2 hk2 => ?_) | refine SW.seq ?_ | refine SW.reg ?_ | refine SO.nil ?_ | refine SW.condF rfl ?_ | refine SW.exit rfl ?_ | refine SO.mov rfl rfl rfl ?_ | refine SO.lenSl rfl rfl rfl (by assumption) ?_ | refine SO.lssF rfl rfl rfl rfl (by omega) ?_)
      have hnone : findF fs path = none := by rw [hfd, List.drop_eq_nil_of_le (by omega)]; rfl
      refine SW.ret code183 ⟨n, 0, zeroF, rfl, .inl ⟨_, _, hc2⟩, by decide, ?_⟩
      refine ⟨.bool false, rfl, hq _ _ _ ⟨?_, (hE.keep (Nat.le_refl n) hk2).less (Nat.le_refl n)⟩⟩
      rw [hnone]; rfl
    | succ k ih =>
      intro i h1 hi hfd hc hE R q0 q1 q4 q6
      have hi' : i < fs.length := by omega
      refine SW.sub (R' := [(r0, v), (r1, strOf path), (r4, .ptr n 0), (r6, .int .i64 i)]) (by simp [q0, q1, q4, q6]) ?_
      repeat' (first | refine SO.idxOf (fun _ => rfl) rfl rfl rfl rfl hs hi' (fun a o hp => ?_) | refine SO.loadF rfl rfl rfl (by assumption) hE rfl ?_ | refine SO.loadA rfl rfl rfl (by assumption) hE rfl ?_ | refine SO.storeAll rfl rfl rfl hc rfl rfl (fun h2 hc2 hk2 => ?_) | refine SW.seq ?_ | refine SW.block ?_ | refine SW.reg ?_ | refine SO.nil ?_ | refine SW.skip ?_ | refine SW.out ?_ | refine SW.condT rfl ?_ | refine SW.condF rfl ?_ | refine SO.mov rfl rfl rfl ?_ | refine SO.fieldA rfl rfl rfl ?_ | refine SO.lenSl rfl rfl rfl (by assumption) ?_ | refine SO.lssT rfl rfl rfl rfl (by omega) ?_ | refine SO.add rfl rfl rfl rfl (by omega) ?_ | refine SO.strEq rfl rfl rfl rfl (fun _ => ?_) (fun _ => ?_))
      · rename_i _ _ _ he
        have hsome : findF fs path = some fs[i] := by
          rw [hfd, List.drop_eq_getElem_cons hi']
          unfold findF
          rw [List.find?_cons]
          simp [he]
        refine SW.ret code183 ⟨n, 0, pfC fs[i], rfl, .inl ⟨_, _, hc2⟩, by simp, ?_⟩
        refine ⟨.bool true, rfl, hq _ _ _ ⟨?_, (hE.keep (Nat.le_refl n) hk2).less (Nat.le_refl n)⟩⟩
        rw [hsome]; rfl
      · rename_i he
        refine SW.again ?_
        refine ih (i + 1) h1 (by omega) ?_ hc hE _ rfl rfl rfl rfl
        rw [hfd, List.drop_eq_getElem_cons hi']
        unfold findF
        rw [List.find?_cons]
        have : (fs[i].path == path) = false := by simpa using he
        rw [this]
  repeat' (first | refine SO.alloc rfl rfl (fun h1 hc hE => ?_) | refine SW.seq ?_ | refine SW.block ?_ | refine SW.reg ?_ | refine SO.nil ?_ | refine SO.mov rfl rfl rfl ?_)
  refine SW.loop ?_
  exact loop fs.length 0 _ (by omega) rfl hc hE _ rfl rfl rfl rfl
end Go.Ev
