/- Contracts: strings.Builder: copyCheck, WriteString, WriteByte, String. -/
import Derived.Test.YtpamccbgifeoaaaGreatDoorF18
set_option linter.all false
namespace Go.Ev
set_option maxRecDepth 100000
set_option maxHeartbeats 4000000
theorem own_ge {h : Hp} {n0 n esz : Nat} {e : TypeId} {v : AV} {fo : Option Nat} {cells : List AV} (ho : Own h n0 n esz e v fo cells) {f : Nat} (hf : fo = some f) : n0 ≤ f := by
  rcases ho with ⟨_, _, h1⟩ | ⟨_, _, _, _, _, _, _, _, h1⟩ | ⟨a, g, lo, l, _, _, _, _, h4, _, _, h7, _, h1⟩
  · rw [h1] at hf; simp at hf
  · rw [h1] at hf; simp at hf
  · rw [h1] at hf; simp at hf; omega
theorem own_plain {h : Hp} {n0 n esz : Nat} {e : TypeId} {v : AV} {fo : Option Nat} {cells : List AV} (ho : Own h n0 n esz e v fo cells) : v.cells = [v] ∧ ∀ us, v ≠ .tup us := by
  rcases ho with ⟨rfl, _⟩ | ⟨_, _, _, rfl, _⟩ | ⟨_, _, _, _, rfl, _⟩ <;> exact ⟨rfl, fun us => by simp⟩
theorem appendTo_own0 {h : Hp} {n n0 esz : Nat} {e : TypeId} {v : AV} {fo : Option Nat} {cells : List AV} (ho : Own h n0 n esz e v fo cells) :
    ∃ v' h', (∀ K, appendTo e esz v 0 [] h n K = K.v v' h' n) ∧ Own h' n0 n esz e v' fo cells ∧ (v = .nils → v' = .nils) ∧ (∀ b, fo ≠ some b → hb h' b = hb h b) := by
  rcases ho with ⟨rfl, rfl, rfl⟩ | ⟨a, l, ty, rfl, h1, h2, h3, h4, rfl⟩ | ⟨a, f, lo, l, rfl, h1, h2, h3, h4, h5, h6, h7, h8, rfl⟩
  · exact ⟨.nils, h, fun K => rfl, .inl ⟨rfl, rfl, rfl⟩, fun _ => rfl, fun _ _ => rfl⟩
  · have es : splice (0 + l * esz) ([] : List AV) cells = cells := by simp [splice]
    refine ⟨.slc a 0 l l, hput a (.cell cells ty false) h, fun K => ?_, .inr (.inl ⟨a, l, ty, rfl, h1, h2, h3, hb_self _ _ _, rfl⟩), by simp, fun b _ => ?_⟩
    · show force (Nat.add l 0) (fun need => force (Nat.mul l esz) fun lc => Bool.rec (motive := fun _ => Bool) (loadN h a 0 lc fun old => freshK e esz old [] need h n K) (force (Nat.add 0 lc) fun at_ => storeN h a at_ [] fun h => K.v (.slc a 0 need l) h n) (Nat.ble need l)) = _
      rw [force_eq, force_eq, show Nat.ble (Nat.add l 0) l = true from Nat.ble_eq_true_of_le (Nat.le_refl _)]
      show force (Nat.add 0 (Nat.mul l esz)) (fun at_ => storeN h a at_ [] fun h => K.v (.slc a 0 l l) h n) = _
      rw [force_eq]
      unfold storeN
      rw [blk_at h4]
      show spliceK (0 + l * esz) [] cells (fun vs' => putK a (.cell vs' ty false) h fun h => K.v (.slc a 0 l l) h n) = _
      rw [Bool.eq_iff_iff, spliceK_iff, es, putK_eq]
      exact ⟨fun h => h.2, fun h => ⟨by simp [h1], h⟩⟩
    · by_cases hba : b = a
      · subst hba; rw [hb_self, h4]
      · rw [hb_other _ _ hba]
  · have es : splice (0 + l * esz) ([] : List AV) cells = cells := by simp [splice]
    have hfa : f ≠ a := fun e' => by rw [e', h6] at h7; simp at h7
    refine ⟨.gsl a 0 l esz, hput f (.fam a a) (hput a (.row cells e f 0) h), fun K => ?_, .inr (.inr ⟨a, f, a, l, rfl, h1, h2, h3, h4, h5, ?_, hb_self _ _ _, Nat.le_refl _, rfl⟩), by simp, fun b hb0 => ?_⟩
    · show guardB (Nat.beq esz esz) (force (Nat.add l 0) fun need => force (Nat.add 0 (Nat.mul l esz)) fun at_ => blkK h a fun b => ifCells b (fun _ _ _ => false) fun vs el f frz => lenK vs fun len => blkK h f fun g => ifFam g fun low last => guardB (Nat.beq last a) (guardB (Nat.ble low a) (
        Bool.rec (motive := fun _ => Bool)
          (guardB (Nat.beq at_ len && (Nat.ble need 1048576 && Nat.beq el e)) (guardB (Nat.ble frz len) (dropK 0 vs fun old => appK old [] fun cs => putK f (.fam low n) h fun h => frzK frz 0 fun frz => newK (.row cs el f frz) h n fun a h n => K.v (.gsl a 0 need esz) h n)))
          (storeN h a at_ [] fun h => K.v (.gsl a 0 need esz) h n)
          (Nat.ble (Nat.add 0 (Nat.mul need esz)) len)))) = _
      rw [show Nat.beq esz esz = true by simp, guardT, force_eq, force_eq, blk_at h6]
      show lenK cells (fun len => blkK h f fun g => ifFam g fun low last => guardB (Nat.beq last a) (guardB (Nat.ble low a) (
        Bool.rec (motive := fun _ => Bool)
          (guardB (Nat.beq (Nat.add 0 (Nat.mul l esz)) len && (Nat.ble (Nat.add l 0) 1048576 && Nat.beq e e)) (guardB (Nat.ble 0 len) (dropK 0 cells fun old => appK old [] fun cs => putK f (.fam low n) h fun h => frzK 0 0 fun frz => newK (.row cs e f frz) h n fun a h n => K.v (.gsl a 0 (Nat.add l 0) esz) h n)))
          (storeN h a (Nat.add 0 (Nat.mul l esz)) [] fun h => K.v (.gsl a 0 (Nat.add l 0) esz) h n)
          (Nat.ble (Nat.add 0 (Nat.mul (Nat.add l 0) esz)) len)))) = _
      rw [lenK_eq, blk_at h7]
      show guardB (Nat.beq a a) (guardB (Nat.ble lo a) (
        Bool.rec (motive := fun _ => Bool)
          (guardB (Nat.beq (Nat.add 0 (Nat.mul l esz)) cells.length && (Nat.ble (Nat.add l 0) 1048576 && Nat.beq e e)) (guardB (Nat.ble 0 cells.length) (dropK 0 cells fun old => appK old [] fun cs => putK f (.fam lo n) h fun h => frzK 0 0 fun frz => newK (.row cs e f frz) h n fun a h n => K.v (.gsl a 0 (Nat.add l 0) esz) h n)))
          (storeN h a (Nat.add 0 (Nat.mul l esz)) [] fun h => K.v (.gsl a 0 (Nat.add l 0) esz) h n)
          (Nat.ble (Nat.add 0 (Nat.mul (Nat.add l 0) esz)) cells.length))) = _
      rw [show Nat.beq a a = true by simp, Nat.ble_eq_true_of_le h8, show Nat.ble (Nat.add 0 (Nat.mul (Nat.add l 0) esz)) cells.length = true from Nat.ble_eq_true_of_le (by show 0 + l * esz ≤ _; omega)]
      show storeN h a (0 + l * esz) [] (fun h => K.v (.gsl a 0 l esz) h n) = _
      unfold storeN
      rw [blk_at h6]
      show blkK h f (fun g => ifFam g fun low last => guardB (Nat.beq last a) (guardB (Nat.ble low a) (guardB (Nat.ble 0 (0 + l * esz)) (spliceK (0 + l * esz) [] cells fun vs' => putK a (.row vs' e f 0) h fun h => putK f (.fam a last) h fun h => K.v (.gsl a 0 l esz) h n)))) = _
      rw [blk_at h7]
      show guardB (Nat.beq a a) (guardB (Nat.ble lo a) (guardB (Nat.ble 0 (0 + l * esz)) (spliceK (0 + l * esz) [] cells fun vs' => putK a (.row vs' e f 0) h fun h => putK f (.fam a a) h fun h => K.v (.gsl a 0 l esz) h n))) = _
      rw [show Nat.beq a a = true by simp, Nat.ble_eq_true_of_le h8, Nat.ble_eq_true_of_le (Nat.zero_le _), guardT, guardT, guardT]
      rw [Bool.eq_iff_iff, spliceK_iff, es, putK_eq, putK_eq]
      exact ⟨fun h => h.2, fun h => ⟨by simp [h1], h⟩⟩
    · rw [hb_other _ _ (Ne.symm hfa), hb_self]
    · have hbf : b ≠ f := fun e' => hb0 (by rw [e'])
      rw [hb_other _ _ hbf]
      by_cases hba : b = a
      · subst hba; rw [hb_self, h6]
      · rw [hb_other _ _ hba]
theorem flat_bytes : ∀ ds : List UInt8, (ds.map fun b => AV.int .u8 (b.toNat : Int)) = ds.flatMap byteC
  | [] => rfl
  | c :: ds => by rw [List.flatMap_cons, ← flat_bytes ds]; rfl
theorem byteC_length (ds : List UInt8) : (ds.flatMap byteC).length = ds.length := by rw [flatMap_length (esz := 1) (fun _ => rfl)]; omega
theorem appendTo_some {h : Hp} {n n0 esz m : Nat} {e : TypeId} {v : AV} {fo : Option Nat} {cells ys : List AV} (hz : 0 < esz) (hm : 0 < m) (ho : Own h n0 n esz e v fo cells) (hv : fo = none → v = .nils) (hn : n0 ≤ n) (hy : ys.length = m * esz) (hb' : cells.length + ys.length ≤ 1048576) :
    ∃ v' f' h' n', (∀ K, appendTo e esz v m ys h n K = K.v v' h' n') ∧ Own h' n0 n' esz e v' (some f') (cells ++ ys) ∧ n ≤ n' ∧ (∀ b, b < n → fo ≠ some b → hb h' b = hb h b) := by
  cases fo with
  | some f =>
    obtain ⟨v', fo', h', n', k1, k2, k3, k4, k5⟩ := appendTo_own hz hm ho hn hy hb'
    rcases k5 with rfl | ⟨f', rfl, _⟩
    · exact ⟨v', f, h', n', k1, k2, k3, k4⟩
    · exact ⟨v', f', h', n', k1, k2, k3, k4⟩
  | none =>
    have := hv rfl
    subst this
    obtain rfl : cells = [] := by
      rcases ho with ⟨_, h1, _⟩ | ⟨_, _, _, h1, _⟩ | ⟨_, _, _, _, h1, _⟩
      · exact h1
      · simp at h1
      · simp at h1
    have hml : m ≤ 1048576 := by
      have : m ≤ m * esz := Nat.le_mul_of_pos_right m hz
      simp at hb'; omega
    obtain ⟨v', fo', h', n', k1, k2, k3, k4, f', rfl, _⟩ := fresh_own (h := h) (n := n) (n0 := n0) (e := e) (esz := esz) (old := []) (new := ys) (len := m) (by simpa using hy) hml hn
    refine ⟨v', f', h', n', fun K => ?_, k2, k3, fun b hb0 _ => k4 b hb0⟩
    show (Bool.rec (motive := fun _ => Bool) (freshK e esz [] ys m h n K) (K.v .nils h n) (Nat.beq m 0)) = _
    have : Nat.beq m 0 = false := by cases m with | zero => omega | succ m => rfl
    rw [this]
    exact k1 K
structure Buff (h : Hp) (n0 n : Nat) (v : AV) (fo : Option Nat) (bs : List UInt8) : Prop where
  own : Own h n0 n 1 5 v fo (bs.flatMap byteC)
  ok : (fo = none ∧ v = .nils) ∨ (fo ≠ none ∧ bs ≠ [])
theorem Buff.keep {h h' : Hp} {n0 n n' : Nat} {v : AV} {fo : Option Nat} {bs : List UInt8} (hB : Buff h n0 n v fo bs) (hn : n ≤ n') (hk : ∀ b, n0 ≤ b → b < n → hb h' b = hb h b) : Buff h' n0 n' v fo bs := ⟨hB.own.keep hn hk, hB.ok⟩
theorem buff_nil {fo : Option Nat} {v : AV} {bs : List UInt8} (hk : (fo = none ∧ v = .nils) ∨ (fo ≠ none ∧ bs ≠ [])) : fo = none → v = .nils := by
  intro h
  rcases hk with ⟨_, h1⟩ | ⟨h1, _⟩
  · exact h1
  · exact absurd h h1
section
variable {E : Env} {Q : Post} {fn : Fr} {md : Md} {R : List (Path × AV)} {todo : List AItem} {cs : List AF} {h h' h0 : Hp} {n n' n0 : Nat} {os : List COp} {k k' : IntKind} {p : Path} {g : Option (Path × Bool)} {X Y Z : CX} {a o : Nat} {u v : AV} {x y : Int} {fo : Option Nat} {bs ds : List UInt8}
theorem SO.appendStr (hg : wantB R g = true) (hd : Nat.beq p.len depth = true) (h1 : lookX R X = some v) (h2 : lookX R Y = some (strOf ds)) (ho : Buff h n0 n v fo bs) (hn : n0 ≤ n) (hb' : bs.length + ds.length ≤ 1048576)
    (hw : ∀ v' fo' h' n', Buff h' n0 n' v' fo' (bs ++ ds) → n ≤ n' → (∀ b, b < n → fo ≠ some b → hb h' b = hb h b) → SO E Q fn md ((p, v') :: R) os todo cs h' n') : SO E Q fn md R (⟨some p, g, [X, Y], .append 5 1⟩ :: os) todo cs h n := by
  have key : ∀ K, execV (.append 5 1) [v, strOf ds] h n K = appendTo 5 1 v ds.length (ds.flatMap byteC) h n K := fun K => by
    show guardB (Nat.blt 0 1) (guardB (Nat.beq 1 1) (bytesK ds.length (codeL ds) fun new => appendTo 5 1 v ds.length new h n K)) = _
    rw [show Nat.blt 0 1 = true from rfl, show Nat.beq 1 1 = true from rfl, guardT, guardT, bytesK_val, bytesOf_codeL, flat_bytes]
  cases ds with
  | nil =>
    obtain ⟨v', h1', k1, k2, k3, k4⟩ := appendTo_own0 ho.own
    refine SO.val hg hd (two h1 h2) (fun K => (key K).trans (k1 K)) (hw v' fo h1' n ⟨by simpa using k2, ?_⟩ (Nat.le_refl _) fun b _ hf => k4 b hf)
    rcases ho.ok with ⟨h3, h4⟩ | ⟨h3, h4⟩
    · exact .inl ⟨h3, k3 h4⟩
    · exact .inr ⟨h3, by simpa using h4⟩
  | cons d ds =>
    obtain ⟨v', f', h1', n1', k1, k2, k3, k4⟩ := appendTo_some (m := (d :: ds).length) (ys := (d :: ds).flatMap byteC) (by decide) (by simp) ho.own (buff_nil ho.ok) hn (by rw [byteC_length]; omega) (by rw [byteC_length, byteC_length]; omega)
    exact SO.val hg hd (two h1 h2) (fun K => (key K).trans (k1 K)) (hw v' (some f') h1' n1' ⟨by rw [List.flatMap_append]; exact k2, .inr ⟨by simp, by simp⟩⟩ k3 k4)
theorem SO.appendB (hg : wantB R g = true) (hd : Nat.beq p.len depth = true) (h1 : lookX R X = some v) (h2 : lookX R Y = some u) (ho : Buff h n0 n v fo bs) (hn : n0 ≤ n) (hds : ds ≠ []) (hx : Sl h n 1 u ds.length (ds.flatMap byteC)) (hb' : bs.length + ds.length ≤ 1048576)
    (hw : ∀ v' fo' h' n', Buff h' n0 n' v' fo' (bs ++ ds) → n ≤ n' → (∀ b, b < n → fo ≠ some b → hb h' b = hb h b) → SO E Q fn md ((p, v') :: R) os todo cs h' n') : SO E Q fn md R (⟨some p, g, [X, Y], .append 5 1⟩ :: os) todo cs h n := by
  have hpos : 0 < ds.length := List.length_pos_iff.2 hds
  obtain ⟨hy, hx⟩ := hx
  obtain ⟨v', f', h1', n1', k1, k2, k3, k4⟩ := appendTo_some (m := ds.length) (ys := ds.flatMap byteC) (by decide) hpos ho.own (buff_nil ho.ok) hn hy (by rw [byteC_length, byteC_length]; omega)
  refine SO.val hg hd (two h1 h2) (fun K => ?_) (hw v' (some f') h1' n1' ⟨by rw [List.flatMap_append]; exact k2, .inr ⟨by simp, by simp [hds]⟩⟩ k3 k4)
  rw [← k1 K]
  rcases hx with ⟨rfl, h0⟩ | ⟨a, o, c, vs, ⟨rfl, _⟩ | ⟨rfl, _⟩, h2, h3, h4⟩
  · omega
  · show guardB (Nat.blt 0 1) (loadN h a o (Nat.mul ds.length 1) fun new => appendTo 5 1 v ds.length new h n K) = _
    rw [show Nat.blt 0 1 = true from rfl, guardT, loadN_eq h2.is (by show o + ds.length * 1 ≤ _; exact h3), show (vs.drop o).take (Nat.mul ds.length 1) = ds.flatMap byteC from h4]
  · show guardB (Nat.blt 0 1) (loadN h a o (Nat.mul ds.length 1) fun new => appendTo 5 1 v ds.length new h n K) = _
    rw [show Nat.blt 0 1 = true from rfl, guardT, loadN_eq h2.is (by show o + ds.length * 1 ≤ _; exact h3), show (vs.drop o).take (Nat.mul ds.length 1) = ds.flatMap byteC from h4]
theorem SO.toUns {us : List AV} {e : TypeId} {ro : Bool} (hg : wantB R g = true) (hd : Nat.beq p.len depth = true) (h1 : lookX R X = some (.ptr a o)) (hb0 : hb h a = some (.cell us e ro)) (ho : o < us.length) (hw : SO E Q fn md ((p, .ptr a o) :: R) os todo cs h n) : SO E Q fn md R (⟨some p, g, [X], .toUns⟩ :: os) todo cs h n :=
  SO.val hg hd (one1 h1) (fun K => by
    show blkK h a (fun b => ifCells b (fun cs _ _ => lenK cs fun len => guardB (Nat.blt o len) (K.v (.ptr a o) h n)) (fun _ _ _ _ => false)) = _
    rw [blk_at hb0]
    show lenK us (fun len => guardB (Nat.blt o len) (K.v (.ptr a o) h n)) = _
    rw [lenK_eq, show Nat.blt o us.length = true by simp [Nat.blt, Nat.lt_iff_add_one_le] at ho ⊢; exact ho]; rfl) hw
theorem SO.noEsc (hg : wantB R g = true) (hd : Nat.beq p.len depth = true) (h1 : lookX R X = some (.ptr a o)) (hw : SO E Q fn md ((p, .ptr a o) :: R) os todo cs h n) : SO E Q fn md R (⟨some p, g, [X], .ext .noEscape⟩ :: os) todo cs h n :=
  SO.val hg hd (one1 h1) (fun K => rfl) hw
theorem SO.fromUns {us : List AV} {e : TypeId} {ro : Bool} {s : Nat} (hg : wantB R g = true) (hd : Nat.beq p.len depth = true) (h1 : lookX R X = some (.ptr a 0)) (hb0 : hb h a = some (.cell us e ro)) (hs : s ≤ us.length) (hw : SO E Q fn md ((p, .ptr a 0) :: R) os todo cs h n) : SO E Q fn md R (⟨some p, g, [X], .fromUns e s⟩ :: os) todo cs h n :=
  SO.val hg hd (one1 h1) (fun K => by
    show guardB (Nat.beq 0 0) (blkK h a fun b => ifCells b (fun cs e' _ => guardB (Nat.beq e' e) (lenK cs fun l => guardB (Nat.ble s l) (K.v (.ptr a 0) h n))) (fun _ _ _ _ => false)) = _
    rw [show Nat.beq 0 0 = true from rfl, guardT, blk_at hb0]
    show guardB (Nat.beq e e) (lenK us fun l => guardB (Nat.ble s l) (K.v (.ptr a 0) h n)) = _
    rw [show Nat.beq e e = true from by simp, guardT, lenK_eq, Nat.ble_eq_true_of_le hs]; rfl) hw
end
theorem copyCheck97 {h : Hp} {n b : Nat} {p v : AV} (hb0 : hb h b = some (.cell [p, v] 70 false)) (hp : p = .nilp ∨ p = .ptr b 0) : Fn E 97 [.ptr b 0] h n fun r h' n' => hb h' b = some (.cell [.ptr b 0, v] 70 false) ∧ (∀ c, c ≠ b → hb h' c = hb h c) ∧ n' = n := by
  refine Fn.of code97 (by decide) rfl fun Q cs hq => ?_
  show SW E Q 97 [(r0, .ptr b 0)] _ _ _ _
  rcases hp with rfl | rfl
  · repeat' (first | refine SO.loadV rfl rfl rfl hb0 rfl ?_ | refine SO.val rfl rfl (two rfl rfl) (ex_eql (ek := .ptr) rfl rfl) ?_ | refine SO.toUns rfl rfl rfl hb0 (by simp) ?_ | refine SO.noEsc rfl rfl rfl ?_ | refine SO.fromUns rfl rfl rfl hb0 (by simp) ?_ | refine SO.store1 rfl rfl rfl hb0 rfl (by simp) (by simp) (fun h1 hc1 hk1 => ?_) | refine SW.seq ?_ | refine SW.reg ?_ | refine SO.nil ?_ | refine SW.condT rfl ?_ | refine SO.mov rfl rfl rfl ?_ | refine SO.fieldA rfl rfl rfl ?_ | refine SO.nilchk rfl rfl rfl ?_)
    exact SW.fin code97 (hq _ _ _ ⟨hc1, hk1, rfl⟩)
  · repeat' (first | refine SO.loadV rfl rfl rfl hb0 rfl ?_ | refine SO.val rfl rfl (two rfl rfl) (ex_eql (ek := .ptr) rfl rfl) ?_ | refine SO.val rfl rfl (two rfl rfl) (ex_eql (ek := .ptr) (c := true) (by simp [eqlB]) rfl) ?_ | refine SW.seq ?_ | refine SW.reg ?_ | refine SO.nil ?_ | refine SW.skip ?_ | refine SW.condF rfl ?_ | refine SO.mov rfl rfl rfl ?_ | refine SO.fieldA rfl rfl rfl ?_ | refine SO.nilchk rfl rfl rfl ?_)
    exact SW.fin code97 (hq _ _ _ ⟨hb0, fun _ _ => rfl, rfl⟩)
def Bld (h : Hp) (n b : Nat) (bs : List UInt8) : Prop := ∃ p v fo, hb h b = some (.cell [p, v] 70 false) ∧ (p = .nilp ∨ p = .ptr b 0) ∧ Buff h (b + 1) n v fo bs ∧ b < n
theorem Bld.lt {h : Hp} {n b : Nat} {bs : List UInt8} (hB : Bld h n b bs) : b < n := by
  obtain ⟨_, _, _, _, _, _, h1⟩ := hB; exact h1
theorem Bld.ext {h h' : Hp} {n n' b : Nat} {bs : List UInt8} (hB : Bld h n b bs) (e : Gr h n h' n') : Bld h' n' b bs := by
  obtain ⟨p, v, fo, h1, h2, h3, h4⟩ := hB
  exact ⟨p, v, fo, by rw [e.same b h4]; exact h1, h2, h3.keep e.le fun c _ hc => e.same c hc, by have := e.le; omega⟩
structure Kp (b : Nat) (h : Hp) (n : Nat) (h' : Hp) (n' : Nat) : Prop where
  le : n ≤ n'
  low : ∀ c, c < b → hb h' c = hb h c
  cell : ∀ c vs e ro, c ≠ b → c < n → hb h c = some (.cell vs e ro) → hb h' c = some (.cell vs e ro)
theorem Kp.refl (b : Nat) (h : Hp) (n : Nat) : Kp b h n h n := ⟨Nat.le_refl _, fun _ _ => rfl, fun _ _ _ _ _ _ h => h⟩
theorem Kp.trans {b : Nat} {h h1 h2 : Hp} {n n1 n2 : Nat} (e : Kp b h n h1 n1) (e' : Kp b h1 n1 h2 n2) : Kp b h n h2 n2 :=
  ⟨Nat.le_trans e.le e'.le, fun c hc => (e'.low c hc).trans (e.low c hc), fun c vs ty ro h1 h2 h3 => e'.cell c vs ty ro h1 (by have := e.le; omega) (e.cell c vs ty ro h1 h2 h3)⟩
theorem Kp.of {b : Nat} {h h1 : Hp} {n n1 : Nat} (e : Gr h n h1 n1) (hb0 : b < n) : Kp b h n h1 n1 :=
  ⟨e.le, fun c hc => e.same c (by omega), fun c vs ty ro _ h2 h3 => by rw [e.same c h2]; exact h3⟩
theorem Kp.gr {b : Nat} {h h1 : Hp} {n n1 : Nat} (e : Kp b h n h1 n1) : Gr h b h1 b := ⟨Nat.le_refl _, e.low⟩
theorem writeString53 {h : Hp} {n b : Nat} {bs : List UInt8} (ds : List UInt8) (hB : Bld h n b bs) (hl : bs.length + ds.length ≤ 1048576) : Fn E 53 [.ptr b 0, strOf ds] h n fun r h' n' => Bld h' n' b (bs ++ ds) ∧ Kp b h n h' n' := by
  obtain ⟨p, v, fo, hb0, hp, ho, hbn⟩ := hB
  refine Fn.of code53 (by decide) rfl fun Q cs hq => ?_
  show SW E Q 53 [(r0, .ptr b 0), (r1, strOf ds)] _ _ _ _
  repeat' (first | refine SW.seq ?_ | refine SW.reg ?_ | refine SO.nil ?_ | refine SO.mov rfl rfl rfl ?_)
  refine SO.callG rfl rfl rfl (copyCheck97 hb0 hp) ?_
  rintro _ h1 n1 ⟨hc1, hk1, rfl⟩
  have ho1 : Buff h1 (b + 1) n1 v fo bs := ho.keep (Nat.le_refl _) fun c hc _ => hk1 c (by omega)
  repeat' (first | refine SO.loadV rfl rfl rfl hc1 rfl ?_ | refine SW.seq ?_ | refine SW.reg ?_ | refine SO.nil ?_ | refine SO.mov rfl rfl rfl ?_ | refine SO.fieldA rfl rfl rfl ?_ | refine SO.nilchk rfl rfl rfl ?_)
  refine SO.appendStr rfl rfl rfl rfl ho1 (by omega) hl fun v' fo' h2 n2 ho2 hn2 hk2 => ?_
  have hc2 : hb h2 b = some (.cell [.ptr b 0, v] 70 false) := by rw [hk2 b (by omega) (fun e => by have := own_ge ho.own e; omega)]; exact hc1
  repeat' (first | refine SO.fieldA rfl rfl rfl ?_ | refine SO.nilchk rfl rfl rfl ?_)
  refine SO.store1 rfl rfl rfl hc2 (own_plain ho2.own).1 (own_plain ho2.own).2 (by simp) (fun h3 hc3 hk3 => ?_)
  repeat' (first | refine SW.seq ?_ | refine SW.reg ?_ | refine SO.nil ?_ | refine SO.mov rfl rfl rfl ?_ | refine SO.lenStr rfl rfl rfl ?_)
  refine SW.ret code53 ⟨_, rfl, _, rfl, hq _ _ _ ⟨?_, ?_⟩⟩
  · exact ⟨.ptr b 0, v', fo', hc3, .inr rfl, ho2.keep (Nat.le_refl _) fun c hc _ => hk3 c (by omega), by omega⟩
  · refine ⟨hn2, fun c hc => ?_, fun c vs e ro hcb hcn hcc => ?_⟩
    · rw [hk3 c (by omega), hk2 c (by omega) (fun e => by have := own_ge ho.own e; omega), hk1 c (by omega)]
    · rw [hk3 c hcb, hk2 c hcn ?_, hk1 c hcb]
      · exact hcc
      · intro e'
        subst e'
        obtain ⟨lo, la, h4⟩ := own_fam ho1.own
        rw [hk1 c hcb, hcc] at h4
        simp at h4
theorem writeByte54 {h : Hp} {n b : Nat} {bs : List UInt8} (d : UInt8) (hB : Bld h n b bs) (hl : bs.length + 1 ≤ 1048576) : Fn E 54 [.ptr b 0, .int .u8 (d.toNat : Int)] h n fun r h' n' => Bld h' n' b (bs ++ [d]) ∧ Kp b h n h' n' := by
  obtain ⟨p, v, fo, hb0, hp, ho, hbn⟩ := hB
  refine Fn.of code54 (by decide) rfl fun Q cs hq => ?_
  show SW E Q 54 [(r0, .ptr b 0), (r1, .int .u8 (d.toNat : Int))] _ _ _ _
  repeat' (first | refine SW.seq ?_ | refine SW.reg ?_ | refine SO.nil ?_ | refine SO.mov rfl rfl rfl ?_)
  refine SO.callG rfl rfl rfl (copyCheck97 hb0 hp) ?_
  rintro _ h1 n1 ⟨hc1, hk1, rfl⟩
  have ho1 : Buff h1 (b + 1) n1 v fo bs := ho.keep (Nat.le_refl _) fun c hc _ => hk1 c (by omega)
  repeat' (first | refine SO.loadV rfl rfl rfl hc1 rfl ?_ | refine SO.bslice rfl rfl rfl (fun k => rfl) (fun h2 hc2 hE2 => ?_) | refine SW.seq ?_ | refine SW.reg ?_ | refine SO.nil ?_ | refine SO.mov rfl rfl rfl ?_ | refine SO.fieldA rfl rfl rfl ?_ | refine SO.nilchk rfl rfl rfl ?_)
  have ho2 : Buff h2 (b + 1) (n1 + 1) v fo bs := ho1.keep (by omega) fun c _ hc => hE2.same c hc
  have hx : Sl h2 (n1 + 1) 1 (.slc n1 0 1 1) [d].length ([d].flatMap byteC) := ⟨rfl, .inr ⟨n1, 0, 1, byteC d, .inl ⟨rfl, Nat.le_refl _⟩, ⟨by omega, .inl ⟨_, _, hc2⟩⟩, by simp, rfl⟩⟩
  refine SO.appendB (ds := [d]) rfl rfl rfl rfl ho2 (by omega) (by simp) hx (by simpa using hl) fun v' fo' h3 n3 ho3 hn3 hk3 => ?_
  have hc3 : hb h3 b = some (.cell [.ptr b 0, v] 70 false) := by rw [hk3 b (by omega) (fun e => by have := own_ge ho.own e; omega), hE2.same b (by omega)]; exact hc1
  repeat' (first | refine SO.fieldA rfl rfl rfl ?_ | refine SO.nilchk rfl rfl rfl ?_)
  refine SO.store1 rfl rfl rfl hc3 (own_plain ho3.own).1 (own_plain ho3.own).2 (by simp) (fun h4 hc4 hk4 => ?_)
  repeat' (first | refine SW.seq ?_ | refine SW.reg ?_ | refine SO.nil ?_ | refine SO.mov rfl rfl rfl ?_)
  refine SW.ret code54 ⟨_, rfl, hq _ _ _ ⟨?_, ?_⟩⟩
  · exact ⟨.ptr b 0, v', fo', hc4, .inr rfl, ho3.keep (Nat.le_refl _) fun c hc _ => hk4 c (by omega), by omega⟩
  · refine ⟨by omega, fun c hc => ?_, fun c vs e ro hcb hcn hcc => ?_⟩
    · rw [hk4 c (by omega), hk3 c (by omega) (fun e => by have := own_ge ho.own e; omega), hE2.same c (by omega), hk1 c (by omega)]
    · rw [hk4 c hcb, hk3 c (by omega) ?_, hE2.same c hcn, hk1 c hcb]
      · exact hcc
      · intro e'
        subst e'
        obtain ⟨lo, la, h4⟩ := own_fam ho1.own
        rw [hk1 c hcb, hcc] at h4
        simp at h4
theorem ex_ustr {h : Hp} {n a f lo : Nat} {bs : List UInt8} (h6 : hb h a = some (.row (bs.flatMap byteC) 5 f 0)) (h7 : hb h f = some (.fam lo a)) (h8 : lo ≤ a) (hl : bs ≠ []) (hm : bs.length ≤ 1073741824) :
    ∀ K, execV (.ustr 5) [.ptr a 0, .int .i64 (bs.length : Int)] h n K = K.v (strOf bs) (hput f (.fam lo a) (hput a (.row (bs.flatMap byteC) 5 f (Nat.max 0 bs.length)) h)) n := fun K => by
  have hpos : 0 < bs.length := List.length_pos_iff.2 hl
  show (Bool.rec (motive := fun _ => Bool) (guardB (Nat.beq 0 0) (blkK h a fun b => ifCells b (fun _ _ _ => false) fun vs el f frz => guardB (Nat.beq el 5) (blkK h f fun g => ifFam g fun lo la => guardB (Nat.beq la a && (!Nat.beq frz 1 && (Nat.ble lo a && Nat.ble bs.length 1073741824))) (loadN h a 0 bs.length fun bs' => codeK bs' fun c => force (Nat.max frz bs.length) fun frz => putK a (.row vs el f frz) h fun h => putK f (.fam lo la) h fun h => K.v (.str bs.length c) h n)))) _ (Nat.beq bs.length 0)) = _
  have e0 : Nat.beq bs.length 0 = false := by
    cases hq : bs.length with
    | zero => omega
    | succ m => rfl
  rw [e0]
  show guardB true (blkK h a _) = _
  rw [guardT, blk_at h6]
  show guardB true (blkK h f _) = _
  rw [guardT, blk_at h7]
  show guardB (Nat.beq a a && (!Nat.beq 0 1 && (Nat.ble lo a && Nat.ble bs.length 1073741824))) (loadN h a 0 bs.length _) = _
  have eg : (Nat.beq a a && (!Nat.beq 0 1 && (Nat.ble lo a && Nat.ble bs.length 1073741824))) = true := by
    rw [show Nat.beq a a = true by simp, Nat.ble_eq_true_of_le h8, Nat.ble_eq_true_of_le hm]; rfl
  rw [eg, guardT, loadN_eq (vs := bs.flatMap byteC) (.inr (.inl ⟨_, f, _, h6, lo, a, h7, h8⟩)) (by rw [byteC_length]; omega), List.drop_zero, List.take_of_length_le (by rw [byteC_length]; omega), codeK_bytes, force_eq, putK_eq, putK_eq]
  rfl
theorem string26 {h : Hp} {n b : Nat} {bs : List UInt8} (hB : Bld h n b bs) (hl : bs.length ≤ 1048576) : Fn E 26 [.ptr b 0] h n fun r h' n' => r = strOf bs ∧ (∀ c, c < b → hb h' c = hb h c) ∧ n' = n := by
  obtain ⟨p, v, fo, hb0, hp, ho, hbn⟩ := hB
  refine Fn.of code26 (by decide) rfl fun Q cs hq => ?_
  show SW E Q 26 [(r0, .ptr b 0)] _ _ _ _
  have hsl : Sl h n 1 v bs.length (bs.flatMap byteC) := ho.own.sl (by rw [byteC_length]; omega) (by decide)
  rcases ho.ok with ⟨rfl, rfl⟩ | ⟨h1, h2⟩
  · obtain rfl : bs = [] := by
      have := hsl.1
      rcases ho.own with ⟨_, h1, _⟩ | ⟨_, _, _, h1, _⟩ | ⟨_, _, _, _, h1, _⟩
      · have := congrArg List.length h1
        rw [byteC_length] at this
        exact List.length_eq_zero_iff.1 this
      · simp at h1
      · simp at h1
    repeat' (first | refine SO.loadV rfl rfl rfl hb0 rfl ?_ | refine SO.val (oc := .usld) (v := .nilp) rfl rfl (one1 rfl) (fun K => rfl) ?_ | refine SO.val (oc := .ustr 5) (v := strOf []) rfl rfl (two rfl rfl) (fun K => rfl) ?_ | refine SW.seq ?_ | refine SW.reg ?_ | refine SO.nil ?_ | refine SO.nilD ?_ | (refine SW.drawO rfl ?_; simp only [List.map_cons, List.map_nil]) | refine SO.mov rfl rfl rfl ?_ | refine SO.fieldA rfl rfl rfl ?_ | refine SO.nilchk rfl rfl rfl ?_ | refine SO.lenSl rfl rfl rfl (by assumption) ?_)
    exact SW.ret code26 ⟨_, rfl, hq _ _ _ ⟨rfl, fun _ _ => rfl, rfl⟩⟩
  · have hown := ho.own
    rcases hown with ⟨_, _, h3⟩ | ⟨_, _, _, _, _, _, _, _, h3⟩ | ⟨a, g, lo, l, rfl, k1, k2, k3, k4, k5, k6, k7, k8, rfl⟩
    · exact absurd h3 h1
    · exact absurd h3 h1
    · have hlb : l = bs.length := by rw [byteC_length] at k1; omega
      subst hlb
      have hpos : 0 < bs.length := List.length_pos_iff.2 h2
      repeat' (first | refine SO.loadV rfl rfl rfl hb0 rfl ?_ | refine SO.val (oc := .usld) (v := .ptr a 0) rfl rfl (one1 rfl) (fun K => by show guardB (Nat.blt 0 bs.length) (K.v (.ptr a 0) h n) = _; rw [show Nat.blt 0 bs.length = true by simp [Nat.blt]; omega]; rfl) ?_ | refine SO.val (oc := .ustr 5) rfl rfl (two rfl rfl) (ex_ustr k6 k7 k8 h2 (by omega)) ?_ | refine SW.seq ?_ | refine SW.reg ?_ | refine SO.nil ?_ | refine SO.nilD ?_ | (refine SW.drawO rfl ?_; simp only [List.map_cons, List.map_nil]) | refine SO.mov rfl rfl rfl ?_ | refine SO.fieldA rfl rfl rfl ?_ | refine SO.nilchk rfl rfl rfl ?_ | refine SO.lenSl rfl rfl rfl (by assumption) ?_)
      refine SW.ret code26 ⟨_, rfl, hq _ _ _ ⟨rfl, fun c hc => ?_, rfl⟩⟩
      rw [hb_other _ _ (by omega), hb_other _ _ (by omega)]
end Go.Ev
