/- Contracts: internal/strconv.formatBase10. -/
import Derived.Test.YtpamccbgifeoaaaGreatDoorF15
set_option linter.all false
namespace Go.Ev
set_option maxRecDepth 100000
set_option maxHeartbeats 8000000
def lowD (u : Nat) : Nat → List UInt8
  | 0 => []
  | j + 1 => UInt8.ofNat (48 + u / 10 ^ j % 10) :: lowD u j
theorem lowD_length (u : Nat) : ∀ j, (lowD u j).length = j
  | 0 => rfl
  | j + 1 => by simp [lowD, lowD_length u j]
def Buf (vs us : List AV) (o i L : Nat) (ds : List AV) : Prop := us.length = vs.length ∧ us.take o = vs.take o ∧ us.drop (o + i) = ds ++ vs.drop (o + L)
theorem Buf.wr {vs us : List AV} {o i L : Nat} {ds : List AV} (x : AV) (hb : Buf vs us o (i + 1) L ds) (hl : o + i < us.length) : Buf vs (splice (o + i) [x] us) o i L (x :: ds) := by
  obtain ⟨h1, h2, h3⟩ := hb
  have e : splice (o + i) [x] us = us.take (o + i) ++ x :: us.drop (o + i + 1) := by simp [splice]
  have hlt : (us.take (o + i)).length = o + i := by rw [List.length_take]; omega
  refine ⟨?_, ?_, ?_⟩
  · rw [e, List.length_append, hlt]; simp; omega
  · rw [e, List.take_append_of_le_length (by omega), List.take_take, Nat.min_eq_left (by omega)]; exact h2
  · rw [e, List.drop_append_of_le_length (by omega), List.drop_eq_nil_of_le (by omega), List.nil_append, Nat.add_assoc, h3]; rfl
theorem tabS_len : tabS.length = 200 := by decide
theorem tabS_hi : ∀ k < 100, ∀ h : k * 2 < tabS.length, tabS[k * 2] = UInt8.ofNat (48 + k / 10) := by decide
theorem tabS_lo : ∀ k < 100, ∀ h : k * 2 + 1 < tabS.length, tabS[k * 2 + 1] = UInt8.ofNat (48 + k % 10) := by decide
section
variable {E : Env} {Q : Post} {fn : Fr} {md : Md} {R : List (Path × AV)} {todo : List AItem} {cs : List AF} {h h' h0 : Hp} {n n' n0 : Nat} {os : List COp} {k : IntKind} {p : Path} {g : Option (Path × Bool)} {X Y : CX} {a o : Nat} {v : AV} {y : Int}
theorem SO.idxW {esz l c : Nat} (i : Nat) (hg : wantB R g = true) (hd : Nat.beq p.len depth = true) (h1 : lookX R X = some (.slc a o l c)) (h2 : lookX R Y = some (.int k y)) (hy : y = (i : Int)) (hi : i < l) (hw : SO E Q fn md ((p, .ptr a (o + i * esz)) :: R) os todo cs h n) : SO E Q fn md R (⟨some p, g, [X, Y], .idxSlA esz⟩ :: os) todo cs h n := by
  subst hy
  exact SO.val hg hd (two h1 h2) (fun K => by
    show guardB (Nat.blt i l) (force (Nat.add o (Nat.mul i esz)) fun o => K.v (.ptr a o) h n) = _
    have : Nat.blt i l = true := by simp [Nat.blt, Nat.lt_iff_add_one_le] at hi ⊢; exact hi
    rw [this, force_eq]; rfl) hw
theorem SO.store1 {us : List AV} {e : TypeId} (hg : wantB R g = true) (h1 : lookX R X = some (.ptr a o)) (h2 : lookX R Y = some v) (hb0 : hb h a = some (.cell us e false)) (hv : v.cells = [v]) (hv' : ∀ us, v ≠ .tup us) (hl : o < us.length)
    (hw : ∀ h1, hb h1 a = some (.cell (splice o [v] us) e false) → (∀ b, b ≠ a → hb h1 b = hb h b) → SO E Q fn md R os todo cs h1 n) : SO E Q fn md R (⟨none, g, [X, Y], .store 1⟩ :: os) todo cs h n :=
  SO.store hg h1 h2 hb0 hv' (by rw [hv]; rfl) (by omega) fun h1 hc hk => hw h1 (by rw [hv] at hc; exact hc) hk
theorem two_digits {vs us : List AV} {o' i L j u w : Nat}
    (hB : Buf vs us o' (i + 2) L ((lowD u j).flatMap byteC)) (hL : i + 2 ≤ L) (hlen : o' + L ≤ vs.length) (hw : w < 100) (hd0 : w % 10 = u / 10 ^ j % 10) (hd1 : w / 10 = u / 10 ^ (j + 1) % 10) :
    Buf vs (splice (o' + i) [.int .u8 ((tabS[w * 2]'(by rw [tabS_len]; omega)).toNat : Int)] (splice (o' + (i + 1)) [.int .u8 ((tabS[w * 2 + 1]'(by rw [tabS_len]; omega)).toNat : Int)] us)) o' i L ((lowD u (j + 2)).flatMap byteC) := by
  have hul := hB.1
  have h1 := Buf.wr (i := i + 1) (.int .u8 ((tabS[w * 2 + 1]'(by rw [tabS_len]; omega)).toNat : Int)) hB (by omega)
  have h2 := Buf.wr (i := i) (.int .u8 ((tabS[w * 2]'(by rw [tabS_len]; omega)).toNat : Int)) h1 (by rw [h1.1]; omega)
  rw [tabS_hi w hw, tabS_lo w hw, hd0, hd1] at *
  exact h2
end
end Go.Ev
