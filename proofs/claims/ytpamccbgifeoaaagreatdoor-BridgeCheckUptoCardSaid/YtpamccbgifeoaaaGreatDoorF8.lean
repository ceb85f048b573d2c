/- Contracts: quiltref02.Decimal; the reference's expressions: atom, list, number. -/
import Derived.Test.YtpamccbgifeoaaaGreatDoorF7
import Derived.Test.YtpamccbgifeoaaaGreatDoorE7
set_option linter.all false
namespace Go.Ev
set_option maxRecDepth 100000
set_option maxHeartbeats 4000000
section
variable {E : Env} {Q : Post} {fn : Fr} {md : Md} {R : List (Path × AV)} {todo : List AItem} {cs : List AF} {h h' h0 : Hp} {n n' n0 : Nat} {os : List COp} {k : IntKind} {x y : Int} {p : Path} {g : Option (Path × Bool)} {X Y : CX} {v : AV}
theorem SO.quoN {m : Nat} (d : Nat) (hg : wantB R g = true) (hd : Nat.beq p.len depth = true) (h1 : lookX R X = some (.int .i64 (m : Int))) (h2 : lookX R Y = some (.int .i64 (d : Int))) (hy : 0 < d) (hr : m ≤ 9223372036854775807) (hw : SO E Q fn md ((p, .int .i64 ((m / d : Nat) : Int)) :: R) os todo cs h n) : SO E Q fn md R (⟨some p, g, [X, Y], .quo⟩ :: os) todo cs h n := by
  have e : Int.tdiv (m : Int) (d : Int) = ((m / d : Nat) : Int) := (Int.ofNat_tdiv m d).symm
  have := Nat.div_le_self m d
  refine SO.quo hg hd h1 h2 (by omega) ?_ (by rw [e]; exact hw)
  rw [e]
  generalize m / d = q at *
  omega
theorem SO.remN {m : Nat} (d : Nat) (hg : wantB R g = true) (hd : Nat.beq p.len depth = true) (h1 : lookX R X = some (.int .i64 (m : Int))) (h2 : lookX R Y = some (.int .i64 (d : Int))) (hy : 0 < d) (hw : SO E Q fn md ((p, .int .i64 ((m % d : Nat) : Int)) :: R) os todo cs h n) : SO E Q fn md R (⟨some p, g, [X, Y], .rem⟩ :: os) todo cs h n := by
  have e : Int.tmod (m : Int) (d : Int) = ((m % d : Nat) : Int) := (Int.ofNat_tmod m d).symm
  exact SO.rem hg hd h1 h2 (by omega) (by rw [e]; exact hw)
end
def decN (m : Nat) : List UInt8 := if m < 10 then [UInt8.ofNat (48 + m)] else decN (m / 10) ++ [UInt8.ofNat (48 + m % 10)]
theorem decN_length (m : Nat) : (decN m).length ≤ m + 1 := by
  induction m using Nat.strongRecOn with
  | ind m ih =>
    rw [decN]
    split
    · simp
    · have := ih (m / 10) (by omega)
      simp only [List.length_append, List.length_singleton]
      omega
theorem decN_short (m : Nat) : ∀ k, m < 10 ^ (k + 1) → (decN m).length ≤ k + 1 := by
  induction m using Nat.strongRecOn with
  | ind m ih =>
    intro k hk
    rw [decN]
    split
    · simp
    · cases k with
      | zero => simp at hk; omega
      | succ k =>
        have := ih (m / 10) (by omega) k (by rw [Nat.div_lt_iff_lt_mul (by decide)]; rw [Nat.pow_succ] at hk; exact hk)
        simp only [List.length_append, List.length_singleton]
        omega
theorem digit_eq (d : Nat) (hd : d < 10) : ((48 : Int) + (d : Int)) = ((UInt8.ofNat (48 + d)).toNat : Int) := by
  have : (UInt8.ofNat (48 + d)).toNat = 48 + d := by simp; omega
  rw [this]; omega
theorem decimal57 (m : Nat) (hm : m ≤ 9000000000000000000) : ∀ {h : Hp} {n : Nat}, Fn E 57 [.int .i64 (m : Int)] h n fun r h' n' => r = strOf (decN m) ∧ Gr h n h' n' := by
  induction m using Nat.strongRecOn with
  | ind m ih =>
    intro h n
    refine Fn.of code57 (by decide) rfl fun Q cs hq => ?_
    show SW E Q 57 [(r0, .int .i64 (m : Int))] _ _ _ _
    by_cases hlt : m < 10
    · repeat' (first | refine SO.convU8 rfl rfl rfl (by omega) ?_ | refine SO.bslice rfl rfl rfl (fun k => rfl) (fun h2 hc2 hE2 => ?_) | refine SW.seq ?_ | refine SW.reg ?_ | refine SO.nil ?_ | refine SW.skip ?_ | refine SW.condT rfl ?_ | refine SW.condF rfl ?_ | refine SO.mov rfl rfl rfl ?_ | refine SO.lssT rfl rfl rfl rfl (by omega) ?_ | refine SO.lssF rfl rfl rfl rfl (by omega) ?_ | refine SO.add rfl rfl rfl rfl (by omega) ?_)
      have hc2' : hb h2 n = some (.cell (byteC (UInt8.ofNat (48 + m))) 5 false) := by rw [hc2, digit_eq m hlt]
      have hsl : Sl h2 (n + 1) 1 (.slc n 0 1 1) [UInt8.ofNat (48 + m)].length ([UInt8.ofNat (48 + m)].flatMap byteC) := ⟨rfl, .inr ⟨n, 0, 1, byteC (UInt8.ofNat (48 + m)), .inl ⟨rfl, Nat.le_refl _⟩, ⟨by omega, .inl ⟨_, _, hc2'⟩⟩, by simp, rfl⟩⟩
      repeat' (first | refine SO.convBS rfl rfl rfl hsl ?_ | refine SO.nil ?_ | refine SO.mov rfl rfl rfl ?_)
      refine SW.ret code57 ⟨_, rfl, hq _ _ _ ⟨?_, hE2⟩⟩
      rw [decN, if_pos hlt]; rfl
    · repeat' (first | refine SO.quoN 10 rfl rfl rfl rfl (by decide) (by omega) ?_ | refine SO.remN 10 rfl rfl rfl rfl (by decide) ?_ | refine SO.convU8 rfl rfl rfl (by omega) ?_ | refine SO.bslice rfl rfl rfl (fun k => rfl) (fun h2 hc2 hE2 => ?_) | refine SW.seq ?_ | refine SW.reg ?_ | refine SO.nil ?_ | refine SW.skip ?_ | refine SW.condF rfl ?_ | (refine SW.drawG ?_; simp only [gOps, gRc, gTail]) | refine SO.mov rfl rfl rfl ?_ | refine SO.lssF rfl rfl rfl rfl (by omega) ?_ | refine SO.add rfl rfl rfl rfl (by omega) ?_)
      have hd : m % 10 < 10 := by omega
      have hc2' : hb h2 n = some (.cell (byteC (UInt8.ofNat (48 + m % 10))) 5 false) := by rw [hc2, digit_eq (m % 10) hd]
      have hsl : Sl h2 (n + 1) 1 (.slc n 0 1 1) [UInt8.ofNat (48 + m % 10)].length ([UInt8.ofNat (48 + m % 10)].flatMap byteC) := ⟨rfl, .inr ⟨n, 0, 1, byteC (UInt8.ofNat (48 + m % 10)), .inl ⟨rfl, Nat.le_refl _⟩, ⟨by omega, .inl ⟨_, _, hc2'⟩⟩, by simp, rfl⟩⟩
      repeat' refine SO.convBS rfl rfl rfl hsl ?_
      refine SO.callG rfl rfl rfl (ih (m / 10) (by omega) (by omega)) ?_
      rintro _ h3 n3 ⟨rfl, hE3⟩
      refine SO.more (Still.convBS rfl rfl rfl (hsl.ext hE3) Still.nil) ?_
      simp only [gOps, gRc, gTail]
      have hlen := decN_short (m / 10) 18 (by omega)
      repeat' (first | refine SO.concat rfl rfl rfl rfl (by simp; omega) ?_ | refine SO.nilD ?_ | refine SO.mov rfl rfl rfl ?_)
      refine SW.ret code57 ⟨_, rfl, hq _ _ _ ⟨?_, hE2.trans hE3⟩⟩
      have hdm : decN m = decN (m / 10) ++ [UInt8.ofNat (48 + m % 10)] := by rw [decN, if_neg hlt]
      rw [hdm]; rfl
end Go.Ev
