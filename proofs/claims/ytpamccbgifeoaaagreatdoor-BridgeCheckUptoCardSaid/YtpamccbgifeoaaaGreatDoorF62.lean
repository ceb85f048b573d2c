/- F62 -/
import Derived.Test.YtpamccbgifeoaaaGreatDoorKCode1
set_option linter.all false
namespace Go.Ev
set_option maxRecDepth 100000
set_option maxHeartbeats 4000000
def nameByte (c : UInt8) : Bool := decide (97 ≤ c.toNat ∧ c.toNat ≤ 122) || decide (65 ≤ c.toNat ∧ c.toNat ≤ 90) || decide (48 ≤ c.toNat ∧ c.toNat ≤ 57) || decide (c.toNat = 46) || decide (c.toNat = 95) || decide (c.toNat = 45)
def nameOk (bs : List UInt8) : Bool := bs.all nameByte && (decide (1 ≤ bs.length) && (decide (bs.length ≤ 40) && (bs != [46] && bs != [46, 46])))
theorem name62 (bs : List UInt8) (hl : bs.length ≤ 4000000000000000000) (h : Hp) (n : Nat) : Fn E 62 [strOf bs] h n fun v h' n' => v = .bool (nameOk bs) ∧ h' = h ∧ n' = n := by
  refine Fn.of code62 (by decide) rfl fun Q cs hq => ?_
  show SW E Q 62 [(r0, strOf bs)] _ _ _ _
  have hret : ∀ (b : Bool) (R : List (Path × AV)) (todo : List AItem), b = nameOk bs → look R r2 = some (.bool b) → SW E Q 62 R (.code .ret :: todo) cs h n := fun b R todo hb hR => SW.ret code62 ⟨_, hR, hq _ _ _ ⟨by rw [hb]; rfl, rfl, rfl⟩⟩
  have loop : ∀ (k i : Nat), i + k = bs.length → (bs.take i).all nameByte = true → ∀ R, look R r0 = some (strOf bs) → look R r3 = some (.int .i64 i) → SW E Q 62 R [.code c62x7, .inLoop c62x7, .inBlock 0, .code (.seq (.reg c62x8) .ret)] cs h n := by
    intro k
    induction k with
    | zero =>
      intro i hi hall R h0 h3
      refine SW.sub (R' := [(r0, strOf bs), (r3, .int .i64 i)]) (by simp [h0, h3]) ?_
      have hall' : bs.all nameByte = true := by rw [show i = bs.length by omega, List.take_length] at hall; exact hall
      repeat' (first | refine SW.seq ?_ | refine SW.reg ?_ | refine SO.nil ?_ | refine SW.condF rfl ?_ | refine SW.exit rfl ?_ | refine SO.nope rfl rfl ?_ | refine SO.mov rfl rfl rfl ?_ | refine SO.pickT rfl rfl rfl rfl rfl ?_ | refine SO.pickF rfl rfl rfl rfl rfl ?_ | refine SO.lenStr rfl rfl rfl ?_ | refine SO.lssF rfl rfl rfl rfl (by omega) ?_ | refine SO.leq rfl rfl rfl rfl (fun _ => ?_) (fun _ => ?_) | refine SO.geq rfl rfl rfl rfl (fun _ => ?_) (fun _ => ?_) | refine SO.strNe rfl rfl rfl rfl (fun _ => ?_) (fun _ => ?_))
      all_goals refine hret _ _ _ ?_ rfl
      all_goals unfold nameOk; rw [hall']; simp
      all_goals (first | exact ⟨by omega, by omega, by assumption, by assumption⟩ | (intros; first | omega | (simp_all; done)))
    | succ k ih =>
      intro i hi hall R h0 h3
      refine SW.sub (R' := [(r0, strOf bs), (r3, .int .i64 i)]) (by simp [h0, h3]) ?_
      have hi' : i < bs.length := by omega
      have hnext : nameByte bs[i] = true → (bs.take (i + 1)).all nameByte = true := by
        intro hb
        rw [List.take_succ_eq_append_getElem hi', List.all_append, hall]
        simp [hb]
      have hstop : nameByte bs[i] = false → false = nameOk bs := by
        intro hb
        have : bs.all nameByte = false := List.all_eq_false.2 ⟨bs[i], List.getElem_mem hi', by simp [hb]⟩
        unfold nameOk
        rw [this]; rfl
      repeat' (first | refine SW.seq ?_ | refine SW.block ?_ | refine SW.reg ?_ | refine SO.nil ?_ | refine SW.skip ?_ | refine SW.out ?_ | refine SW.condT rfl ?_ | refine SW.condF rfl ?_ | refine SO.nope rfl rfl ?_ | refine SO.mov rfl rfl rfl ?_ | refine SO.pickT rfl rfl rfl rfl rfl ?_ | refine SO.pickF rfl rfl rfl rfl rfl ?_ | refine SO.notT rfl rfl rfl ?_ | refine SO.notF rfl rfl rfl ?_ | refine SO.lenStr rfl rfl rfl ?_ | refine SO.idxStr rfl rfl rfl rfl (by omega) ?_ | refine SO.lssT rfl rfl rfl rfl (by omega) ?_ | refine SO.leqF rfl rfl rfl rfl (by omega) ?_ | refine SO.geqT rfl rfl rfl rfl (by omega) ?_ | refine SO.eqiF rfl rfl rfl rfl (by omega) ?_ | refine SO.add rfl rfl rfl rfl (by omega) ?_ | refine SO.leq rfl rfl rfl rfl (fun _ => ?_) (fun _ => ?_) | refine SO.geq rfl rfl rfl rfl (fun _ => ?_) (fun _ => ?_) | refine SO.eqi rfl rfl rfl rfl (fun _ => ?_) (fun _ => ?_))
      all_goals (first
        | (refine SW.again (ih (i + 1) (by omega) (hnext ?_) _ rfl rfl); unfold nameByte; simp only [Bool.or_eq_true, decide_eq_true_eq]; omega)
        | (refine hret false _ _ (hstop ?_) rfl; unfold nameByte; simp only [Bool.or_eq_false_iff, decide_eq_false_iff_not]; omega))
  repeat' (first | refine SW.seq ?_ | refine SW.block ?_ | refine SW.reg ?_ | refine SO.nil ?_ | refine SO.mov rfl rfl rfl ?_)
  refine SW.loop ?_
  exact loop bs.length 0 (by omega) (by simp) _ rfl rfl
end Go.Ev
