/- Contracts: quiltref59.has, quiltref12.GreatTree. -/
import Derived.Test.YtpamccbgifeoaaaGreatDoorKCode1
set_option linter.all false
namespace Go.Ev
set_option maxRecDepth 100000
set_option maxHeartbeats 4000000
abbrev intC (i : Int) : List AV := [.int .i64 i]
theorem has103 {h : Hp} {n : Nat} {v : AV} {ps : List Int} (x : Int) (hs : Sl h n 1 v ps.length (ps.flatMap intC)) (hl : ps.length ≤ 4000000000000000000) : Fn E 103 [v, .int .i64 x] h n fun r h' n' => r = .bool (ps.contains x) ∧ h' = h ∧ n' = n := by
  refine Fn.of code103 (by decide) rfl fun Q cs hq => ?_
  show SW E Q 103 [(r0, v), (r1, .int .i64 x)] _ _ _ _
  have hret : ∀ (b : Bool) (R : List (Path × AV)) (todo : List AItem), b = ps.contains x → look R r4 = some (.bool b) → SW E Q 103 R (.code .ret :: todo) cs h n := fun b R todo hb hR => SW.ret code103 ⟨_, hR, hq _ _ _ ⟨by rw [hb]; rfl, rfl, rfl⟩⟩
  have loop : ∀ (k i : Nat), i + k = ps.length → (ps.take i).contains x = false → ∀ R, look R r0 = some v → look R r1 = some (.int .i64 x) → look R r5 = some (.int .i64 i) → SW E Q 103 R [.code c103x6, .inLoop c103x6, .inBlock 0, .code (.seq (.reg c103x7) .ret)] cs h n := by
    intro k
    induction k with
    | zero =>
      intro i hi hno R h0 h1 h5
      refine SW.sub (R' := [(r0, v), (r1, .int .i64 x), (r5, .int .i64 i)]) (by simp [h0, h1, h5]) ?_
      repeat' (first | refine SW.seq ?_ | refine SW.reg ?_ | refine SO.nil ?_ | refine SW.condF rfl ?_ | refine SW.exit rfl ?_ | refine SO.mov rfl rfl rfl ?_ | refine SO.lenSl rfl rfl rfl (by assumption) ?_ | refine SO.lssF rfl rfl rfl rfl (by omega) ?_)
      refine hret false _ _ ?_ rfl
      rw [show i = ps.length by omega, List.take_length] at hno
      exact hno.symm
    | succ k ih =>
      intro i hi hno R h0 h1 h5
      have hi' : i < ps.length := by omega
      refine SW.sub (R' := [(r0, v), (r1, .int .i64 x), (r5, .int .i64 i)]) (by simp [h0, h1, h5]) ?_
      repeat' (first | refine SO.idxOf (fun _ => rfl) rfl rfl rfl rfl hs hi' (fun a o hp => ?_) | refine SO.load0 rfl rfl rfl (by assumption) (Gr.refl _ _) ?_ | refine SW.seq ?_ | refine SW.block ?_ | refine SW.reg ?_ | refine SO.nil ?_ | refine SW.skip ?_ | refine SW.out ?_ | refine SW.condT rfl ?_ | refine SW.condF rfl ?_ | refine SO.mov rfl rfl rfl ?_ | refine SO.lenSl rfl rfl rfl (by assumption) ?_ | refine SO.lssT rfl rfl rfl rfl (by omega) ?_ | refine SO.add rfl rfl rfl rfl (by omega) ?_ | refine SO.eqi rfl rfl rfl rfl (fun _ => ?_) (fun _ => ?_))
      · refine hret true _ _ ?_ rfl
        rename_i he
        rw [← he]
        exact (by simp : ps.contains ps[i] = true).symm
      · refine SW.again (ih (i + 1) (by omega) ?_ _ rfl rfl rfl)
        rename_i he
        rw [List.take_succ_eq_append_getElem hi']
        simp only [List.contains_append, hno, Bool.false_or]
        simpa using fun e => he e.symm
  repeat' (first | refine SW.seq ?_ | refine SW.block ?_ | refine SW.reg ?_ | refine SO.nil ?_ | refine SO.mov rfl rfl rfl ?_)
  refine SW.loop ?_
  exact loop ps.length 0 (by omega) (by simp) _ rfl rfl rfl
structure PF where
  path : List UInt8
  type : Int
  mode : Int
  data : List UInt8
abbrev pfC (f : PF) : List AV := [strOf f.path, .int .i64 f.type, .int .i64 f.mode, strOf f.data]
def bulk (fs : List PF) : Int := (fs.map fun f => (f.data.length + f.path.length : Int)).sum
theorem bulk_snoc (fs : List PF) (f : PF) : bulk (fs ++ [f]) = bulk fs + (f.data.length + f.path.length) := by simp [bulk]
def greatTree (fs : List PF) : Bool := decide (12 < fs.length) || decide (4000 < bulk fs)
theorem bulk_append (xs ys : List PF) : bulk (xs ++ ys) = bulk xs + bulk ys := by simp [bulk]
theorem bulk_nonneg (fs : List PF) : 0 ≤ bulk fs := by
  induction fs with
  | nil => simp [bulk]
  | cons f fs ih => simp only [bulk, List.map_cons, List.sum_cons] at ih ⊢; omega
theorem bulk_take_le (fs : List PF) (i : Nat) : bulk (fs.take i) ≤ bulk fs := by
  have : bulk fs = bulk (fs.take i) + bulk (fs.drop i) := by
    conv => lhs; rw [← List.take_append_drop i fs]
    exact bulk_append _ _
  have := bulk_nonneg (fs.drop i)
  omega
theorem greatTree10 {h : Hp} {n : Nat} {v : AV} {fs : List PF} (hs : Sl h n 4 v fs.length (fs.flatMap pfC)) (hl : fs.length ≤ 4000000000000000000) (hb : bulk fs ≤ 4000000000000000000) : Fn E 10 [v] h n fun r h' n' => r = .bool (greatTree fs) ∧ h' = h ∧ n' = n := by
  refine Fn.of code10 (by decide) rfl fun Q cs hq => ?_
  show SW E Q 10 [(r0, v)] _ _ _ _
  have hret : ∀ (b : Bool) (R : List (Path × AV)) (todo : List AItem), b = greatTree fs → look R r2 = some (.bool b) → SW E Q 10 R (.code .ret :: todo) cs h n := fun b R todo hb hR => SW.ret code10 ⟨_, hR, hq _ _ _ ⟨by rw [hb]; rfl, rfl, rfl⟩⟩
  have loop : ∀ (k i : Nat), i + k = fs.length → ∀ R, look R r0 = some v → look R r3 = some (.int .i64 (bulk (fs.take i))) → look R r4 = some (.int .i64 i) → SW E Q 10 R [.code c10x6, .inLoop c10x6, .inBlock 0, .code (.seq (.reg c10x7) .ret)] cs h n := by
    intro k
    induction k with
    | zero =>
      intro i hi R h0 h3 h4
      rw [show i = fs.length by omega, List.take_length] at h3
      refine SW.sub (R' := [(r0, v), (r3, .int .i64 (bulk fs)), (r4, .int .i64 i)]) (by simp [h0, h3, h4]) ?_
      repeat' (first | refine SW.seq ?_ | refine SW.reg ?_ | refine SO.nil ?_ | refine SW.condF rfl ?_ | refine SW.exit rfl ?_ | refine SO.nope rfl rfl ?_ | refine SO.mov rfl rfl rfl ?_ | refine SO.pickT rfl rfl rfl rfl rfl ?_ | refine SO.pickF rfl rfl rfl rfl rfl ?_ | refine SO.lenSl rfl rfl rfl (by assumption) ?_ | refine SO.lssF rfl rfl rfl rfl (by omega) ?_ | refine SO.gtr rfl rfl rfl rfl (fun _ => ?_) (fun _ => ?_))
      all_goals (refine hret _ _ _ ?_ rfl; unfold greatTree; simp; omega)
    | succ k ih =>
      intro i hi R h0 h3 h4
      have hi' : i < fs.length := by omega
      have e1 : bulk (fs.take (i + 1)) = bulk (fs.take i) + (fs[i].data.length + fs[i].path.length) := by rw [List.take_succ_eq_append_getElem hi', bulk_snoc]
      have e2 := bulk_take_le fs (i + 1)
      have e3 := bulk_nonneg (fs.take i)
      refine SW.sub (R' := [(r0, v), (r3, .int .i64 (bulk (fs.take i))), (r4, .int .i64 i)]) (by simp [h0, h3, h4]) ?_
      repeat' (first | refine SO.idxOf (fun _ => rfl) rfl rfl rfl rfl hs hi' (fun a o hp => ?_) | refine SO.loadF rfl rfl rfl (by assumption) (Gr.refl _ _) rfl ?_ | refine SW.seq ?_ | refine SW.block ?_ | refine SW.reg ?_ | refine SO.nil ?_ | refine SO.nilD ?_ | refine SW.skip ?_ | refine SW.out ?_ | refine SW.condT rfl ?_ | (refine SW.drawO rfl ?_; simp only [List.map_cons, List.map_nil]) | refine SO.mov rfl rfl rfl ?_ | refine SO.lenStr rfl rfl rfl ?_ | refine SO.fieldA rfl rfl rfl ?_ | refine SO.lenSl rfl rfl rfl (by assumption) ?_ | refine SO.lssT rfl rfl rfl rfl (by omega) ?_ | refine SO.add rfl rfl rfl rfl (by omega) ?_)
      refine SW.again ?_
      refine ih (i + 1) (by omega) _ rfl ?_ rfl
      rw [e1, ← Int.add_assoc]; rfl
  repeat' (first | refine SW.seq ?_ | refine SW.block ?_ | refine SW.reg ?_ | refine SO.nil ?_ | refine SO.mov rfl rfl rfl ?_)
  refine SW.loop ?_
  exact loop fs.length 0 (by omega) _ rfl rfl rfl
end Go.Ev
