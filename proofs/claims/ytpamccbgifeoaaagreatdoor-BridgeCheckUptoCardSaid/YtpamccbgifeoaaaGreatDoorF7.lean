/- Contracts: quiltref12.parents, snapshot, first, Check. -/
import Derived.Test.YtpamccbgifeoaaaGreatDoorF6
set_option linter.all false
namespace Go.Ev
set_option maxRecDepth 100000
set_option maxHeartbeats 4000000
theorem natInt (xs : List Nat) : xs.flatMap natC = (xs.map Int.ofNat).flatMap intC := by
  induction xs with
  | nil => rfl
  | cons x xs ih => simp only [List.flatMap_cons, List.map_cons, ih]; rfl
theorem parents61 {h : Hp} {n : Nat} {v : AV} {rs : List SnapR} (hs : Sn h n v rs) (hl : rs.length ≤ 400) (i : Nat) (hi : i < rs.length) : Fn E 61 [v, .int .i64 i] h n fun r h' n' => r = .int .i64 (parentsE rs i) ∧ Gr h n h' n' := by
  refine Fn.of code61 (by decide) rfl fun Q cs hq => ?_
  show SW E Q 61 [(r0, v), (r1, .int .i64 i)] _ _ _ _
  have hsl := hs.sl
  have hmem := List.getElem_mem hi
  have hps := hs.ps rs[i] hmem
  have hok := (hs.ok rs[i] hmem).parents
  have hpa := parAt_get hi
  have hret : ∀ (e : Int) (h1 : Hp) (n1 : Nat) (R : List (Path × AV)) (todo : List AItem), e = parentsE rs i → Gr h n h1 n1 → look R r4 = some (.int .i64 e) → SW E Q 61 R (.code .ret :: todo) cs h1 n1 := fun e h1 n1 R todo he hE h2 => SW.ret code61 ⟨_, h2, hq _ _ _ ⟨by rw [he]; rfl, hE⟩⟩
  unfold parentsE at hret
  rw [hpa] at hret
  generalize hpv : rs[i].vp = pv at *
  generalize hpp : rs[i].s.parents = ps at *
  have loop2 : firstE (par1 ps i) ps.length 0 = 0 → (∀ x ∈ ps, 0 ≤ x ∧ x < (i : Int)) → ∀ (k2 m : Nat) (h1 : Hp) (n1 : Nat), m + k2 = ps.length → firstE (par2 rs ps) ps.length 0 = firstE (par2 rs ps) k2 m → Gr h n h1 n1 → ∀ R, look R r0 = some v → look R r5 = some pv → look R r7 = some (.int .i64 m) → SW E Q 61 R [.code c61x20, .inLoop c61x20, .inBlock 2, .code (.seq (.reg c61x21) .ret)] cs h1 n1 := by
    intro hz hin k2
    rw [hz, if_neg (by simp)] at hret
    induction k2 with
    | zero =>
      intro m h1 n1 hm he hE R q0 q5 q7
      refine SW.sub (R' := [(r0, v), (r5, pv), (r7, .int .i64 m)]) (by simp [q0, q5, q7]) ?_
      repeat' (first | refine SW.seq ?_ | refine SW.reg ?_ | refine SO.nil ?_ | refine SW.condF rfl ?_ | refine SW.exit rfl ?_ | refine SO.mov rfl rfl rfl ?_ | refine SO.lenSl rfl rfl rfl (by assumption) ?_ | refine SO.lssF rfl rfl rfl rfl (by omega) ?_)
      exact hret _ _ _ _ _ (by rw [he]; rfl) hE rfl
    | succ k2 ih =>
      intro m h1 n1 hm he hE R q0 q5 q7
      have hm' : m < ps.length := by omega
      have hx := hin ps[m] (List.getElem_mem hm')
      have hat : ps[m]? = some ps[m] := List.getElem?_eq_getElem hm'
      have hps1 := hps.ext hE
      refine SW.sub (R' := [(r0, v), (r5, pv), (r7, .int .i64 m)]) (by simp [q0, q5, q7]) ?_
      repeat' (first | refine SO.idxOf (fun _ => rfl) rfl rfl rfl rfl hps1 hm' (fun a o hp => ?_) | refine SO.load0 rfl rfl rfl (by assumption) (Gr.refl _ _) ?_ | refine SW.seq ?_ | refine SW.block ?_ | refine SW.reg ?_ | refine SO.nil ?_ | refine SW.skip ?_ | refine SW.condT rfl ?_ | refine SO.mov rfl rfl rfl ?_ | refine SO.lenSl rfl rfl rfl (by assumption) ?_ | refine SO.lssT rfl rfl rfl rfl (by omega) ?_)
      have hfn := ancestors102 (hs.ext hE) hl ps[m].toNat (by omega)
      rw [show ((ps[m].toNat : Nat) : Int) = ps[m] by omega] at hfn
      refine SO.callG rfl rfl rfl hfn ?_
      rintro u h2 n2 ⟨hsu, hE2⟩
      have hps2 := hps1.ext hE2
      rw [natInt, show (ancOf rs ps[m].toNat).length = ((ancOf rs ps[m].toNat).map Int.ofNat).length by simp] at hsu
      have hul : ((ancOf rs ps[m].toNat).map Int.ofNat).length ≤ 4000000000000000000 := by
        have := ancGo_length rs ps[m].toNat ps[m].toNat []
        have e0 : ((ancOf rs ps[m].toNat).map Int.ofNat).length = (ancOf rs ps[m].toNat).length := by simp
        have e1 : (ancOf rs ps[m].toNat).length ≤ 0 + ps[m].toNat := this
        omega
      have loop3 : ∀ (k3 w : Nat), w + k3 = m → (ps.take w).any (fun y => ((ancOf rs ps[m].toNat).map Int.ofNat).contains y) = false → ∀ R, look R r0 = some v → look R r5 = some pv → look R r7 = some (.int .i64 m) → look R r8 = some u → look R r9 = some (.int .i64 w) → SW E Q 61 R [.code c61x18, .inLoop c61x18, .inBlock 4, .inBlock 3, .code (.reg c61x19), .inLoop c61x20, .inBlock 2, .code (.seq (.reg c61x21) .ret)] cs h2 n2 := by
        intro k3
        induction k3 with
        | zero =>
          intro w hw hany R q0 q5 q7 q8 q9
          rw [show w = m by omega] at hany
          refine SW.sub (R' := [(r0, v), (r5, pv), (r7, .int .i64 m), (r8, u), (r9, .int .i64 w)]) (by simp [q0, q5, q7, q8, q9]) ?_
          repeat' (first | refine SW.seq ?_ | refine SW.reg ?_ | refine SO.nil ?_ | refine SW.out ?_ | refine SW.condF rfl ?_ | refine SW.exit rfl ?_ | refine SO.mov rfl rfl rfl ?_ | refine SO.lssF rfl rfl rfl rfl (by omega) ?_ | refine SO.add rfl rfl rfl rfl (by omega) ?_)
          refine SW.again ?_
          refine ih (m + 1) h2 n2 (by omega) ?_ (hE.trans hE2) _ rfl rfl rfl
          rw [he]
          have : par2 rs ps m = 0 := by simp only [par2, hat]; rw [hany, if_neg (by simp)]
          simp only [firstE, this]; simp
        | succ k3 ih3 =>
          intro w hw hany R q0 q5 q7 q8 q9
          have hw' : w < ps.length := by omega
          refine SW.sub (R' := [(r0, v), (r5, pv), (r7, .int .i64 m), (r8, u), (r9, .int .i64 w)]) (by simp [q0, q5, q7, q8, q9]) ?_
          repeat' (first | refine SO.idxOf (fun _ => rfl) rfl rfl rfl rfl hps2 hw' (fun a o hp => ?_) | refine SO.load0 rfl rfl rfl (by assumption) (Gr.refl _ _) ?_ | refine SW.seq ?_ | refine SW.block ?_ | refine SW.reg ?_ | refine SO.nil ?_ | refine SW.skip ?_ | refine SW.condT rfl ?_ | refine SO.mov rfl rfl rfl ?_ | refine SO.lssT rfl rfl rfl rfl (by omega) ?_)
          refine SO.callG rfl rfl rfl (has103 ps[w] hsu hul) ?_
          rintro _ h' n' ⟨rfl, rfl, rfl⟩
          cases hc : ((ancOf rs ps[m].toNat).map Int.ofNat).contains ps[w] with
          | true =>
            repeat' (first | refine SW.seq ?_ | refine SW.reg ?_ | refine SO.nil ?_ | refine SW.condT rfl ?_ | refine SO.mov rfl rfl rfl ?_)
            refine hret 1 _ _ _ _ ?_ (hE.trans hE2) rfl
            have : par2 rs ps m = 1 := by
              simp only [par2, hat]
              rw [if_pos (List.any_eq_true.2 ⟨ps[w], ?_, hc⟩)]
              rw [List.mem_take_iff_getElem]
              exact ⟨w, by omega, rfl⟩
            rw [he]
            simp only [firstE, this]; simp
          | false =>
            repeat' (first | refine SW.reg ?_ | refine SO.nil ?_ | refine SW.skip ?_ | refine SW.out ?_ | refine SW.condF rfl ?_ | refine SO.mov rfl rfl rfl ?_ | refine SO.add rfl rfl rfl rfl (by omega) ?_)
            refine SW.again ?_
            refine ih3 (w + 1) (by omega) ?_ _ rfl rfl rfl rfl rfl
            rw [List.take_succ_eq_append_getElem hw', List.any_append, hany, List.any_cons, hc]; rfl
      repeat' (first | refine SW.seq ?_ | refine SW.block ?_ | refine SW.reg ?_ | refine SO.nil ?_ | refine SO.mov rfl rfl rfl ?_)
      refine SW.loop ?_
      exact loop3 m 0 (by omega) (by simp) _ rfl rfl rfl rfl rfl
  have loop1 : ∀ (k m : Nat), m + k = ps.length → firstE (par1 ps i) ps.length 0 = firstE (par1 ps i) k m → (∀ x ∈ ps.take m, 0 ≤ x ∧ x < (i : Int)) → ∀ R, look R r0 = some v → look R r1 = some (.int .i64 i) → look R r5 = some pv → look R r6 = some (.int .i64 m) → SW E Q 61 R [.code c61x9, .inLoop c61x9, .inBlock 0, .code (.seq (.seq (.reg c61x10) (.block 2 (.loop c61x20))) (.seq (.reg c61x21) .ret))] cs h n := by
    intro k
    induction k with
    | zero =>
      intro m hm he hin R q0 q1 q5 q6
      refine SW.sub (R' := [(r0, v), (r1, .int .i64 i), (r5, pv), (r6, .int .i64 m)]) (by simp [q0, q1, q5, q6]) ?_
      rw [show m = ps.length by omega, List.take_length] at hin
      repeat' (first | refine SW.seq ?_ | refine SW.block ?_ | refine SW.reg ?_ | refine SO.nil ?_ | refine SW.condF rfl ?_ | refine SW.exit rfl ?_ | refine SO.mov rfl rfl rfl ?_ | refine SO.lenSl rfl rfl rfl (by assumption) ?_ | refine SO.lssF rfl rfl rfl rfl (by omega) ?_)
      refine SW.loop ?_
      exact loop2 (by rw [he]; rfl) hin ps.length 0 h n (by omega) rfl (Gr.refl _ _) _ rfl rfl rfl
    | succ k ih =>
      intro m hm he hin R q0 q1 q5 q6
      have hm' : m < ps.length := by omega
      have hat : ps[m]? = some ps[m] := List.getElem?_eq_getElem hm'
      simp only [firstE] at he
      have hbad : par1 ps i m ≠ 0 → ∀ (R : List (Path × AV)) (todo : List AItem), look R r4 = some (.int .i64 (par1 ps i m)) → SW E Q 61 R (.code .ret :: todo) cs h n := fun hb R todo h4 => hret _ _ _ _ _ (by rw [he, if_pos hb, if_pos hb]) (Gr.refl _ _) h4
      have hgo : par1 ps i m = 0 → 0 ≤ ps[m] ∧ ps[m] < (i : Int) → ∀ R, look R r0 = some v → look R r1 = some (.int .i64 i) → look R r5 = some pv → look R r6 = some (.int .i64 ((m : Int) + 1)) → SW E Q 61 R [.code c61x9, .inLoop c61x9, .inBlock 0, .code (.seq (.seq (.reg c61x10) (.block 2 (.loop c61x20))) (.seq (.reg c61x21) .ret))] cs h n := by
        intro h0 hx R q0 q1 q5 q6
        refine ih (m + 1) (by omega) (by rw [he, h0]; simp) (fun x hx' => ?_) R q0 q1 q5 q6
        rw [List.take_succ_eq_append_getElem hm'] at hx'
        rcases List.mem_append.1 hx' with hx' | hx'
        · exact hin x hx'
        · simp at hx'; rw [hx']; exact hx
      refine SW.sub (R' := [(r0, v), (r1, .int .i64 i), (r5, pv), (r6, .int .i64 m)]) (by simp [q0, q1, q5, q6]) ?_
      cases m with
      | zero =>
        repeat' (first | refine SO.idxOf (fun _ => rfl) rfl rfl rfl rfl hps hm' (fun a o hp => ?_) | refine SO.load0 rfl rfl rfl (by assumption) (Gr.refl _ _) ?_ | refine SW.seq ?_ | refine SW.block ?_ | refine SW.reg ?_ | refine SO.nil ?_ | refine SO.nilD ?_ | refine SW.skip ?_ | refine SW.out ?_ | refine SW.condT rfl ?_ | refine SW.condF rfl ?_ | (refine SW.drawO rfl ?_; simp only [List.map_cons, List.map_nil]) | refine SO.nope rfl rfl ?_ | refine SO.mov rfl rfl rfl ?_ | refine SO.pickT rfl rfl rfl rfl rfl ?_ | refine SO.pickF rfl rfl rfl rfl rfl ?_ | refine SO.lenSl rfl rfl rfl (by assumption) ?_ | refine SO.lssT rfl rfl rfl rfl (by omega) ?_ | refine SO.gtrF rfl rfl rfl rfl (by omega) ?_ | refine SO.add rfl rfl rfl rfl (by omega) ?_ | refine SO.lss rfl rfl rfl rfl (fun _ => ?_) (fun _ => ?_) | refine SO.geq rfl rfl rfl rfl (fun _ => ?_) (fun _ => ?_))
        · rename_i hh
          have e : par1 ps i 0 = 2 := by simp only [par1, hat]; rw [if_pos (.inl hh)]
          refine hbad (by rw [e]; decide) _ _ (by rw [e]; rfl)
        · rename_i hh hh'
          have e : par1 ps i 0 = 2 := by simp only [par1, hat]; rw [if_pos (.inr hh')]
          refine hbad (by rw [e]; decide) _ _ (by rw [e]; rfl)
        · rename_i hh hh'
          refine SW.again ?_
          refine hgo ?_ (by omega) _ rfl rfl rfl rfl
          simp only [par1, hat]; rw [if_neg (by omega)]; rfl
      | succ w =>
        have hw : w < ps.length := by omega
        have hwt : ps[w]? = some ps[w] := List.getElem?_eq_getElem hw
        repeat' (first | refine SO.idxAt w (fun _ => rfl) rfl rfl rfl rfl (by omega) hps hw (fun a o hp => ?_) | refine SO.idxOf (fun _ => rfl) rfl rfl rfl rfl hps hm' (fun a o hp => ?_) | refine SO.load0 rfl rfl rfl (by assumption) (Gr.refl _ _) ?_ | refine SW.seq ?_ | refine SW.block ?_ | refine SW.reg ?_ | refine SO.nil ?_ | refine SO.nilD ?_ | refine SW.skip ?_ | refine SW.out ?_ | refine SW.condT rfl ?_ | refine SW.condF rfl ?_ | (refine SW.drawO rfl ?_; simp only [List.map_cons, List.map_nil]) | refine SO.nope rfl rfl ?_ | refine SO.mov rfl rfl rfl ?_ | refine SO.pickT rfl rfl rfl rfl rfl ?_ | refine SO.pickF rfl rfl rfl rfl rfl ?_ | refine SO.lenSl rfl rfl rfl (by assumption) ?_ | refine SO.lssT rfl rfl rfl rfl (by omega) ?_ | refine SO.gtrT rfl rfl rfl rfl (by omega) ?_ | refine SO.add rfl rfl rfl rfl (by omega) ?_ | refine SO.sub rfl rfl rfl rfl (by omega) ?_ | refine SO.lss rfl rfl rfl rfl (fun _ => ?_) (fun _ => ?_) | refine SO.geq rfl rfl rfl rfl (fun _ => ?_) (fun _ => ?_))
        · rename_i hh
          have e : par1 ps i (w + 1) = 2 := by simp only [par1, hat]; rw [if_pos (.inl hh)]
          refine hbad (by rw [e]; decide) _ _ (by rw [e]; rfl)
        · rename_i hh hh'
          have e : par1 ps i (w + 1) = 2 := by simp only [par1, hat]; rw [if_pos (.inr hh')]
          refine hbad (by rw [e]; decide) _ _ (by rw [e]; rfl)
        · rename_i hh hh' hh''
          have e : par1 ps i (w + 1) = 9 := by simp only [par1, hat, hwt]; rw [if_neg (by omega), if_pos (by simpa using hh'')]
          refine hbad (by rw [e]; decide) _ _ (by rw [e]; rfl)
        · rename_i hh hh' hh''
          refine SW.again ?_
          refine hgo ?_ (by omega) _ rfl rfl rfl rfl
          simp only [par1, hat, hwt]; rw [if_neg (by omega), if_neg (by simp; omega)]
  repeat' (first | refine SO.idxOf (fun _ => rfl) rfl rfl rfl rfl hsl hi (fun a o hp => ?_) | refine SO.load0 rfl rfl rfl (by assumption) (Gr.refl _ _) ?_ | refine SW.seq ?_ | refine SW.block ?_ | refine SW.reg ?_ | refine SO.nil ?_ | refine SO.mov rfl rfl rfl ?_ | refine SO.fieldA rfl rfl rfl ?_)
  refine SW.loop ?_
  exact loop1 ps.length 0 (by omega) rfl (by simp) _ rfl rfl (by rw [← hpv]; rfl) rfl
def snapE (rs : List SnapR) (i : Nat) : Int := match rs[i]? with
  | none => 0
  | some r => if parentsE rs i ≠ 0 then parentsE rs i else if nameOk r.s.author = false then 5 else if 1000 < r.s.message.length then 4 else if r.s.time < 0 ∨ 1099511627776 < r.s.time then 2 else treeE r.s.files
theorem snapshot33 {h : Hp} {n : Nat} {v : AV} {rs : List SnapR} (hs : Sn h n v rs) (hl : rs.length ≤ 400) (i : Nat) (hi : i < rs.length) : Fn E 33 [v, .int .i64 i] h n fun r h' n' => r = .int .i64 (snapE rs i) ∧ Gr h n h' n' := by
  refine Fn.of code33 (by decide) rfl fun Q cs hq => ?_
  show SW E Q 33 [(r0, v), (r1, .int .i64 i)] _ _ _ _
  have hmem := List.getElem_mem hi
  have hok := hs.ok rs[i] hmem
  have hat : rs[i]? = some rs[i] := List.getElem?_eq_getElem hi
  have k3 := hok.message
  have hret : ∀ (e : Int) (h1 : Hp) (n1 : Nat) (R : List (Path × AV)) (todo : List AItem), e = snapE rs i → Gr h n h1 n1 → look R r4 = some (.int .i64 e) → SW E Q 33 R (.code .ret :: todo) cs h1 n1 := fun e h1 n1 R todo he hE h2 => SW.ret code33 ⟨_, h2, hq _ _ _ ⟨by rw [he]; rfl, hE⟩⟩
  simp only [snapE, hat] at hret
  repeat' (first | refine SW.seq ?_ | refine SW.reg ?_ | refine SO.nil ?_ | refine SO.mov rfl rfl rfl ?_)
  refine SO.callG rfl rfl rfl (parents61 hs hl i hi) ?_
  rintro _ h1 n1 ⟨rfl, hE⟩
  have hs1 := hs.ext hE
  have hsl := hs1.sl
  by_cases hp0 : parentsE rs i = 0
  case neg =>
    repeat' (first | refine SW.seq ?_ | refine SW.reg ?_ | refine SO.nil ?_ | refine SW.condT rfl ?_ | refine SO.mov rfl rfl rfl ?_ | refine SO.neiT rfl rfl rfl rfl (by omega) ?_)
    exact hret _ _ _ _ _ (by rw [if_pos hp0]) hE rfl
  rw [if_neg (by simpa using hp0)] at hret
  repeat' (first | refine SO.idxOf (fun _ => rfl) rfl rfl rfl rfl hsl hi (fun a o hp => ?_) | refine SO.loadA rfl rfl rfl (by assumption) (Gr.refl _ _) rfl ?_ | refine SO.alloc rfl rfl (fun h3 hc3 hE3 => ?_) | refine SO.storeAll rfl rfl rfl hc3 rfl rfl (fun h4 hc4 hk4 => ?_) | refine SO.loadV rfl rfl rfl hc4 rfl ?_ | refine SW.seq ?_ | refine SW.reg ?_ | refine SO.nil ?_ | refine SW.skip ?_ | refine SW.condF rfl ?_ | refine SO.mov rfl rfl rfl ?_ | refine SO.fieldA rfl rfl rfl ?_ | refine SO.neiF rfl rfl rfl rfl (by omega) ?_)
  have hE4 : Gr h n h4 (n1 + 1) := (hE.trans hE3).keep (by have := hE.le; omega) hk4
  refine SO.callG rfl rfl rfl (name62 rs[i].s.author hok.author _ _) ?_
  rintro _ h' n' ⟨rfl, rfl, rfl⟩
  cases hn : nameOk rs[i].s.author with
  | false =>
    repeat' (first | refine SW.seq ?_ | refine SW.reg ?_ | refine SO.nil ?_ | refine SW.condT rfl ?_ | refine SO.mov rfl rfl rfl ?_ | refine SO.notF rfl rfl rfl ?_)
    exact hret 5 _ _ _ _ (by rw [hn]; rfl) hE4 rfl
  | true =>
    rw [hn, if_neg (by simp)] at hret
    repeat' (first | refine SO.loadV rfl rfl rfl hc4 rfl ?_ | refine SW.seq ?_ | refine SW.reg ?_ | refine SO.nil ?_ | refine SW.skip ?_ | refine SW.condT rfl ?_ | refine SW.condF rfl ?_ | refine SO.nope rfl rfl ?_ | refine SO.mov rfl rfl rfl ?_ | refine SO.pickT rfl rfl rfl rfl rfl ?_ | refine SO.pickF rfl rfl rfl rfl rfl ?_ | refine SO.notT rfl rfl rfl ?_ | refine SO.lenStr rfl rfl rfl ?_ | refine SO.fieldA rfl rfl rfl ?_ | refine SO.lss rfl rfl rfl rfl (fun _ => ?_) (fun _ => ?_) | refine SO.gtr rfl rfl rfl rfl (fun _ => ?_) (fun _ => ?_))
    · rename_i hh
      exact hret 4 _ _ _ _ (by rw [if_pos (by omega)]) hE4 rfl
    · rename_i hh hh'
      exact hret 2 _ _ _ _ (by rw [if_neg (by omega), if_pos (.inl hh')]) hE4 rfl
    · rename_i hh hh' hh''
      exact hret 2 _ _ _ _ (by rw [if_neg (by omega), if_pos (.inr hh'')]) hE4 rfl
    · rename_i hh hh' hh''
      refine SO.callG rfl rfl rfl (checkTree63 ((hs.ext hE4).fs rs[i] hmem) hok.files hok.pfs) ?_
      rintro _ h5 n5 ⟨rfl, hE5⟩
      repeat' (first | refine SO.nil ?_ | refine SO.mov rfl rfl rfl ?_)
      exact hret _ _ _ _ _ (by rw [if_neg (by omega), if_neg (by omega)]) (hE4.trans hE5) rfl
def checkE (rs : List SnapR) : Int := if 400 < rs.length then 4 else firstE (snapE rs) rs.length 0
theorem first19 {h : Hp} {n : Nat} {v : AV} {rs : List SnapR} (hs : Sn h n v rs) : Fn E 19 [v] h n fun r h' n' => (∃ i, r = .tup [.int .i64 i, .int .i64 (checkE rs)]) ∧ Gr h n h' n' := by
  refine Fn.of code19 (by decide) rfl fun Q cs hq => ?_
  show SW E Q 19 [(r0, v)] _ _ _ _
  have hl := hs.len
  have hsl := hs.sl
  have hret : ∀ (x e : Int) (h1 : Hp) (n1 : Nat) (R : List (Path × AV)) (todo : List AItem), e = checkE rs → Gr h n h1 n1 → look R r2 = some (.int .i64 x) → look R r3 = some (.int .i64 e) → SW E Q 19 R (.code .ret :: todo) cs h1 n1 := fun x e h1 n1 R todo he hE h2 h3 => SW.ret code19 ⟨_, h2, _, h3, hq _ _ _ ⟨⟨x, by rw [he]; rfl⟩, hE⟩⟩
  by_cases hlen : 400 < rs.length
  · repeat' (first | refine SW.seq ?_ | refine SW.reg ?_ | refine SO.nil ?_ | refine SW.condT rfl ?_ | refine SO.mov rfl rfl rfl ?_ | refine SO.lenSl rfl rfl rfl (by assumption) ?_ | refine SO.gtrT rfl rfl rfl rfl (by omega) ?_)
    exact hret 0 4 _ _ _ _ (by simp [checkE, hlen]) (Gr.refl _ _) rfl rfl
  have loop : ∀ (k i : Nat) (h1 : Hp) (n1 : Nat), i + k = rs.length → checkE rs = firstE (snapE rs) k i → Gr h n h1 n1 → ∀ R, look R r0 = some v → look R r4 = some (.int .i64 i) → SW E Q 19 R [.code c19x9, .inLoop c19x9, .inBlock 0, .code (.seq (.reg c19x10) .ret)] cs h1 n1 := by
    intro k
    induction k with
    | zero =>
      intro i h1 n1 hi he hE R q0 q4
      refine SW.sub (R' := [(r0, v), (r4, .int .i64 i)]) (by simp [q0, q4]) ?_
      repeat' (first | refine SW.seq ?_ | refine SW.reg ?_ | refine SO.nil ?_ | refine SW.condF rfl ?_ | refine SW.exit rfl ?_ | refine SO.mov rfl rfl rfl ?_ | refine SO.lenSl rfl rfl rfl (by assumption) ?_ | refine SO.lssF rfl rfl rfl rfl (by omega) ?_)
      exact hret 0 0 _ _ _ _ (by rw [he]; rfl) hE rfl rfl
    | succ k ih =>
      intro i h1 n1 hi he hE R q0 q4
      have hi' : i < rs.length := by omega
      refine SW.sub (R' := [(r0, v), (r4, .int .i64 i)]) (by simp [q0, q4]) ?_
      simp only [firstE] at he
      repeat' (first | refine SW.seq ?_ | refine SW.block ?_ | refine SW.reg ?_ | refine SO.nil ?_ | refine SW.skip ?_ | refine SW.condT rfl ?_ | refine SO.mov rfl rfl rfl ?_ | refine SO.lenSl rfl rfl rfl (by assumption) ?_ | refine SO.lssT rfl rfl rfl rfl (by omega) ?_)
      refine SO.callG rfl rfl rfl (snapshot33 (hs.ext hE) (by omega) i hi') ?_
      rintro _ h2 n2 ⟨rfl, hE2⟩
      repeat' (first | refine SW.seq ?_ | refine SW.reg ?_ | refine SO.nil ?_ | refine SW.skip ?_ | refine SW.out ?_ | refine SW.condT rfl ?_ | refine SW.condF rfl ?_ | refine SO.mov rfl rfl rfl ?_ | refine SO.add rfl rfl rfl rfl (by omega) ?_ | refine SO.nei rfl rfl rfl rfl (fun _ => ?_) (fun _ => ?_))
      · rename_i hh
        exact hret _ _ _ _ _ _ (by rw [he, if_pos hh]) (hE.trans hE2) rfl rfl
      · rename_i hh
        refine SW.again ?_
        exact ih (i + 1) h2 n2 (by omega) (by rw [he, if_neg (by simpa using hh)]) (hE.trans hE2) _ rfl rfl
  repeat' (first | refine SW.seq ?_ | refine SW.block ?_ | refine SW.reg ?_ | refine SO.nil ?_ | refine SW.skip ?_ | refine SW.condF rfl ?_ | refine SO.mov rfl rfl rfl ?_ | refine SO.lenSl rfl rfl rfl (by assumption) ?_ | refine SO.gtrF rfl rfl rfl rfl (by omega) ?_)
  refine SW.loop ?_
  exact loop rs.length 0 _ _ (by omega) (by simp [checkE, hlen]) (Gr.refl _ _) _ rfl rfl
theorem check9 {h : Hp} {n : Nat} {v : AV} {rs : List SnapR} (hs : Sn h n v rs) : Fn E 9 [v] h n fun r h' n' => r = .int .i64 (checkE rs) ∧ Gr h n h' n' := by
  refine Fn.of code9 (by decide) rfl fun Q cs hq => ?_
  show SW E Q 9 [(r0, v)] _ _ _ _
  repeat' (first | refine SW.seq ?_ | refine SW.reg ?_ | refine SO.nil ?_ | refine SO.mov rfl rfl rfl ?_)
  refine SO.callG rfl rfl rfl (first19 hs) ?_
  rintro _ h1 n1 ⟨⟨x, rfl⟩, hE⟩
  repeat' (first | refine SW.seq ?_ | refine SW.reg ?_ | refine SO.nil ?_ | refine SO.mov rfl rfl rfl ?_ | refine SO.extract rfl rfl rfl rfl ?_)
  exact SW.ret code9 ⟨_, rfl, hq _ _ _ ⟨rfl, hE⟩⟩
end Go.Ev
