/- Contracts: quiltref12.CheckTree; the snapshots. -/
import Derived.Test.YtpamccbgifeoaaaGreatDoorF3
set_option linter.all false
namespace Go.Ev
set_option maxRecDepth 100000
set_option maxHeartbeats 4000000
def ordBad (fs : List PF) (p : List UInt8) : Nat → Bool
  | 0 => false
  | j + 1 => match fs[j]? with | some y => !lessB y.path p | none => false
def treeAt (fs : List PF) (i : Nat) : Int := match fs[i]? with
  | none => 0
  | some x => if fileE x ≠ 0 then fileE x else if ordBad fs x.path i = true then 9 else if homeE (fs.take i) x.path ≠ 0 then 7 else 0
def firstE (e : Nat → Int) : Nat → Nat → Int
  | 0, _ => 0
  | k + 1, i => if e i ≠ 0 then e i else firstE e k (i + 1)
def treeE (fs : List PF) : Int := if 200 < fs.length then 4 else firstE (treeAt fs) fs.length 0
abbrev Small (n : Nat) : Prop := n ≤ 4000000000000000000
def PFs (fs : List PF) : Prop := ∀ f ∈ fs, Small f.path.length ∧ Small f.data.length
theorem checkTree63 {h : Hp} {n : Nat} {v : AV} {fs : List PF} (hs : Sl h n 4 v fs.length (fs.flatMap pfC)) (hl : Small fs.length) (hp : PFs fs) : Fn E 63 [v] h n fun r h' n' => r = .int .i64 (treeE fs) ∧ Gr h n h' n' := by
  unfold Small at hl
  refine Fn.of code63 (by decide) rfl fun Q cs hq => ?_
  show SW E Q 63 [(r0, v)] _ _ _ _
  have hret : ∀ (e : Int) (h1 : Hp) (n1 : Nat) (R : List (Path × AV)) (todo : List AItem), e = treeE fs → Gr h n h1 n1 → look R r2 = some (.int .i64 e) → SW E Q 63 R (.code .ret :: todo) cs h1 n1 := fun e h1 n1 R todo he hE h2 => SW.ret code63 ⟨_, h2, hq _ _ _ ⟨by rw [he]; rfl, hE⟩⟩
  by_cases hlen : 200 < fs.length
  · repeat' (first | refine SW.seq ?_ | refine SW.reg ?_ | refine SO.nil ?_ | refine SW.condT rfl ?_ | refine SO.mov rfl rfl rfl ?_ | refine SO.lenSl rfl rfl rfl (by assumption) ?_ | refine SO.gtrT rfl rfl rfl rfl (by omega) ?_)
    exact hret 4 _ _ _ _ (by simp [treeE, hlen]) (Gr.refl _ _) rfl
  have loop : ∀ (k i : Nat) (h1 : Hp) (n1 : Nat), i + k = fs.length → treeE fs = firstE (treeAt fs) k i → Gr h n h1 n1 → ∀ R, look R r0 = some v → look R r3 = some (.int .i64 i) → SW E Q 63 R [.code c63x13, .inLoop c63x13, .inBlock 0, .code (.seq (.reg c63x14) .ret)] cs h1 n1 := by
    intro k
    induction k with
    | zero =>
      intro i h1 n1 hi he hE R q0 q3
      refine SW.sub (R' := [(r0, v), (r3, .int .i64 i)]) (by simp [q0, q3]) ?_
      repeat' (first | refine SW.seq ?_ | refine SW.reg ?_ | refine SO.nil ?_ | refine SW.condF rfl ?_ | refine SW.exit rfl ?_ | refine SO.mov rfl rfl rfl ?_ | refine SO.lenSl rfl rfl rfl (by assumption) ?_ | refine SO.lssF rfl rfl rfl rfl (by omega) ?_)
      exact hret _ _ _ _ _ (by rw [he]; rfl) hE rfl
    | succ k ih =>
      intro i h1 n1 hi he hE R q0 q3
      have hi' : i < fs.length := by omega
      have hm := hp fs[i] (List.getElem_mem hi')
      have hs1 := hs.ext hE
      have hat : fs[i]? = some fs[i] := List.getElem?_eq_getElem hi'
      simp only [firstE] at he
      refine SW.sub (R' := [(r0, v), (r3, .int .i64 i)]) (by simp [q0, q3]) ?_
      repeat' (first | refine SO.idxOf (fun _ => rfl) rfl rfl rfl rfl hs1 hi' (fun a o hp => ?_) | refine SO.loadA rfl rfl rfl (by assumption) (Gr.refl _ _) rfl ?_ | refine SW.seq ?_ | refine SW.block ?_ | refine SW.reg ?_ | refine SO.nil ?_ | refine SW.skip ?_ | refine SW.condT rfl ?_ | refine SO.mov rfl rfl rfl ?_ | refine SO.lenSl rfl rfl rfl (by assumption) ?_ | refine SO.lssT rfl rfl rfl rfl (by omega) ?_)
      refine SO.callG rfl rfl rfl (file104 fs[i] hm.1 hm.2) ?_
      rintro _ h2 n2 ⟨rfl, hE2⟩
      have hs2 := hs1.ext hE2
      by_cases hf0 : fileE fs[i] = 0
      case neg =>
        repeat' (first | refine SW.seq ?_ | refine SW.reg ?_ | refine SO.nil ?_ | refine SW.condT rfl ?_ | refine SO.mov rfl rfl rfl ?_ | refine SO.neiT rfl rfl rfl rfl (by omega) ?_)
        refine hret _ _ _ _ _ ?_ (hE.trans hE2) rfl
        rw [he]
        have : treeAt fs i = fileE fs[i] := by simp [treeAt, hat, hf0]
        rw [this, if_pos hf0]
      have hrest : ordBad fs fs[i].path i = false → ∀ R, look R r0 = some v → look R r3 = some (.int .i64 i) → look R r38 = some v → look R r39 = some (.int .i64 i) → SO E Q 63 (.draw [] []) R [⟨(some r40), none, [.r r38, .r r39], (.sliceSl 4 false true false)⟩, ⟨(some r41), none, [.r r0], .mov⟩, ⟨(some r42), none, [.r r3], .mov⟩, ⟨(some r43), none, [.r r41, .r r42], (.idxSlA 4)⟩, ⟨(some r44), none, [.r r43], (.fieldA 0)⟩, ⟨(some r45), none, [.r r44], .loadC⟩, ⟨(some r46), none, [.r r40, .r r45], (.call 105)⟩, ⟨(some r47), none, [.r r46, .c (.int .i64 0)], (.eql true .num)⟩] [.code (.cond (.r r47) (.seq (.reg c63x11) .ret) .skip), .inBlock 1, .code (.reg c63x12), .inLoop c63x13, .inBlock 0, .code (.seq (.reg c63x14) .ret)] cs h2 n2 := by
        intro hord R q0 q3 q38 q39
        refine SO.forget (R' := [(r0, v), (r3, .int .i64 i), (r38, v), (r39, .int .i64 i)]) (by simp [q0, q3, q38, q39]) ?_
        repeat' (first | refine SO.sliceSlFT (fun _ => rfl) rfl rfl rfl rfl hs2 (.inl (by omega)) (Nat.le_of_lt hi') (fun v' hs' => ?_) | refine SO.idxOf (fun _ => rfl) rfl rfl rfl rfl hs2 hi' (fun a o hp => ?_) | refine SO.load0 rfl rfl rfl (by assumption) (Gr.refl _ _) ?_ | refine SO.mov rfl rfl rfl ?_ | refine SO.fieldA rfl rfl rfl ?_)
        refine SO.callG rfl rfl rfl (home105 fs[i].path hs' (by rw [List.length_take]; omega) hm.1) ?_
        rintro _ h3 n3 ⟨rfl, hE3⟩
        repeat' (first | refine SW.seq ?_ | refine SW.reg ?_ | refine SO.nil ?_ | refine SO.nilD ?_ | refine SW.skip ?_ | refine SW.out ?_ | refine SW.condT rfl ?_ | refine SW.condF rfl ?_ | refine SO.mov rfl rfl rfl ?_ | refine SO.add rfl rfl rfl rfl (by omega) ?_ | refine SO.nei rfl rfl rfl rfl (fun _ => ?_) (fun _ => ?_))
        · rename_i hh
          refine hret 7 _ _ _ _ ?_ ((hE.trans hE2).trans hE3) rfl
          have : treeAt fs i = 7 := by simp only [treeAt, hat]; rw [if_neg (by simpa using hf0), hord, if_neg (by simp), if_pos hh]
          rw [he, this]; rfl
        · rename_i hh
          have : treeAt fs i = 0 := by simp only [treeAt, hat]; rw [if_neg (by simpa using hf0), hord, if_neg (by simp), if_neg (by simpa using hh)]
          rw [this] at he
          refine SW.again ?_
          exact ih (i + 1) h3 n3 (by omega) he ((hE.trans hE2).trans hE3) _ rfl rfl
      cases i with
      | zero =>
        repeat' (first | refine SW.seq ?_ | refine SW.reg ?_ | refine SO.nil ?_ | refine SO.nilD ?_ | refine SW.skip ?_ | refine SW.condF rfl ?_ | (refine SW.drawO rfl ?_; simp only [List.map_cons, List.map_nil]) | refine SO.nope rfl rfl ?_ | refine SO.mov rfl rfl rfl ?_ | refine SO.pickF rfl rfl rfl rfl rfl ?_ | refine SO.gtrF rfl rfl rfl rfl (by omega) ?_ | refine SO.neiF rfl rfl rfl rfl (by omega) ?_)
        exact hrest rfl _ rfl rfl rfl rfl
      | succ j =>
        have hj : j < fs.length := by omega
        have hjt : fs[j]? = some fs[j] := List.getElem?_eq_getElem hj
        repeat' (first | refine SO.idxAt j (fun _ => rfl) rfl rfl rfl rfl (by omega) hs2 hj (fun a o hp => ?_) | refine SO.idxOf (fun _ => rfl) rfl rfl rfl rfl hs2 hi' (fun a o hp => ?_) | refine SO.load0 rfl rfl rfl (by assumption) (Gr.refl _ _) ?_ | refine SW.seq ?_ | refine SW.reg ?_ | refine SO.nil ?_ | refine SO.nilD ?_ | refine SW.skip ?_ | refine SW.condT rfl ?_ | refine SW.condF rfl ?_ | (refine SW.drawO rfl ?_; simp only [List.map_cons, List.map_nil]) | refine SO.mov rfl rfl rfl ?_ | refine SO.pickT rfl rfl rfl rfl rfl ?_ | refine SO.fieldA rfl rfl rfl ?_ | refine SO.gtrT rfl rfl rfl rfl (by omega) ?_ | refine SO.neiF rfl rfl rfl rfl (by omega) ?_ | refine SO.sub rfl rfl rfl rfl (by omega) ?_ | refine SO.geqS rfl rfl rfl rfl (fun _ => ?_) (fun _ => ?_))
        · rename_i hh
          refine hret 9 _ _ _ _ ?_ (hE.trans hE2) rfl
          have : treeAt fs (j + 1) = 9 := by simp only [treeAt, hat]; rw [if_neg (by simpa using hf0), if_pos (by simp only [ordBad, hjt]; rw [hh]; rfl)]
          rw [he, this]; rfl
        · rename_i hh
          exact hrest (by simp only [ordBad, hjt]; rw [hh]; rfl) _ rfl rfl rfl rfl
  repeat' (first | refine SW.seq ?_ | refine SW.block ?_ | refine SW.reg ?_ | refine SO.nil ?_ | refine SW.skip ?_ | refine SW.condF rfl ?_ | refine SO.mov rfl rfl rfl ?_ | refine SO.lenSl rfl rfl rfl (by assumption) ?_ | refine SO.gtrF rfl rfl rfl rfl (by omega) ?_)
  refine SW.loop ?_
  exact loop fs.length 0 _ _ (by omega) (by simp [treeE, hlen]) (Gr.refl _ _) _ rfl rfl
end Go.Ev
