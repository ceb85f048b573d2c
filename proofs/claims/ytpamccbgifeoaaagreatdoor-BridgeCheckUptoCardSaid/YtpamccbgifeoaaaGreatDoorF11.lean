/- Contracts: quiltref12.expression, Print. -/
import Derived.Test.YtpamccbgifeoaaaGreatDoorF10
set_option linter.all false
namespace Go.Ev
set_option maxRecDepth 100000
set_option maxHeartbeats 4000000
def encA (bs : List UInt8) : List UInt8 := decN bs.length ++ (58 :: bs)
def encL (ys : List UInt8) : List UInt8 := 40 :: (ys ++ [41])
def encFile (f : PF) : List UInt8 := encL (encA f.path ++ (encA (decN f.type.toNat) ++ (encA (decN f.mode.toNat) ++ (encA f.data ++ []))))
def encSnap (s : SN) : List UInt8 := encL (encL (s.parents.flatMap fun p => encA (decN p.toNat)) ++ (encA s.author ++ (encA s.message ++ (encA (decN s.time.toNat) ++ (encL (s.files.flatMap encFile) ++ [])))))
structure Fine (s : SN) : Prop where
  parents : ∀ p ∈ s.parents, 0 ≤ p ∧ p ≤ 9000000000000000000
  time : 0 ≤ s.time ∧ s.time ≤ 9000000000000000000
  files : ∀ f ∈ s.files, 0 ≤ f.type ∧ f.type ≤ 9000000000000000000 ∧ 0 ≤ f.mode ∧ f.mode ≤ 9000000000000000000 ∧ f.path.length ≤ 65536 ∧ f.data.length ≤ 65536
  author : s.author.length ≤ 65536
  message : s.message.length ≤ 65536
  np : s.parents.length ≤ 1000
  nf : s.files.length ≤ 1000
theorem fit_dec (d m : Nat) (hm : m ≤ 9000000000000000000) : XFit (d + 1) (.atom (decN m)) := .atom d _ (Nat.le_trans (decN_short m 18 (by omega)) (by decide))
def Rob (n1 : Nat) (h : Hp) (n2 : Nat) (x : XR) : Prop := ∀ (g : Hp) (m : Nat), n2 ≤ m → (∀ b vs e, n1 ≤ b → b < n2 → hb h b = some (.cell vs e false) → hb g b = some (.cell vs e false)) → XOk g m x
theorem Rob.mono {n1 n2 n2' : Nat} {h h' : Hp} {x : XR} (hx : Rob n1 h n2 x) (hn : n2 ≤ n2') (hk : ∀ b vs e, n1 ≤ b → b < n2 → hb h b = some (.cell vs e false) → hb h' b = some (.cell vs e false)) : Rob n1 h' n2' x :=
  fun g m hm hg => hx g m (by omega) fun b vs e h1 h2 h3 => hg b vs e h1 (by omega) (hk b vs e h1 h2 h3)
theorem Rob.atom (n1 : Nat) (h : Hp) (n2 : Nat) (bs : List UInt8) : Rob n1 h n2 (.atom bs) := fun _ _ _ _ => .atom bs
theorem Rob.ext {n1 n2 n2' : Nat} {h h' : Hp} {x : XR} (hx : Rob n1 h n2 x) (e : Gr h n2 h' n2') : Rob n1 h' n2' x := hx.mono e.le fun b vs ty _ h2 h3 => by rw [e.same b h2]; exact h3
theorem gr_append {hs h1 h3 : Hp} {ns n1 n3 : Nat} {fo : Option Nat} (hG : Gr hs ns h1 n1) (hfo : ∀ f', fo = some f' → ns ≤ f') (hn3 : n1 ≤ n3) (hk3 : ∀ b, b < n1 → fo ≠ some b → hb h3 b = hb h1 b) : Gr hs ns h3 n3 :=
  ⟨Nat.le_trans hG.le hn3, fun b hb0 => by rw [hk3 b (by have := hG.le; omega) (fun e => by have := hfo b e; omega), hG.same b hb0]⟩
theorem fo_append {n1 ns : Nat} {fo fo' : Option Nat} (hfo : ∀ f', fo = some f' → ns ≤ f') (hn : ns ≤ n1) (hf3 : fo' = fo ∨ ∃ f', fo' = some f' ∧ n1 ≤ f') : ∀ f', fo' = some f' → ns ≤ f' := by
  intro f' e
  rcases hf3 with rfl | ⟨f'', rfl, h2⟩
  · exact hfo f' e
  · simp at e; omega
theorem own_fam {h : Hp} {n0 n esz : Nat} {e : TypeId} {v : AV} {b : Nat} {cells : List AV} (ho : Own h n0 n esz e v (some b) cells) : ∃ lo la, hb h b = some (.fam lo la) := by
  rcases ho with ⟨_, _, h1⟩ | ⟨_, _, _, _, _, _, _, _, h1⟩ | ⟨a, f, lo, l, _, _, _, _, _, _, _, h7, _, h1⟩
  · simp at h1
  · simp at h1
  · simp at h1; subst h1; exact ⟨_, _, h7⟩
theorem Rob.append {n0 n1 n2 n3 esz : Nat} {h h3 : Hp} {x : XR} {e : TypeId} {v : AV} {fo : Option Nat} {cells : List AV} (hx : Rob n1 h n2 x) (ho : Own h n0 n2 esz e v fo cells) (hn3 : n2 ≤ n3) (hk3 : ∀ b, b < n2 → fo ≠ some b → hb h3 b = hb h b) : Rob n1 h3 n3 x :=
  hx.mono hn3 fun b vs ty _ h2 h3' => by
    rw [hk3 b h2 ?_]; exact h3'
    intro e'
    subst e'
    obtain ⟨lo, la, h4⟩ := own_fam ho
    rw [h4] at h3'; simp at h3'
theorem expression17 {h : Hp} {n : Nat} (r : SnapR) (hp : Sl h n 1 r.vp r.s.parents.length (r.s.parents.flatMap intC)) (hf : Sl h n 4 r.vf r.s.files.length (r.s.files.flatMap pfC)) (hr : Fine r.s) :
    Fn E 17 [.agg (srC r)] h n fun v h' n' => (∃ x, v = .agg (xC x) ∧ XOk h' n' x ∧ XFit 4 x ∧ x.enc = encSnap r.s ∧ x.nodes = 6 + r.s.parents.length + 5 * r.s.files.length) ∧ Gr h n h' n' := by
  refine Fn.of code17 (by decide) rfl fun Q cs hq => ?_
  show SW E Q 17 [(r0, .agg (srC r))] _ _ _ _
  have done : ∀ (h2 : Hp) (n2 : Nat) (u3 u4 : AV) (fo3 fo4 : Option Nat) (ys xs : List XR), hb h2 n = some (.cell (srC r) 33 false) → hb h2 (n + 1) = some (.cell [.bool false, strOf [], .nils] 51 false) → n + 2 ≤ n2 → Gr h n h2 n2 →
      Own h2 (n + 2) n2 3 51 u3 fo3 (ys.flatMap xC) → Own h2 (n + 2) n2 3 51 u4 fo4 (xs.flatMap xC) → (∀ y ∈ ys, Rob (n + 2) h2 n2 y) → (∀ x ∈ xs, Rob (n + 2) h2 n2 x) → (∀ y ∈ ys, XFit 2 y) → (∀ x ∈ xs, XFit 2 x) → XR.encs ys = r.s.parents.flatMap (fun p => encA (decN p.toNat)) → XR.encs xs = r.s.files.flatMap encFile → XR.nodess ys = r.s.parents.length → XR.nodess xs = 5 * r.s.files.length →
      ∀ R, look R r1 = some (.ptr n 0) → look R r2 = some (.ptr (n + 1) 0) → look R r3 = some u3 → look R r4 = some u4 → SW E Q 17 R [.code (.draw c17x13), .code .ret] cs h2 n2 := by
    intro h2 n2 u3 u4 fo3 fo4 ys xs hc1 hc2 hn2 hE ho3 ho4 ok3 ok4 fit3 fit4 en3 en4 no3 no4 R q1 q2 q3 q4
    have hs3 : Sl h2 n2 3 u3 ys.length (ys.flatMap xC) := ho3.sl (flatMap_length xC_length ys) (by decide)
    have hs4 : Sl h2 n2 3 u4 xs.length (xs.flatMap xC) := ho4.sl (flatMap_length xC_length xs) (by decide)
    refine SW.sub (R' := [(r1, .ptr n 0), (r2, .ptr (n + 1) 0), (r3, u3), (r4, u4)]) (by simp [q1, q2, q3, q4]) ?_
    repeat' (first | refine SO.loadV rfl rfl rfl hc1 rfl ?_ | (refine SW.drawG ?_; simp only [gOps, gRc, gTail]) | refine SO.mov rfl rfl rfl ?_ | refine SO.fieldA rfl rfl rfl ?_)
    refine SO.callG rfl rfl rfl (list30 hs3) ?_
    rintro _ h3 n3 ⟨rfl, hE3⟩
    have hc3 : hb h3 n = some (.cell (srC r) 33 false) := by rw [hE3.same n (by omega)]; exact hc1
    refine SO.more (Still.loadV (c := ⟨none, none, [], .mov⟩) rfl rfl rfl hc3 rfl (Still.loadV (c := ⟨none, none, [], .mov⟩) rfl rfl rfl hc3 rfl (Still.loadV (c := ⟨none, none, [], .mov⟩) rfl rfl rfl hc3 rfl Still.nil))) ?_
    simp only [gOps, gRc, gTail]
    refine SO.callG rfl rfl rfl (atom31 r.s.author) ?_
    rintro _ h4 n4 ⟨rfl, hE4⟩
    have hc4 : hb h4 n = some (.cell (srC r) 33 false) := by rw [hE4.same n (by have := hE3.le; omega)]; exact hc3
    refine SO.more (Still.loadV (c := ⟨none, none, [], .mov⟩) rfl rfl rfl hc4 rfl (Still.loadV (c := ⟨none, none, [], .mov⟩) rfl rfl rfl hc4 rfl Still.nil)) ?_
    simp only [gOps, gRc, gTail]
    refine SO.callG rfl rfl rfl (atom31 r.s.message) ?_
    rintro _ h5 n5 ⟨rfl, hE5⟩
    have hc5 : hb h5 n = some (.cell (srC r) 33 false) := by rw [hE5.same n (by have := hE3.le; have := hE4.le; omega)]; exact hc4
    refine SO.more (Still.loadV (c := ⟨none, none, [], .mov⟩) rfl rfl rfl hc5 rfl Still.nil) ?_
    simp only [gOps, gRc, gTail]
    have hfn := number29 (h := h5) (n := n5) r.s.time.toNat (by have := hr.time; omega)
    rw [Int.toNat_of_nonneg hr.time.1] at hfn
    refine SO.callG rfl rfl rfl hfn ?_
    rintro _ h6 n6 ⟨rfl, hE6⟩
    refine SO.callG rfl rfl rfl (list30 hs4) ?_
    rintro _ h7 n7 ⟨rfl, hE7⟩
    have l3 := hE3.le
    have l4 := hE4.le
    have l5 := hE5.le
    have l6 := hE6.le
    have l7 := hE7.le
    have hG : Gr h2 n2 h7 n7 := (((hE3.trans hE4).trans hE5).trans hE6).trans hE7
    refine SO.bslice rfl rfl rfl (fun k => rfl) (fun h8 hc8 hE8 => ?_)
    have hc8' : hb h8 n = some (.cell (srC r) 33 false) := by rw [hE8.same n (by omega), hG.same n (by omega)]; exact hc1
    refine SO.more (Still.loadV (c := ⟨none, none, [], .mov⟩) rfl rfl rfl hc8' rfl (Still.loadV (c := ⟨none, none, [], .mov⟩) rfl rfl rfl hc8' rfl (Still.loadV (c := ⟨none, none, [], .mov⟩) rfl rfl rfl hc8' rfl Still.nil))) ?_
    simp only [gOps, gRc, gTail]
    have hG8 : Gr h2 n2 h8 (n7 + 1) := hG.trans hE8
    have hs8 : Sl h8 (n7 + 1) 3 (.slc n7 0 5 5) [XR.list u3 ys, .atom r.s.author, .atom r.s.message, .atom (decN r.s.time.toNat), .list u4 xs].length ([XR.list u3 ys, .atom r.s.author, .atom r.s.message, .atom (decN r.s.time.toNat), .list u4 xs].flatMap xC) := ⟨rfl, .inr ⟨n7, 0, 5, _, .inl ⟨rfl, Nat.le_refl _⟩, ⟨by omega, .inl ⟨_, _, hc8⟩⟩, by simp, rfl⟩⟩
    refine SO.callG rfl rfl rfl (list30 hs8) ?_
    rintro _ h9 n9 ⟨rfl, hE9⟩
    have hc9 : hb h9 (n + 1) = some (.cell [.bool false, strOf [], .nils] 51 false) := by rw [hE9.same (n + 1) (by omega), hG8.same (n + 1) (by omega)]; exact hc2
    repeat' (first | refine SO.storeAll rfl rfl rfl hc9 rfl rfl (fun ha hca hka => ?_) | refine SO.nilD ?_)
    have hGa : Gr h2 n2 h9 n9 := hG8.trans hE9
    have hk : Gr h n ha n9 := (hE.trans hGa).keep (by omega) hka
    have hag : ∀ b, n + 2 ≤ b → b < n2 → hb ha b = hb h2 b := fun b hb1 hb2 => by rw [hka b (by omega), hGa.same b hb2]
    have ok3' : ∀ y ∈ ys, XOk ha n9 y := fun y hy => ok3 y hy ha n9 (by have := hGa.le; omega) fun b vs e h1 h2' h3' => by rw [hag b h1 h2']; exact h3'
    have ok4' : ∀ x ∈ xs, XOk ha n9 x := fun x hx => ok4 x hx ha n9 (by have := hGa.le; omega) fun b vs e h1 h2' h3' => by rw [hag b h1 h2']; exact h3'
    have hs3' : Sl ha n9 3 u3 ys.length (ys.flatMap xC) := (ho3.keep (by have := hGa.le; omega) hag).sl (flatMap_length xC_length ys) (by decide)
    have hs4' : Sl ha n9 3 u4 xs.length (xs.flatMap xC) := (ho4.keep (by have := hGa.le; omega) hag).sl (flatMap_length xC_length xs) (by decide)
    have hca' : hb ha n7 = hb h8 n7 := by rw [hka n7 (by omega), hE9.same n7 (by omega)]
    have l9 := hE9.le
    have hs9 : Sl ha n9 3 (.slc n7 0 5 5) [XR.list u3 ys, .atom r.s.author, .atom r.s.message, .atom (decN r.s.time.toNat), .list u4 xs].length ([XR.list u3 ys, .atom r.s.author, .atom r.s.message, .atom (decN r.s.time.toNat), .list u4 xs].flatMap xC) := ⟨rfl, .inr ⟨n7, 0, 5, _, .inl ⟨rfl, Nat.le_refl _⟩, ⟨by omega, .inl ⟨_, _, by rw [hca']; exact hc8⟩⟩, by simp, rfl⟩⟩
    refine SW.ret code17 ⟨n + 1, 0, _, rfl, .inl ⟨_, _, hca⟩, by simp [xC], hq _ _ _ ⟨⟨_, rfl, .list _ _ hs9 ?_, .list 3 _ _ ?_, ?_, ?_⟩, hk⟩⟩
    · intro x hx
      simp only [List.mem_cons, List.not_mem_nil, or_false] at hx
      rcases hx with rfl | rfl | rfl | rfl | rfl
      · exact .list _ _ hs3' ok3'
      · exact .atom _
      · exact .atom _
      · exact .atom _
      · exact .list _ _ hs4' ok4'
    · intro x hx
      simp only [List.mem_cons, List.not_mem_nil, or_false] at hx
      rcases hx with rfl | rfl | rfl | rfl | rfl
      · exact .list _ _ _ fit3
      · exact .atom _ _ hr.author
      · exact .atom _ _ hr.message
      · exact fit_dec _ _ (by have := hr.time; omega)
      · exact .list _ _ _ fit4
    · simp only [XR.enc, XR.encs, en3, en4]; rfl
    · simp only [XR.nodes, XR.nodess, no3, no4]; omega
  have loop2 : ∀ (h1 : Hp) (n1 : Nat) (u3 : AV) (fo3 : Option Nat) (ys : List XR), hb h1 n = some (.cell (srC r) 33 false) → hb h1 (n + 1) = some (.cell [.bool false, strOf [], .nils] 51 false) → n + 4 ≤ n1 → Gr h n h1 n1 → Own h1 (n + 2) n1 3 51 u3 fo3 (ys.flatMap xC) → (∀ y ∈ ys, Rob (n + 2) h1 n1 y) → (∀ y ∈ ys, XFit 2 y) → XR.encs ys = r.s.parents.flatMap (fun p => encA (decN p.toNat)) → XR.nodess ys = r.s.parents.length →
      ∀ (k i : Nat) (h2 : Hp) (n2 : Nat) (u4 : AV) (fo4 : Option Nat) (xs : List XR), i + k = r.s.files.length → Own h2 (n + 2) n2 3 51 u4 fo4 (xs.flatMap xC) → (∀ f', fo4 = some f' → n1 ≤ f') → Gr h1 n1 h2 n2 → (∀ x ∈ xs, Rob (n + 2) h2 n2 x) → (∀ x ∈ xs, XFit 2 x) → XR.encs xs = (r.s.files.take i).flatMap encFile → XR.nodess xs = 5 * i → xs.length = i →
      ∀ R, look R r1 = some (.ptr n 0) → look R r2 = some (.ptr (n + 1) 0) → look R r3 = some u3 → look R r4 = some u4 → look R r6 = some (.int .i64 (i : Int)) → SW E Q 17 R [.code c17x12, .inLoop c17x12, .inBlock 2, .code (.seq (.draw c17x13) .ret)] cs h2 n2 := by
    intro h1 n1 u3 fo3 ys hc1 hc2 hn1 hE1 ho3 ok3 fit3 en3 no3 k
    induction k with
    | zero =>
      intro i h2 n2 u4 fo4 xs hi ho4 hfo hG ok4 fit4 en4 no4 hxl R q1 q2 q3 q4 q6
      have hc1' : hb h2 n = some (.cell (srC r) 33 false) := by rw [hG.same n (by omega)]; exact hc1
      have hc2' : hb h2 (n + 1) = some (.cell [.bool false, strOf [], .nils] 51 false) := by rw [hG.same (n + 1) (by omega)]; exact hc2
      have hff := hf.ext (hE1.trans hG)
      rw [show i = r.s.files.length by omega, List.take_length] at en4
      rw [show i = r.s.files.length by omega] at no4
      refine SW.sub (R' := [(r1, .ptr n 0), (r2, .ptr (n + 1) 0), (r3, u3), (r4, u4), (r6, .int .i64 (i : Int))]) (by simp [q1, q2, q3, q4, q6]) ?_
      have hnf := hr.nf
      repeat' (first | refine SO.loadV rfl rfl rfl hc1' rfl ?_ | refine SW.seq ?_ | refine SW.reg ?_ | refine SO.nil ?_ | refine SW.condF rfl ?_ | refine SW.exit rfl ?_ | refine SO.mov rfl rfl rfl ?_ | refine SO.fieldA rfl rfl rfl ?_ | refine SO.lenSl rfl rfl rfl (by assumption) ?_ | refine SO.lssF rfl rfl rfl rfl (by omega) ?_)
      exact done h2 n2 u3 u4 fo3 fo4 ys xs hc1' hc2' (by have := hG.le; omega) (hE1.trans hG) (ho3.keep hG.le fun b _ hb0 => hG.same b hb0) ho4 (fun y hy => (ok3 y hy).ext hG) ok4 fit3 fit4 en3 en4 no3 no4 _ rfl rfl rfl rfl
    | succ k ih =>
      intro i h2 n2 u4 fo4 xs hi ho4 hfo hG ok4 fit4 en4 no4 hxl R q1 q2 q3 q4 q6
      have hi' : i < r.s.files.length := by omega
      have hc1' : hb h2 n = some (.cell (srC r) 33 false) := by rw [hG.same n (by omega)]; exact hc1
      have hff := hf.ext (hE1.trans hG)
      have hnf := hr.nf
      have hm := hr.files r.s.files[i] (List.getElem_mem hi')
      have lG := hG.le
      refine SW.sub (R' := [(r1, .ptr n 0), (r2, .ptr (n + 1) 0), (r3, u3), (r4, u4), (r6, .int .i64 (i : Int))]) (by simp [q1, q2, q3, q4, q6]) ?_
      repeat' (first | refine SO.loadV rfl rfl rfl hc1' rfl ?_ | refine SO.idxOf (fun _ => rfl) rfl rfl rfl rfl hff hi' (fun a o hp => ?_) | refine SO.loadA rfl rfl rfl (by assumption) (Gr.refl _ _) rfl ?_ | refine SO.alloc rfl rfl (fun h3 hc3 hE3 => ?_) | refine SO.storeAll rfl rfl rfl hc3 rfl rfl (fun h4 hc4 hk4 => ?_) | refine SW.seq ?_ | refine SW.block ?_ | refine SW.reg ?_ | refine SO.nil ?_ | refine SW.skip ?_ | refine SW.condT rfl ?_ | refine SO.mov rfl rfl rfl ?_ | refine SO.fieldA rfl rfl rfl ?_ | refine SO.lenSl rfl rfl rfl (by assumption) ?_ | refine SO.lssT rfl rfl rfl rfl (by omega) ?_)
      have htake : (r.s.files.take (i + 1)).flatMap encFile = (r.s.files.take i).flatMap encFile ++ encFile r.s.files[i] := by rw [List.take_succ_eq_append_getElem hi', List.flatMap_append]; simp
      generalize r.s.files[i] = x at *
      have hE4 : Gr h2 n2 h4 (n2 + 1) := hE3.keep (Nat.le_refl _) hk4
      repeat' (first | refine SO.loadV rfl rfl rfl hc4 rfl ?_ | (refine SW.drawG ?_; simp only [gOps, gRc, gTail]) | refine SO.mov rfl rfl rfl ?_ | refine SO.fieldA rfl rfl rfl ?_)
      refine SO.callG rfl rfl rfl (atom31 x.path) ?_
      rintro _ h5 n5 ⟨rfl, hE5⟩
      have l5 := hE5.le
      have hc5 : hb h5 n2 = some (.cell (pfC x) 36 false) := by rw [hE5.same n2 (by omega)]; exact hc4
      refine SO.more (Still.loadV (c := ⟨none, none, [], .mov⟩) rfl rfl rfl hc5 rfl (Still.loadV (c := ⟨none, none, [], .mov⟩) rfl rfl rfl hc5 rfl (Still.loadV (c := ⟨none, none, [], .mov⟩) rfl rfl rfl hc5 rfl Still.nil))) ?_
      simp only [gOps, gRc, gTail]
      have hfn := number29 (h := h5) (n := n5) x.type.toNat (by omega)
      rw [Int.toNat_of_nonneg hm.1] at hfn
      refine SO.callG rfl rfl rfl hfn ?_
      rintro _ h6 n6 ⟨rfl, hE6⟩
      have l6 := hE6.le
      have hc6 : hb h6 n2 = some (.cell (pfC x) 36 false) := by rw [hE6.same n2 (by omega)]; exact hc5
      refine SO.more (Still.loadV (c := ⟨none, none, [], .mov⟩) rfl rfl rfl hc6 rfl (Still.loadV (c := ⟨none, none, [], .mov⟩) rfl rfl rfl hc6 rfl Still.nil)) ?_
      simp only [gOps, gRc, gTail]
      have hfn := number29 (h := h6) (n := n6) x.mode.toNat (by omega)
      rw [Int.toNat_of_nonneg hm.2.2.1] at hfn
      refine SO.callG rfl rfl rfl hfn ?_
      rintro _ h7 n7 ⟨rfl, hE7⟩
      have l7 := hE7.le
      have hc7 : hb h7 n2 = some (.cell (pfC x) 36 false) := by rw [hE7.same n2 (by omega)]; exact hc6
      refine SO.more (Still.loadV (c := ⟨none, none, [], .mov⟩) rfl rfl rfl hc7 rfl Still.nil) ?_
      simp only [gOps, gRc, gTail]
      refine SO.callG rfl rfl rfl (atom31 x.data) ?_
      rintro _ h8 n8 ⟨rfl, hE8⟩
      have l8 := hE8.le
      refine SO.bslice rfl rfl rfl (fun k => rfl) (fun h9 hc9 hE9 => ?_)
      have hc9' : hb h9 n2 = some (.cell (pfC x) 36 false) := by rw [hE9.same n2 (by omega), hE8.same n2 (by omega)]; exact hc7
      refine SO.more (Still.loadV (c := ⟨none, none, [], .mov⟩) rfl rfl rfl hc9' rfl (Still.loadV (c := ⟨none, none, [], .mov⟩) rfl rfl rfl hc9' rfl (Still.loadV (c := ⟨none, none, [], .mov⟩) rfl rfl rfl hc9' rfl (Still.loadV (c := ⟨none, none, [], .mov⟩) rfl rfl rfl hc9' rfl Still.nil)))) ?_
      simp only [gOps, gRc, gTail]
      have hs9 : ∀ (g : Hp) (m : Nat), n8 < m → hb g n8 = hb h9 n8 → Sl g m 3 (.slc n8 0 4 4) [XR.atom x.path, .atom (decN x.type.toNat), .atom (decN x.mode.toNat), .atom x.data].length ([XR.atom x.path, .atom (decN x.type.toNat), .atom (decN x.mode.toNat), .atom x.data].flatMap xC) := fun g m hm' hg => ⟨rfl, .inr ⟨n8, 0, 4, _, .inl ⟨rfl, Nat.le_refl _⟩, ⟨hm', .inl ⟨_, _, by rw [hg]; exact hc9⟩⟩, by simp, rfl⟩⟩
      refine SO.callG rfl rfl rfl (list30 (hs9 h9 (n8 + 1) (by omega) rfl)) ?_
      rintro _ ha na ⟨rfl, hEa⟩
      have la := hEa.le
      refine SO.bslice rfl rfl rfl (fun k => rfl) (fun hB hcB hEB => ?_)
      have hGB : Gr h2 n2 hB (na + 1) := (((((((hE4.trans hE5).trans hE6).trans hE7).trans hE8).trans hE9).trans hEa).trans hEB)
      have hcB' : hb hB n2 = some (.cell (pfC x) 36 false) := by rw [hEB.same n2 (by omega), hEa.same n2 (by omega)]; exact hc9'
      refine SO.more (Still.loadV (c := ⟨none, none, [], .mov⟩) rfl rfl rfl hcB' rfl (Still.loadV (c := ⟨none, none, [], .mov⟩) rfl rfl rfl hcB' rfl (Still.loadV (c := ⟨none, none, [], .mov⟩) rfl rfl rfl hcB' rfl (Still.loadV (c := ⟨none, none, [], .mov⟩) rfl rfl rfl hcB' rfl Still.nil)))) ?_
      simp only [gOps, gRc, gTail]
      have hoB : Own hB (n + 2) (na + 1) 3 51 u4 fo4 (xs.flatMap xC) := ho4.keep hGB.le fun b _ hb0 => hGB.same b hb0
      have hx : Sl hB (na + 1) 3 (.slc na 0 1 1) 1 (xC (.list (.slc n8 0 4 4) [XR.atom x.path, .atom (decN x.type.toNat), .atom (decN x.mode.toNat), .atom x.data])) := ⟨rfl, .inr ⟨na, 0, 1, _, .inl ⟨rfl, Nat.le_refl _⟩, ⟨by omega, .inl ⟨_, _, hcB⟩⟩, by simp, rfl⟩⟩
      refine SO.append rfl rfl rfl rfl (by decide) (by decide) hoB (by have := hGB.le; omega) hx (by rw [flatMap_length xC_length]; simp [xC]; omega) fun v' fo' hC nC hoC hnC hkC hfC => ?_
      repeat' (first | refine SW.reg ?_ | refine SO.nil ?_ | refine SO.nilD ?_ | refine SW.out ?_ | refine SO.mov rfl rfl rfl ?_ | refine SO.add rfl rfl rfl rfl (by omega) ?_)
      refine SW.again ?_
      have hG1 : Gr h1 n1 hC nC := gr_append (hG.trans hGB) hfo hnC hkC
      have hrob : Rob (n + 2) hB (na + 1) (.list (.slc n8 0 4 4) [XR.atom x.path, .atom (decN x.type.toNat), .atom (decN x.mode.toNat), .atom x.data]) := by
        intro g m hm' hg
        refine .list _ _ (hs9 g m (by omega) ?_) ?_
        · have h10 : hb hB n8 = hb h9 n8 := by rw [hEB.same n8 (by omega), hEa.same n8 (by omega)]
          rw [hc9] at h10 ⊢
          exact hg n8 _ _ (by omega) (by omega) h10
        · intro y hy
          simp only [List.mem_cons, List.not_mem_nil, or_false] at hy
          rcases hy with rfl | rfl | rfl | rfl <;> exact .atom _
      refine ih (i + 1) hC nC v' fo' (xs ++ [.list (.slc n8 0 4 4) [XR.atom x.path, .atom (decN x.type.toNat), .atom (decN x.mode.toNat), .atom x.data]]) (by omega) ?_ (fo_append hfo (by omega) hfC) hG1 ?_ ?_ ?_ ?_ ?_ _ rfl rfl rfl rfl rfl
      · rw [List.flatMap_append]; simpa using hoC
      · intro y hy
        rcases List.mem_append.1 hy with hy | hy
        · exact ((ok4 y hy).ext hGB).append hoB hnC hkC
        · simp at hy; subst hy; exact hrob.append hoB hnC hkC
      · intro y hy
        rcases List.mem_append.1 hy with hy | hy
        · exact fit4 y hy
        · simp at hy; subst hy
          refine .list 1 _ _ fun z hz => ?_
          simp only [List.mem_cons, List.not_mem_nil, or_false] at hz
          rcases hz with rfl | rfl | rfl | rfl
          · exact .atom _ _ (by omega)
          · exact fit_dec _ _ (by omega)
          · exact fit_dec _ _ (by omega)
          · exact .atom _ _ (by omega)
      · rw [encs_append, en4, htake]
        simp only [XR.encs, XR.enc, List.append_nil, encFile, encA, encL]
      · rw [nodess_append, no4]; simp [XR.nodess, XR.nodes]; omega
      · simp [hxl]
  have loop1 : ∀ (h0 : Hp), hb h0 n = some (.cell (srC r) 33 false) → hb h0 (n + 1) = some (.cell [.bool false, strOf [], .nils] 51 false) → hb h0 (n + 3) = some (.cell [] 51 false) → Gr h n h0 (n + 4) →
      ∀ (k i : Nat) (h2 : Hp) (n2 : Nat) (u3 : AV) (fo3 : Option Nat) (ys : List XR), i + k = r.s.parents.length → Own h2 (n + 2) n2 3 51 u3 fo3 (ys.flatMap xC) → (∀ f', fo3 = some f' → n + 4 ≤ f') → Gr h0 (n + 4) h2 n2 → (∀ y ∈ ys, Rob (n + 2) h2 n2 y) → (∀ y ∈ ys, XFit 2 y) → XR.encs ys = (r.s.parents.take i).flatMap (fun p => encA (decN p.toNat)) → XR.nodess ys = i → ys.length = i →
      ∀ R, look R r1 = some (.ptr n 0) → look R r2 = some (.ptr (n + 1) 0) → look R r3 = some u3 → look R r4 = some (.slc (n + 3) 0 0 0) → look R r5 = some (.int .i64 (i : Int)) → SW E Q 17 R [.code c17x6, .inLoop c17x6, .inBlock 0, .code (.seq (.seq (.reg c17x7) (.block 2 (.loop c17x12))) (.seq (.draw c17x13) .ret))] cs h2 n2 := by
    intro h0 hc1 hc2 hc3 hE0 k
    induction k with
    | zero =>
      intro i h2 n2 u3 fo3 ys hi ho3 hfo hG ok3 fit3 en3 no3 hyl R q1 q2 q3 q4 q5
      have lG := hG.le
      have hc1' : hb h2 n = some (.cell (srC r) 33 false) := by rw [hG.same n (by omega)]; exact hc1
      have hc2' : hb h2 (n + 1) = some (.cell [.bool false, strOf [], .nils] 51 false) := by rw [hG.same (n + 1) (by omega)]; exact hc2
      have hc3' : hb h2 (n + 3) = some (.cell [] 51 false) := by rw [hG.same (n + 3) (by omega)]; exact hc3
      have hpp := hp.ext (hE0.trans hG)
      rw [show i = r.s.parents.length by omega, List.take_length] at en3
      rw [show i = r.s.parents.length by omega] at no3
      refine SW.sub (R' := [(r1, .ptr n 0), (r2, .ptr (n + 1) 0), (r3, u3), (r4, .slc (n + 3) 0 0 0), (r5, .int .i64 (i : Int))]) (by simp [q1, q2, q3, q4, q5]) ?_
      have hnp := hr.np
      repeat' (first | refine SO.loadV rfl rfl rfl hc1' rfl ?_ | refine SW.seq ?_ | refine SW.block ?_ | refine SW.reg ?_ | refine SO.nil ?_ | refine SW.condF rfl ?_ | refine SW.exit rfl ?_ | refine SO.mov rfl rfl rfl ?_ | refine SO.fieldA rfl rfl rfl ?_ | refine SO.lenSl rfl rfl rfl (by assumption) ?_ | refine SO.lssF rfl rfl rfl rfl (by omega) ?_)
      refine SW.loop ?_
      exact loop2 h2 n2 u3 fo3 ys hc1' hc2' lG (hE0.trans hG) ho3 ok3 fit3 en3 no3 r.s.files.length 0 h2 n2 _ none [] (by omega) (.inr (.inl ⟨n + 3, 0, 51, rfl, rfl, by omega, by omega, hc3', rfl⟩)) (by simp) (Gr.refl _ _) (by simp) (by simp) rfl rfl rfl _ rfl rfl rfl rfl rfl
    | succ k ih =>
      intro i h2 n2 u3 fo3 ys hi ho3 hfo hG ok3 fit3 en3 no3 hyl R q1 q2 q3 q4 q5
      have lG := hG.le
      have hi' : i < r.s.parents.length := by omega
      have hc1' : hb h2 n = some (.cell (srC r) 33 false) := by rw [hG.same n (by omega)]; exact hc1
      have hpp := hp.ext (hE0.trans hG)
      have hnp := hr.np
      have hm := hr.parents r.s.parents[i] (List.getElem_mem hi')
      refine SW.sub (R' := [(r1, .ptr n 0), (r2, .ptr (n + 1) 0), (r3, u3), (r4, .slc (n + 3) 0 0 0), (r5, .int .i64 (i : Int))]) (by simp [q1, q2, q3, q4, q5]) ?_
      repeat' (first | refine SO.loadV rfl rfl rfl hc1' rfl ?_ | refine SO.idxOf (fun _ => rfl) rfl rfl rfl rfl hpp hi' (fun a o hp => ?_) | refine SO.load0 rfl rfl rfl (by assumption) (Gr.refl _ _) ?_ | refine SW.seq ?_ | refine SW.block ?_ | refine SW.reg ?_ | refine SO.nil ?_ | refine SW.skip ?_ | refine SW.condT rfl ?_ | refine SO.mov rfl rfl rfl ?_ | refine SO.fieldA rfl rfl rfl ?_ | refine SO.lenSl rfl rfl rfl (by assumption) ?_ | refine SO.lssT rfl rfl rfl rfl (by omega) ?_)
      have htake : (r.s.parents.take (i + 1)).flatMap (fun p => encA (decN p.toNat)) = (r.s.parents.take i).flatMap (fun p => encA (decN p.toNat)) ++ encA (decN r.s.parents[i].toNat) := by rw [List.take_succ_eq_append_getElem hi', List.flatMap_append]; simp
      have hfn := number29 (h := h2) (n := n2) r.s.parents[i].toNat (by omega)
      rw [Int.toNat_of_nonneg hm.1] at hfn
      refine SO.callG rfl rfl rfl hfn ?_
      rintro _ h3 n3 ⟨rfl, hE3⟩
      have l3 := hE3.le
      refine SO.bslice rfl rfl rfl (fun k => rfl) (fun hB hcB hEB => ?_)
      have hGB : Gr h2 n2 hB (n3 + 1) := hE3.trans hEB
      have hoB : Own hB (n + 2) (n3 + 1) 3 51 u3 fo3 (ys.flatMap xC) := ho3.keep hGB.le fun b _ hb0 => hGB.same b hb0
      have hx : Sl hB (n3 + 1) 3 (.slc n3 0 1 1) 1 (xC (.atom (decN r.s.parents[i].toNat))) := ⟨rfl, .inr ⟨n3, 0, 1, _, .inl ⟨rfl, Nat.le_refl _⟩, ⟨by omega, .inl ⟨_, _, hcB⟩⟩, by simp, rfl⟩⟩
      refine SO.append rfl rfl rfl rfl (by decide) (by decide) hoB (by have := hGB.le; omega) hx (by rw [flatMap_length xC_length]; simp [xC]; omega) fun v' fo' hC nC hoC hnC hkC hfC => ?_
      repeat' (first | refine SW.reg ?_ | refine SO.nil ?_ | refine SW.out ?_ | refine SO.mov rfl rfl rfl ?_ | refine SO.add rfl rfl rfl rfl (by omega) ?_)
      refine SW.again ?_
      refine ih (i + 1) hC nC v' fo' (ys ++ [.atom (decN r.s.parents[i].toNat)]) (by omega) ?_ (fo_append hfo (by omega) hfC) (gr_append (hG.trans hGB) hfo hnC hkC) ?_ ?_ ?_ ?_ ?_ _ rfl rfl rfl rfl rfl
      · rw [List.flatMap_append]; simpa using hoC
      · intro y hy
        rcases List.mem_append.1 hy with hy | hy
        · exact ((ok3 y hy).ext hGB).append hoB hnC hkC
        · simp at hy; subst hy; exact .atom _ _ _ _
      · intro y hy
        rcases List.mem_append.1 hy with hy | hy
        · exact fit3 y hy
        · simp at hy; subst hy; exact fit_dec _ _ (by omega)
      · rw [encs_append, en3, htake]
        simp only [XR.encs, XR.enc, List.append_nil, encA]
      · rw [nodess_append, no3]; simp [XR.nodess, XR.nodes]
      · simp [hyl]
  repeat' (first | refine SO.box rfl rfl rfl (by simp) (fun h1 hc1 hE1 => ?_) | refine SO.alloc rfl rfl (fun h2 hc2 hE2 => ?_) | refine SW.seq ?_ | refine SW.reg ?_ | refine SO.nil ?_)
  refine SO.bslice rfl rfl rfl (fun k => rfl) (fun h3 hc3 hE3 => ?_)
  refine SO.bslice rfl rfl rfl (fun k => rfl) (fun h4 hc4 hE4 => ?_)
  have k1 : hb h4 n = some (.cell (srC r) 33 false) := by rw [hE4.same n (by omega), hE3.same n (by omega), hE2.same n (by omega)]; exact hc1
  have k2 : hb h4 (n + 1) = some (.cell [.bool false, strOf [], .nils] 51 false) := by rw [hE4.same (n + 1) (by omega), hE3.same (n + 1) (by omega)]; exact hc2
  have k3 : hb h4 (n + 2) = some (.cell [] 51 false) := by rw [hE4.same (n + 2) (by omega)]; exact hc3
  repeat' (first | refine SW.seq ?_ | refine SW.block ?_ | refine SW.reg ?_ | refine SO.nil ?_ | refine SO.mov rfl rfl rfl ?_)
  refine SW.loop ?_
  exact loop1 h4 k1 k2 hc4 (((hE1.trans hE2).trans hE3).trans hE4) r.s.parents.length 0 h4 (n + 4) _ none [] (by omega) (.inr (.inl ⟨n + 2, 0, 51, rfl, rfl, by omega, Nat.le_refl _, k3, rfl⟩)) (by simp) (Gr.refl _ _) (by simp) (by simp) rfl rfl rfl _ rfl rfl rfl rfl rfl
end Go.Ev
