/- Contracts: quiltref04.parts, Split, IsText; quiltref12.content, file, home. -/
import Derived.Test.YtognadjclbihgaaGreatDoorE6
import Derived.Test.YtognadjclbihgaaGreatDoorFA
set_option linter.all false
namespace Go.Ev
set_option maxRecDepth 100000
set_option maxHeartbeats 4000000
abbrev strC (bs:List UInt8):List AV:=[strOf bs]
def partsGo (cur:List UInt8):List UInt8->List (List UInt8)
 | []=>[]
 | c::r=>if c=10 then cur::partsGo [] r else partsGo (cur++[c]) r
def partsOf (bs:List UInt8):List (List UInt8):=partsGo [] bs
theorem partsGo_length (bs:List UInt8):∀ cur,(partsGo cur bs).length<=bs.length:=by
 induction bs with
 | nil=>intro cur;simp [partsGo]
 | cons c r ih =>
  intro cur
  simp only [partsGo]
  split
  ·have:=ih [];simp;omega
  ·have:=ih (cur++[c]);simp;omega
theorem parts478 {h:Hp} {n:Nat} (bs:List UInt8) (hl:bs.length<=1000000):Fn E 510 [strOf bs] h n fun r h' n'=>Sl h' n' 1 r (partsOf bs).length ((partsOf bs).flatMap strC)/\Gr h n h' n':=by
 refine Fn.of code510 (by decide) rfl fun Q cs hq=>?_
 show SW E Q 510 [(r0,strOf bs)] _ _ _ _
 have loop:∀ (k i fr:Nat) (done:List (List UInt8)) (v:AV) (fo:Option Nat) (h1:Hp) (n1:Nat),i+k=bs.length->fr<=i->done.length<=i->partsOf bs=done++partsGo (part bs fr i) (bs.drop i)->Own h1 n n1 1 9 v fo (done.flatMap strC)->Gr h n h1 n1 ->
   ∀ R,look R r0=some (strOf bs)->look R r3=some v->look R r4=some (.int .i64 fr)->look R r5=some (.int .i64 i)->SW E Q 510 R [.code c510x9,.inLoop c510x9,.inBlock 0,.code (.seq (.reg c510x10) .ret)] cs h1 n1:=by
  intro k
  induction k with
  | zero =>
   intro i fr done v fo h1 n1 hi hfr hdl hp ho hE R q0 q3 q4 q5
   refine SW.sub (R':=[(r0,strOf bs),(r3,v),(r4,.int .i64 fr),(r5,.int .i64 i)]) (by simp [q0,q3,q4,q5]) ?_
   repeat' first|refine SW.a rfl ?_|refine SW.reg ?_|refine SO.nil ?_|refine SO.a rfl ?_|refine SO.cF rfl (by omega) ?_|fail
   rw [List.drop_eq_nil_of_le (by omega),partsGo,List.append_nil] at hp
   refine SW.ret code510 ⟨v,rfl,hq _ _ _ ⟨?_,hE⟩⟩
   rw [hp]
   exact ho.sl (by rw [flatMap_length (esz:=1) (fun _=>rfl)]) (by decide)
  | succ k ih =>
   intro i fr done v fo h1 n1 hi hfr hdl hp ho hE R q0 q3 q4 q5
   have hi':i < bs.length:=by omega
   refine SW.sub (R':=[(r0,strOf bs),(r3,v),(r4,.int .i64 fr),(r5,.int .i64 i)]) (by simp [q0,q3,q4,q5]) ?_
   rw [List.drop_eq_getElem_cons hi'] at hp
   simp only [partsGo] at hp
   repeat' first|refine SO.bslice rfl rfl rfl (fun k=>rfl) (fun h2 hc2 hE2=>?_)|refine SW.a rfl ?_|refine SW.reg ?_|refine SO.nil ?_|refine SO.a rfl ?_|refine SO.idxStr rfl rfl rfl rfl (by omega) ?_|refine SO.cT rfl (by omega) ?_|refine SO.sliceTT rfl rfl rfl rfl rfl (by omega) (by omega) ?_|refine SO.add rfl rfl rfl rfl (by omega) ?_|refine SO.eqi rfl rfl rfl rfl (fun _=>?_) (fun _=>?_)
   ·rename_i heq
    have heq':bs[i]=10:=UInt8.toNat_inj.1 (by show bs[i].toNat=10;omega)
    rw [if_pos heq'] at hp
    have ho2:Own h2 n (n1+1) 1 9 v fo (done.flatMap strC):=ho.keep (by omega) fun b _ hb0=>hE2.same b hb0
    have hx:Sl h2 (n1+1) 1 (.slc n1 0 1 1) 1 (strC (part bs fr i)):=⟨rfl,.inr ⟨n1,0,1,strC (part bs fr i),.inl ⟨rfl,Nat.le_refl _⟩,⟨by omega,.inl ⟨_,_,hc2⟩⟩,by simp,rfl⟩⟩
    refine SO.append rfl rfl rfl rfl (by decide) (by decide) ho2 (by have:=hE.le;omega) hx (by rw [flatMap_length (esz:=1) (fun _=>rfl)];simp;omega) fun v' fo' h3 n3 ho3 hn3 hk3 hf3=>?_
    repeat' first|refine SW.a rfl ?_|refine SW.reg ?_|refine SO.nil ?_|refine SO.a rfl ?_|refine SO.add rfl rfl rfl rfl (by omega) ?_|fail
    refine SW.again ?_
    refine ih (i+1) (i+1) (done++[part bs fr i]) v' fo' h3 n3 (by omega) (Nat.le_refl _) (by simp;omega) ?_ ?_ ?_ _ rfl rfl rfl rfl
    ·rw [hp];simp [part]
    ·rw [List.flatMap_append];simpa using ho3
    ·refine⟨by have:=hE.le;omega,fun b hb0=>?_⟩
     have hbn:b < n1:=by have:=hE.le;omega
     rw [hk3 b (by omega) ?_,hE2.same b hbn,hE.same b hb0]
     intro e'
     rcases ho with ⟨_,_,rfl⟩ |⟨_,_,_,_,_,_,_,_,rfl⟩ |⟨_,_,_,_,_,_,_,_,hn',_,_,_,_,rfl⟩
     ·simp at e'
     ·simp at e'
     ·simp at e';omega
   ·rename_i hne
    have hne':bs[i]≠10:=fun e=>hne (by rw [e];rfl)
    rw [if_neg hne',<- part_snoc hfr hi'] at hp
    refine SW.again ?_
    exact ih (i+1) fr done v fo h1 n1 (by omega) (by omega) (by omega) hp ho hE _ rfl rfl rfl rfl
 repeat' first|refine SO.bslice rfl rfl rfl (fun k=>rfl) (fun h2 hc2 hE2=>?_)|refine SW.a rfl ?_|refine SW.reg ?_|refine SO.nil ?_|refine SO.a rfl ?_
 refine SW.loop ?_
 exact loop bs.length 0 0 [] _ none _ _ (by omega) (Nat.le_refl _) (Nat.le_refl _) (by simp [partsOf,part]) (.inr (.inl ⟨n,0,9,rfl,rfl,by omega,Nat.le_refl _,hc2,rfl⟩)) hE2 _ rfl rfl rfl rfl
def textOk (bs:List UInt8):Bool:=decide (bs.length<=65536)&&((bs.all fun c=>c != 0)&&((bs == []||bs.getLast? == some 10)&&(decide ((partsOf bs).length<=2000)&&(partsOf bs).all fun p=>decide (p.length<=1000))))
theorem split372 {h:Hp} {n:Nat} (bs:List UInt8) (hl:bs.length<=4000000000000000000):Fn E 400 [strOf bs] h n fun r h' n'=>(∃ v e,r=.tup [v,.int .i64 e]/\(e=0 ↔ textOk bs=true))/\Gr h n h' n':=by
 refine Fn.of code400 (by decide) rfl fun Q cs hq=>?_
 show SW E Q 400 [(r0,strOf bs)] _ _ _ _
 have hret:∀ (v:AV) (e:Int) (h1:Hp) (n1:Nat) (R:List (Path × AV)) (todo:List AItem),(e=0 ↔ textOk bs=true)->Gr h n h1 n1->look R r2=some v->look R r3=some (.int .i64 e)->SW E Q 400 R (.code .ret::todo) cs h1 n1:=fun v e h1 n1 R todo he hE h2 h3=>SW.ret code400 ⟨v,h2,_,h3,hq _ _ _ ⟨⟨v,e,rfl,he⟩,hE⟩⟩
 by_cases hlen:bs.length<=65536
 case neg =>
  repeat' first|refine SO.bslice rfl rfl rfl (fun k=>rfl) (fun h2 hc2 hE2=>?_)|refine SW.a rfl ?_|refine SW.reg ?_|refine SO.nil ?_|refine SO.a rfl ?_|refine SO.cT rfl (by omega) ?_|fail
  exact hret _ 4 _ _ _ _ (by simp [textOk,hlen]) hE2 rfl rfl
 repeat' first|refine SW.a rfl ?_|refine SW.reg ?_|refine SO.nil ?_|refine SO.a rfl ?_|refine SO.cF rfl (by omega) ?_|fail
 refine SO.callG rfl rfl rfl (clean477 bs 0 0 (by omega)) ?_
 rintro v h' n' ⟨rfl,rfl,rfl⟩
 have hzz:(bs.all fun c=>c != 0&&c != 0)=bs.all fun c=>c != 0:=by simp
 rw [hzz]
 cases hz:bs.all fun c=>c != 0 with
 | false =>
  repeat' first|refine SO.bslice rfl rfl rfl (fun k=>rfl) (fun h2 hc2 hE2=>?_)|refine SW.a rfl ?_|refine SW.reg ?_|refine SO.nil ?_|refine SO.a rfl ?_
  exact hret _ 3 _ _ _ _ (by simp [textOk,hz]) hE2 rfl rfl
 | true =>
  have hrest:(bs == []||bs.getLast? == some 10)=true->∀ R,look R r26=some (strOf bs)->SO E Q 400 .ops R [⟨some r27,none,[.r r26],.call 510⟩,⟨some r4,none,[.r r27],.mov⟩] [.code (.seq (.seq (.reg c400x6) (.cond (.r r30) (.seq (.reg c400x7) .ret) .skip)) (.seq (.seq (.reg c400x8) (.block 0 (.loop c400x13))) (.seq (.reg c400x14) .ret)))] cs h' n':=by
   intro hend R q0
   refine SO.forget (R':=[(r26,strOf bs)]) (by simp [q0]) ?_
   refine SO.callG rfl rfl rfl (parts478 bs (by omega)) ?_
   rintro v h1 n1 ⟨hs,hE⟩
   have hpl:(partsOf bs).length<=bs.length:=partsGo_length bs []
   have htx:textOk bs=(decide ((partsOf bs).length<=2000)&&(partsOf bs).all fun p=>decide (p.length<=1000)):=by
    unfold textOk
    rw [hz,hend,decide_eq_true hlen]
    simp only [Bool.true_and]
   by_cases hcnt:(partsOf bs).length<=2000
   case neg =>
    repeat' first|refine SO.bslice rfl rfl rfl (fun k=>rfl) (fun h2 hc2 hE2=>?_)|refine SW.a rfl ?_|refine SW.reg ?_|refine SO.nil ?_|refine SO.a rfl ?_|refine SO.lenSl rfl rfl rfl (by assumption) ?_|refine SO.cT rfl (by omega) ?_|fail
    exact hret _ 4 _ _ _ _ (by simp [htx,hcnt]) (hE.trans hE2) rfl rfl
   rw [decide_eq_true hcnt,Bool.true_and] at htx
   have loop:∀ (k i:Nat),i+k=(partsOf bs).length->(((partsOf bs).take i).all fun p=>decide (p.length<=1000))=true->∀ R,look R r4=some v->look R r5=some (.int .i64 i)->SW E Q 400 R [.code c400x13,.inLoop c400x13,.inBlock 0,.code (.seq (.reg c400x14) .ret)] cs h1 n1:=by
    intro k
    induction k with
    | zero =>
     intro i hi hall R q4 q5
     refine SW.sub (R':=[(r4,v),(r5,.int .i64 i)]) (by simp [q4,q5]) ?_
     repeat' first|refine SW.a rfl ?_|refine SW.reg ?_|refine SO.nil ?_|refine SO.a rfl ?_|refine SO.lenSl rfl rfl rfl (by assumption) ?_|refine SO.cF rfl (by omega) ?_|fail
     rw [show i=(partsOf bs).length by omega,List.take_length] at hall
     exact hret _ 0 _ _ _ _ (by simp [htx,hall]) hE rfl rfl
    | succ k ih =>
     intro i hi hall R q4 q5
     have hi':i <(partsOf bs).length:=by omega
     refine SW.sub (R':=[(r4,v),(r5,.int .i64 i)]) (by simp [q4,q5]) ?_
     repeat' first|refine SO.idxOf (fun _=>rfl) rfl rfl rfl rfl hs hi' (fun a o hp=>?_)|refine SO.load0 rfl rfl rfl (by assumption) (Gr.refl _ _) ?_|refine SO.bslice rfl rfl rfl (fun k=>rfl) (fun h2 hc2 hE2=>?_)|refine SW.a rfl ?_|refine SW.reg ?_|refine SO.nil ?_|refine SO.a rfl ?_|refine SO.lenSl rfl rfl rfl (by assumption) ?_|refine SO.cT rfl (by omega) ?_|refine SO.add rfl rfl rfl rfl (by omega) ?_|refine SO.gtr rfl rfl rfl rfl (fun _=>?_) (fun _=>?_)
     ·rename_i hgt
      refine hret _ 4 _ _ _ _ ?_ (hE.trans hE2) rfl rfl
      have:((partsOf bs).all fun p=>decide (p.length<=1000))=false:=List.all_eq_false.2 ⟨_,List.getElem_mem hi',by simp;omega⟩
      simp [htx,this]
     ·rename_i hle
      refine SW.again ?_
      refine ih (i+1) (by omega) ?_ _ rfl rfl
      rw [List.take_succ_eq_append_getElem hi',List.all_append,hall]
      simp;omega
   repeat' first|refine SW.a rfl ?_|refine SW.reg ?_|refine SO.nil ?_|refine SO.a rfl ?_|refine SO.lenSl rfl rfl rfl (by assumption) ?_|refine SO.cF rfl (by omega) ?_|fail
   refine SW.loop ?_
   exact loop (partsOf bs).length 0 (by omega) (by simp) _ rfl rfl
  by_cases hnil:bs=[]
  ·repeat' first|refine SO.strNe rfl rfl rfl rfl (fun hne=>absurd hnil hne) (fun _=>?_)|refine SW.a rfl ?_|refine SW.reg ?_|refine SO.nil ?_|refine SO.a rfl ?_
   exact hrest (by simp [hnil]) _ rfl
  ·have hpos:0 < bs.length:=List.length_pos_iff.2 hnil
   have hlast:bs.getLast?=some (bs[bs.length - 1]'(by omega)):=by rw [List.getLast?_eq_getElem?,List.getElem?_eq_getElem (by omega)]
   repeat' first|refine SO.strNe rfl rfl rfl rfl (fun _=>?_) (fun he=>absurd he hnil)|refine SO.idxStrAt (bs.length - 1) rfl rfl rfl rfl (by omega) (by omega) ?_|refine SO.bslice rfl rfl rfl (fun k=>rfl) (fun h2 hc2 hE2=>?_)|refine SW.a rfl ?_|refine SW.reg ?_|refine SO.nil ?_|refine SO.a rfl ?_|refine SO.sub rfl rfl rfl rfl (by omega) ?_|refine SO.nei rfl rfl rfl rfl (fun _=>?_) (fun _=>?_)
   ·rename_i hne
    refine hret _ 3 _ _ _ _ ?_ hE2 rfl rfl
    have hn1:(bs == [])=false:=by simpa using hnil
    have hn2:(bs.getLast? == some 10)=false:=by
     rw [hlast]
     simp only [beq_eq_false_iff_ne,ne_eq,Option.some.injEq]
     intro e
     exact hne (by rw [e];rfl)
    have:textOk bs=false:=by unfold textOk;rw [hn1,hn2];simp
    simp [this]
   ·rename_i heq
    refine hrest ?_ _ rfl
    have:bs[bs.length - 1]'(by omega)=10:=UInt8.toNat_inj.1 (by show _=10;omega)
    rw [hlast,this];simp
theorem isText265 {h:Hp} {n:Nat} (bs:List UInt8) (hl:bs.length<=4000000000000000000):Fn E 289 [strOf bs] h n fun r h' n'=>r=.bool (textOk bs)/\Gr h n h' n':=by
 refine Fn.of code289 (by decide) rfl fun Q cs hq=>?_
 show SW E Q 289 [(r0,strOf bs)] _ _ _ _
 repeat' first|refine SW.a rfl ?_|refine SW.reg ?_|refine SO.nil ?_|refine SO.a rfl ?_
 refine SO.callG rfl rfl rfl (split372 bs hl) ?_
 rintro _ h1 n1 ⟨⟨v,e,rfl,he⟩,hE⟩
 repeat' first|refine SW.a rfl ?_|refine SW.reg ?_|refine SO.nil ?_|refine SO.a rfl ?_|refine SO.eqi rfl rfl rfl rfl (fun _=>?_) (fun _=>?_)
 ·rename_i h0
  exact SW.ret code289 ⟨_,rfl,hq _ _ _ ⟨by rw [he.1 h0];rfl,hE⟩⟩
 ·rename_i h0
  have:textOk bs=false:=by cases ht:textOk bs;rfl;exact absurd (he.2 ht) h0
  exact SW.ret code289 ⟨_,rfl,hq _ _ _ ⟨by rw [this];rfl,hE⟩⟩
def contentE (kind:Int) (data:List UInt8):Int:=if 65536 < data.length then 4 else if kind=1/\textOk data=false then 3 else 0
theorem content181 {h:Hp} {n:Nat} (kind:Int) (bs:List UInt8) (hl:bs.length<=4000000000000000000):Fn E 201 [.int .i64 kind,strOf bs] h n fun r h' n'=>r=.int .i64 (contentE kind bs)/\Gr h n h' n':=by
 refine Fn.of code201 (by decide) rfl fun Q cs hq=>?_
 show SW E Q 201 [(r0,.int .i64 kind),(r1,strOf bs)] _ _ _ _
 have hret:∀ (e:Int) (h1:Hp) (n1:Nat) (R:List (Path × AV)) (todo:List AItem),e=contentE kind bs->Gr h n h1 n1->look R r4=some (.int .i64 e)->SW E Q 201 R (.code .ret::todo) cs h1 n1:=fun e h1 n1 R todo he hE h4=>SW.ret code201 ⟨_,h4,hq _ _ _ ⟨by rw [he];rfl,hE⟩⟩
 by_cases hlen:65536 < bs.length
 ·repeat' first|refine SW.a rfl ?_|refine SW.reg ?_|refine SO.nil ?_|refine SO.a rfl ?_|refine SO.cT rfl (by omega) ?_|fail
  exact hret 4 _ _ _ _ (by simp [contentE,hlen]) (Gr.refl _ _) rfl
 by_cases hk:kind=1
 ·repeat' first|refine SW.a rfl ?_|refine SW.reg ?_|refine SO.nil ?_|refine SO.a rfl ?_|refine SO.cT rfl (by omega) ?_|refine SO.cF rfl (by omega) ?_|fail
  refine SO.callG rfl rfl rfl (isText265 bs hl) ?_
  rintro _ h1 n1 ⟨rfl,hE⟩
  cases ht:textOk bs with
  | true =>
   repeat' first|refine SW.a rfl ?_|refine SW.reg ?_|refine SO.nil ?_|refine SO.a rfl ?_
   exact hret 0 _ _ _ _ (by simp [contentE,hlen,ht]) hE rfl
  | false =>
   repeat' first|refine SW.a rfl ?_|refine SW.reg ?_|refine SO.nil ?_|refine SO.a rfl ?_
   exact hret 3 _ _ _ _ (by simp [contentE,hlen,hk,ht]) hE rfl
 ·repeat' first|refine SW.a rfl ?_|refine SW.reg ?_|refine SO.nil ?_|refine SO.a rfl ?_|refine SO.cF rfl (by omega) ?_|fail
  exact hret 0 _ _ _ _ (by simp [contentE,hlen,hk]) (Gr.refl _ _) rfl
def fileE (f:PF):Int:=if pathOk f.path=false then 5 else if f.type < 1\/4 < f.type then 8 else if f.mode < 0\/511 < f.mode then 2 else if f.type=4/\(f.mode≠0\/f.data≠[]) then 1 else contentE f.type f.data
theorem file104 {h:Hp} {n:Nat} (x:PF) (hl:x.path.length<=4000000000000000000) (hl':x.data.length<=4000000000000000000):Fn E 119 [.agg (pfC x)] h n fun r h' n'=>r=.int .i64 (fileE x)/\Gr h n h' n':=by
 refine Fn.of code119 (by decide) rfl fun Q cs hq=>?_
 show SW E Q 119 [(r0,.agg (pfC x))] _ _ _ _
 have hret:∀ (e:Int) (h1:Hp) (n1:Nat) (R:List (Path × AV)) (todo:List AItem),e=fileE x->Gr h n h1 n1->look R r2=some (.int .i64 e)->SW E Q 119 R (.code .ret::todo) cs h1 n1:=fun e h1 n1 R todo he hE h2=>SW.ret code119 ⟨_,h2,hq _ _ _ ⟨by rw [he];rfl,hE⟩⟩
 repeat' first|refine SO.box rfl rfl rfl (by simp) (fun h1 hc hE=>?_)|refine SO.loadV rfl rfl rfl (by assumption) rfl ?_|refine SW.a rfl ?_|refine SW.reg ?_|refine SO.nil ?_|refine SO.a rfl ?_
 refine SO.callG rfl rfl rfl (path180 x.path hl) ?_
 rintro _ h1 n1 ⟨rfl,rfl,rfl⟩
 cases hp:pathOk x.path with
 | false =>
  repeat' first|refine SW.a rfl ?_|refine SW.reg ?_|refine SO.nil ?_|refine SO.a rfl ?_
  exact hret 5 _ _ _ _ (by simp [fileE,hp]) hE rfl
 | true =>
  repeat' first|refine SO.loadV rfl rfl rfl (by assumption) rfl ?_|refine SW.a rfl ?_|refine SW.reg ?_|refine SO.nil ?_|refine SO.a rfl ?_|refine SO.lss rfl rfl rfl rfl (fun _=>?_) (fun _=>?_)|refine SO.gtr rfl rfl rfl rfl (fun _=>?_) (fun _=>?_)|refine SO.eqi rfl rfl rfl rfl (fun _=>?_) (fun _=>?_)|refine SO.nei rfl rfl rfl rfl (fun _=>?_) (fun _=>?_)|refine SO.strNe rfl rfl rfl rfl (fun _=>?_) (fun _=>?_)
  all_goals first
   |(refine hret _ _ _ _ _ ?_ hE rfl;simp only [fileE,hp];simp;omega)
   | skip
  ·rename_i h1' h2' h3' h4' h5' h6' h7'
   refine hret 1 _ _ _ _ ?_ hE rfl
   simp only [fileE,hp]
   simp [h5',h6',h7']
  all_goals
   refine SO.callG rfl rfl rfl (content181 x.type x.data hl') ?_
   rintro _ h2 n2 ⟨rfl,hE2⟩
   repeat' first|refine SO.nil ?_|refine SO.a rfl ?_
   refine hret _ _ _ _ _ ?_ (hE.trans hE2) rfl
  ·rename_i h1' h2' h3' h4' h5' h6' h7'
   simp only [fileE,hp]
   simp [h5',h6',h7']
  ·rename_i h1' h2' h3' h4' h5'
   simp only [fileE,hp]
   simp [h5']
   omega
def homeE (fs:List PF) (path:List UInt8):Int:=if parentOf path=[] then 0 else match findF fs (parentOf path) with
 | none=>7
 | some f=>if f.type=4 then 0 else 8
theorem home105 {h:Hp} {n:Nat} {v:AV} {fs:List PF} (path:List UInt8) (hs:Sl h n 4 v fs.length (fs.flatMap pfC)) (hl:fs.length<=4000000000000000000) (hl':path.length<=4000000000000000000) :
  Fn E 120 [v,strOf path] h n fun r h' n'=>r=.int .i64 (homeE fs path)/\Gr h n h' n':=by
 refine Fn.of code120 (by decide) rfl fun Q cs hq=>?_
 show SW E Q 120 [(r0,v),(r1,strOf path)] _ _ _ _
 have hret:∀ (e:Int) (h1:Hp) (n1:Nat) (R:List (Path × AV)) (todo:List AItem),e=homeE fs path->Gr h n h1 n1->look R r4=some (.int .i64 e)->SW E Q 120 R (.code .ret::todo) cs h1 n1:=fun e h1 n1 R todo he hE h2=>SW.ret code120 ⟨_,h2,hq _ _ _ ⟨by rw [he];rfl,hE⟩⟩
 repeat' first|refine SW.a rfl ?_|refine SW.reg ?_|refine SO.nil ?_|refine SO.a rfl ?_
 refine SO.callG rfl rfl rfl (parent182 path hl') ?_
 rintro _ h1 n1 ⟨rfl,rfl,rfl⟩
 by_cases hp:parentOf path=[]
 ·repeat' first|refine SO.strEq rfl rfl rfl rfl (fun _=>?_) (fun hne=>absurd hp hne)|refine SW.a rfl ?_|refine SW.reg ?_|refine SO.nil ?_|refine SO.a rfl ?_
  exact hret 0 _ _ _ _ (by simp [homeE,hp]) (Gr.refl _ _) rfl
 ·repeat' first|refine SO.strEq rfl rfl rfl rfl (fun he=>absurd he hp) (fun _=>?_)|refine SW.a rfl ?_|refine SW.reg ?_|refine SO.nil ?_|refine SO.a rfl ?_
  refine SO.callG rfl rfl rfl (parent182 path hl') ?_
  rintro _ h1 n1 ⟨rfl,rfl,rfl⟩
  refine SO.callG rfl rfl rfl (find183 (parentOf path) hs hl) ?_
  rintro r h2 n2 ⟨hr,hE⟩
  cases hfd:findF fs (parentOf path) with
  | none =>
   rw [hfd] at hr
   simp only at hr
   subst hr
   repeat' first|refine SO.alloc rfl rfl (fun h3 hc3 hE3=>?_)|refine SO.storeAll rfl rfl rfl hc3 rfl rfl (fun h4 hc4 hk4=>?_)|refine SW.a rfl ?_|refine SW.reg ?_|refine SO.nil ?_|refine SO.a rfl ?_
   exact hret 7 _ _ _ _ (by simp [homeE,hp,hfd]) ((hE.trans hE3).keep (by have:=hE.le;omega) hk4) rfl
  | some x =>
   rw [hfd] at hr
   simp only at hr
   subst hr
   repeat' first|refine SO.alloc rfl rfl (fun h3 hc3 hE3=>?_)|refine SO.storeAll rfl rfl rfl hc3 rfl rfl (fun h4 hc4 hk4=>?_)|refine SO.loadV rfl rfl rfl hc4 rfl ?_|refine SW.a rfl ?_|refine SW.reg ?_|refine SO.nil ?_|refine SO.a rfl ?_|refine SO.nei rfl rfl rfl rfl (fun _=>?_) (fun _=>?_)
   ·rename_i hne
    exact hret 8 _ _ _ _ (by simp [homeE,hp,hfd,hne]) ((hE.trans hE3).keep (by have:=hE.le;omega) hk4) rfl
   ·rename_i heq
    exact hret 0 _ _ _ _ (by simp [homeE,hp,hfd,heq]) ((hE.trans hE3).keep (by have:=hE.le;omega) hk4) rfl
set_option maxRecDepth 100000
set_option maxHeartbeats 4000000
def ordBad (fs:List PF) (p:List UInt8):Nat->Bool
 | 0=>false
 | j+1=>match fs[j]? with|some y=>!lessB y.path p|none=>false
def treeAt (fs:List PF) (i:Nat):Int:=match fs[i]? with
 | none=>0
 | some x=>if fileE x≠0 then fileE x else if ordBad fs x.path i=true then 9 else if homeE (fs.take i) x.path≠0 then 7 else 0
def firstE (e:Nat->Int):Nat->Nat->Int
 | 0,_=>0
 | k+1,i=>if e i≠0 then e i else firstE e k (i+1)
def treeE (fs:List PF):Int:=if 200 < fs.length then 4 else firstE (treeAt fs) fs.length 0
abbrev Small (n:Nat):Prop:=n<=4000000000000000000
def PFs (fs:List PF):Prop:=∀ f ∈ fs,Small f.path.length/\Small f.data.length
theorem checkTree63 {h:Hp} {n:Nat} {v:AV} {fs:List PF} (hs:Sl h n 4 v fs.length (fs.flatMap pfC)) (hl:Small fs.length) (hp:PFs fs):Fn E 69 [v] h n fun r h' n'=>r=.int .i64 (treeE fs)/\Gr h n h' n':=by
 unfold Small at hl
 refine Fn.of code69 (by decide) rfl fun Q cs hq=>?_
 show SW E Q 69 [(r0,v)] _ _ _ _
 have hret:∀ (e:Int) (h1:Hp) (n1:Nat) (R:List (Path × AV)) (todo:List AItem),e=treeE fs->Gr h n h1 n1->look R r2=some (.int .i64 e)->SW E Q 69 R (.code .ret::todo) cs h1 n1:=fun e h1 n1 R todo he hE h2=>SW.ret code69 ⟨_,h2,hq _ _ _ ⟨by rw [he];rfl,hE⟩⟩
 by_cases hlen:200 < fs.length
 ·repeat' first|refine SW.a rfl ?_|refine SW.reg ?_|refine SO.nil ?_|refine SO.a rfl ?_|refine SO.lenSl rfl rfl rfl (by assumption) ?_|refine SO.cT rfl (by omega) ?_|fail
  exact hret 4 _ _ _ _ (by simp [treeE,hlen]) (Gr.refl _ _) rfl
 have loop:∀ (k i:Nat) (h1:Hp) (n1:Nat),i+k=fs.length->treeE fs=firstE (treeAt fs) k i->Gr h n h1 n1->∀ R,look R r0=some v->look R r3=some (.int .i64 i)->SW E Q 69 R [.code c69x13,.inLoop c69x13,.inBlock 0,.code (.seq (.reg c69x14) .ret)] cs h1 n1:=by
  intro k
  induction k with
  | zero =>
   intro i h1 n1 hi he hE R q0 q3
   refine SW.sub (R':=[(r0,v),(r3,.int .i64 i)]) (by simp [q0,q3]) ?_
   repeat' first|refine SW.a rfl ?_|refine SW.reg ?_|refine SO.nil ?_|refine SO.a rfl ?_|refine SO.lenSl rfl rfl rfl (by assumption) ?_|refine SO.cF rfl (by omega) ?_|fail
   exact hret _ _ _ _ _ (by rw [he];rfl) hE rfl
  | succ k ih =>
   intro i h1 n1 hi he hE R q0 q3
   have hi':i < fs.length:=by omega
   have hm:=hp fs[i] (List.getElem_mem hi')
   have hs1:=hs.ext hE
   have hat:fs[i]?=some fs[i]:=List.getElem?_eq_getElem hi'
   simp only [firstE] at he
   refine SW.sub (R':=[(r0,v),(r3,.int .i64 i)]) (by simp [q0,q3]) ?_
   repeat' first|refine SO.idxOf (fun _=>rfl) rfl rfl rfl rfl hs1 hi' (fun a o hp=>?_)|refine SO.loadA rfl rfl rfl (by assumption) (Gr.refl _ _) rfl ?_|refine SW.a rfl ?_|refine SW.reg ?_|refine SO.nil ?_|refine SO.a rfl ?_|refine SO.lenSl rfl rfl rfl (by assumption) ?_|refine SO.cT rfl (by omega) ?_|fail
   refine SO.callG rfl rfl rfl (file104 fs[i] hm.1 hm.2) ?_
   rintro _ h2 n2 ⟨rfl,hE2⟩
   have hs2:=hs1.ext hE2
   by_cases hf0:fileE fs[i]=0
   case neg =>
    repeat' first|refine SW.a rfl ?_|refine SW.reg ?_|refine SO.nil ?_|refine SO.a rfl ?_|refine SO.cT rfl (by omega) ?_|fail
    refine hret _ _ _ _ _ ?_ (hE.trans hE2) rfl
    rw [he]
    have:treeAt fs i=fileE fs[i]:=by simp [treeAt,hat,hf0]
    rw [this,if_pos hf0]
   have hrest:ordBad fs fs[i].path i=false->∀ R,look R r0=some v->look R r3=some (.int .i64 i)->look R r38=some v->look R r39=some (.int .i64 i)->SO E Q 69 (.draw [] []) R [⟨(some r40),none,[.r r38,.r r39],(.sliceSl 4 false true false)⟩,⟨(some r41),none,[.r r0],.mov⟩,⟨(some r42),none,[.r r3],.mov⟩,⟨(some r43),none,[.r r41,.r r42],(.idxSlA 4)⟩,⟨(some r44),none,[.r r43],(.fieldA 0)⟩,⟨(some r45),none,[.r r44],.loadC⟩,⟨(some r46),none,[.r r40,.r r45],(.call 120)⟩,⟨(some r47),none,[.r r46,.c (.int .i64 0)],(.eql true .num)⟩] [.code (.cond (.r r47) (.seq (.reg c69x11) .ret) .skip),.inBlock 1,.code (.reg c69x12),.inLoop c69x13,.inBlock 0,.code (.seq (.reg c69x14) .ret)] cs h2 n2:=by
    intro hord R q0 q3 q38 q39
    refine SO.forget (R':=[(r0,v),(r3,.int .i64 i),(r38,v),(r39,.int .i64 i)]) (by simp [q0,q3,q38,q39]) ?_
    repeat' first|refine SO.sliceSlFT (fun _=>rfl) rfl rfl rfl rfl hs2 (.inl (by omega)) (Nat.le_of_lt hi') (fun v' hs'=>?_)|refine SO.idxOf (fun _=>rfl) rfl rfl rfl rfl hs2 hi' (fun a o hp=>?_)|refine SO.load0 rfl rfl rfl (by assumption) (Gr.refl _ _) ?_|refine SO.a rfl ?_
    refine SO.callG rfl rfl rfl (home105 fs[i].path hs' (by rw [List.length_take];omega) hm.1) ?_
    rintro _ h3 n3 ⟨rfl,hE3⟩
    repeat' first|refine SW.a rfl ?_|refine SW.reg ?_|refine SO.nil ?_|refine SO.nilD ?_|refine SO.a rfl ?_|refine SO.add rfl rfl rfl rfl (by omega) ?_|refine SO.nei rfl rfl rfl rfl (fun _=>?_) (fun _=>?_)
    ·rename_i hh
     refine hret 7 _ _ _ _ ?_ ((hE.trans hE2).trans hE3) rfl
     have:treeAt fs i=7:=by simp only [treeAt,hat];rw [if_neg (by simpa using hf0),hord,if_neg (by simp),if_pos hh]
     rw [he,this];rfl
    ·rename_i hh
     have:treeAt fs i=0:=by simp only [treeAt,hat];rw [if_neg (by simpa using hf0),hord,if_neg (by simp),if_neg (by simpa using hh)]
     rw [this] at he
     refine SW.again ?_
     exact ih (i+1) h3 n3 (by omega) he ((hE.trans hE2).trans hE3) _ rfl rfl
   cases i with
   | zero =>
    repeat' first|refine SW.a rfl ?_|refine SW.reg ?_|refine SO.nil ?_|refine SO.nilD ?_|(refine SW.drawO rfl ?_;simp only [List.map_cons,List.map_nil])|refine SO.a rfl ?_|refine SO.cF rfl (by omega) ?_|fail
    exact hrest rfl _ rfl rfl rfl rfl
   | succ j =>
    have hj:j < fs.length:=by omega
    have hjt:fs[j]?=some fs[j]:=List.getElem?_eq_getElem hj
    repeat' first|refine SO.idxAt j (fun _=>rfl) rfl rfl rfl rfl (by omega) hs2 hj (fun a o hp=>?_)|refine SO.idxOf (fun _=>rfl) rfl rfl rfl rfl hs2 hi' (fun a o hp=>?_)|refine SO.load0 rfl rfl rfl (by assumption) (Gr.refl _ _) ?_|refine SW.a rfl ?_|refine SW.reg ?_|refine SO.nil ?_|refine SO.nilD ?_|(refine SW.drawO rfl ?_;simp only [List.map_cons,List.map_nil])|refine SO.a rfl ?_|refine SO.cT rfl (by omega) ?_|refine SO.cF rfl (by omega) ?_|refine SO.sub rfl rfl rfl rfl (by omega) ?_|refine SO.geqS rfl rfl rfl rfl (fun _=>?_) (fun _=>?_)
    ·rename_i hh
     refine hret 9 _ _ _ _ ?_ (hE.trans hE2) rfl
     have:treeAt fs (j+1)=9:=by simp only [treeAt,hat];rw [if_neg (by simpa using hf0),if_pos (by simp only [ordBad,hjt];rw [hh];rfl)]
     rw [he,this];rfl
    ·rename_i hh
     exact hrest (by simp only [ordBad,hjt];rw [hh];rfl) _ rfl rfl rfl rfl
 repeat' first|refine SW.a rfl ?_|refine SW.reg ?_|refine SO.nil ?_|refine SO.a rfl ?_|refine SO.lenSl rfl rfl rfl (by assumption) ?_|refine SO.cF rfl (by omega) ?_|fail
 refine SW.loop ?_
 exact loop fs.length 0 _ _ (by omega) (by simp [treeE,hlen]) (Gr.refl _ _) _ rfl rfl
end Go.Ev
