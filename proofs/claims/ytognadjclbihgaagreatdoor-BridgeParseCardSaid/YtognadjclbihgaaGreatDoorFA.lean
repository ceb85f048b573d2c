/- Contracts: quiltref59.has, quiltref12.GreatTree. -/
import Derived.Test.YtognadjclbihgaaGreatDoorE6
import Derived.Test.YtognadjclbihgaaGreatDoorKCodeA
set_option linter.all false
namespace Go.Ev
set_option maxRecDepth 100000
set_option maxHeartbeats 4000000
abbrev intC (i:Int):List AV:=[.int .i64 i]
theorem has103 {h:Hp} {n:Nat} {v:AV} {ps:List Int} (x:Int) (hs:Sl h n 1 v ps.length (ps.flatMap intC)) (hl:ps.length<=4000000000000000000):Fn E 118 [v,.int .i64 x] h n fun r h' n'=>r=.bool (ps.contains x)/\h'=h/\n'=n:=by
 refine Fn.of code118 (by decide) rfl fun Q cs hq=>?_
 show SW E Q 118 [(r0,v),(r1,.int .i64 x)] _ _ _ _
 have hret:∀ (b:Bool) (R:List (Path × AV)) (todo:List AItem),b=ps.contains x->look R r4=some (.bool b)->SW E Q 118 R (.code .ret::todo) cs h n:=fun b R todo hb hR=>SW.ret code118 ⟨_,hR,hq _ _ _ ⟨by rw [hb];rfl,rfl,rfl⟩⟩
 have loop:∀ (k i:Nat),i+k=ps.length->(ps.take i).contains x=false->∀ R,look R r0=some v->look R r1=some (.int .i64 x)->look R r5=some (.int .i64 i)->SW E Q 118 R [.code c118x6,.inLoop c118x6,.inBlock 0,.code (.seq (.reg c118x7) .ret)] cs h n:=by
  intro k
  induction k with
  | zero =>
   intro i hi hno R h0 h1 h5
   refine SW.sub (R':=[(r0,v),(r1,.int .i64 x),(r5,.int .i64 i)]) (by simp [h0,h1,h5]) ?_
   repeat' first|refine SW.a rfl ?_|refine SW.reg ?_|refine SO.nil ?_|refine SO.a rfl ?_|refine SO.lenSl rfl rfl rfl (by assumption) ?_|refine SO.cF rfl (by omega) ?_|fail
   refine hret false _ _ ?_ rfl
   rw [show i=ps.length by omega,List.take_length] at hno
   exact hno.symm
  | succ k ih =>
   intro i hi hno R h0 h1 h5
   have hi':i < ps.length:=by omega
   refine SW.sub (R':=[(r0,v),(r1,.int .i64 x),(r5,.int .i64 i)]) (by simp [h0,h1,h5]) ?_
   repeat' first|refine SO.idxOf (fun _=>rfl) rfl rfl rfl rfl hs hi' (fun a o hp=>?_)|refine SO.load0 rfl rfl rfl (by assumption) (Gr.refl _ _) ?_|refine SW.a rfl ?_|refine SW.reg ?_|refine SO.nil ?_|refine SO.a rfl ?_|refine SO.lenSl rfl rfl rfl (by assumption) ?_|refine SO.cT rfl (by omega) ?_|refine SO.add rfl rfl rfl rfl (by omega) ?_|refine SO.eqi rfl rfl rfl rfl (fun _=>?_) (fun _=>?_)
   ·refine hret true _ _ ?_ rfl
    rename_i he
    rw [<- he]
    exact (by simp:ps.contains ps[i]=true).symm
   ·refine SW.again (ih (i+1) (by omega) ?_ _ rfl rfl rfl)
    rename_i he
    rw [List.take_succ_eq_append_getElem hi']
    simp only [List.contains_append,hno,Bool.false_or]
    simpa using fun e=>he e.symm
 repeat' first|refine SW.a rfl ?_|refine SW.reg ?_|refine SO.nil ?_|refine SO.a rfl ?_
 refine SW.loop ?_
 exact loop ps.length 0 (by omega) (by simp) _ rfl rfl rfl
structure PF where
 path:List UInt8
 type:Int
 mode:Int
 data:List UInt8
abbrev pfC (f:PF):List AV:=[strOf f.path,.int .i64 f.type,.int .i64 f.mode,strOf f.data]
def bulk (fs:List PF):Int:=(fs.map fun f=>(f.data.length+f.path.length:Int)).sum
theorem bulk_nonneg (fs:List PF):0<=bulk fs:=by
 induction fs with
 | nil=>simp [bulk]
 | cons f fs ih=>simp only [bulk,List.map_cons,List.sum_cons] at ih ⊢;omega
set_option maxRecDepth 100000
set_option maxHeartbeats 4000000
def nameByte (c:UInt8):Bool:=decide (97<=c.toNat/\c.toNat<=122)||decide (65<=c.toNat/\c.toNat<=90)||decide (48<=c.toNat/\c.toNat<=57)||decide (c.toNat=46)||decide (c.toNat=95)||decide (c.toNat=45)
def nameOk (bs:List UInt8):Bool:=bs.all nameByte&&(decide (1<=bs.length)&&(decide (bs.length<=40)&&(bs != [46]&&bs != [46,46])))
theorem name62 (bs:List UInt8) (hl:bs.length<=4000000000000000000) (h:Hp) (n:Nat):Fn E 68 [strOf bs] h n fun v h' n'=>v=.bool (nameOk bs)/\h'=h/\n'=n:=by
 refine Fn.of code68 (by decide) rfl fun Q cs hq=>?_
 show SW E Q 68 [(r0,strOf bs)] _ _ _ _
 have hret:∀ (b:Bool) (R:List (Path × AV)) (todo:List AItem),b=nameOk bs->look R r2=some (.bool b)->SW E Q 68 R (.code .ret::todo) cs h n:=fun b R todo hb hR=>SW.ret code68 ⟨_,hR,hq _ _ _ ⟨by rw [hb];rfl,rfl,rfl⟩⟩
 have loop:∀ (k i:Nat),i+k=bs.length->(bs.take i).all nameByte=true->∀ R,look R r0=some (strOf bs)->look R r3=some (.int .i64 i)->SW E Q 68 R [.code c68x7,.inLoop c68x7,.inBlock 0,.code (.seq (.reg c68x8) .ret)] cs h n:=by
  intro k
  induction k with
  | zero =>
   intro i hi hall R h0 h3
   refine SW.sub (R':=[(r0,strOf bs),(r3,.int .i64 i)]) (by simp [h0,h3]) ?_
   have hall':bs.all nameByte=true:=by rw [show i=bs.length by omega,List.take_length] at hall;exact hall
   repeat' first|refine SW.a rfl ?_|refine SW.reg ?_|refine SO.nil ?_|refine SO.a rfl ?_|refine SO.cF rfl (by omega) ?_|refine SO.leq rfl rfl rfl rfl (fun _=>?_) (fun _=>?_)|refine SO.geq rfl rfl rfl rfl (fun _=>?_) (fun _=>?_)|refine SO.strNe rfl rfl rfl rfl (fun _=>?_) (fun _=>?_)
   all_goals refine hret _ _ _ ?_ rfl
   all_goals unfold nameOk;rw [hall'];simp
   all_goals (first|exact⟨by omega,by omega,by assumption,by assumption⟩ |(intros;first|omega |(simp_all;done)))
  | succ k ih =>
   intro i hi hall R h0 h3
   refine SW.sub (R':=[(r0,strOf bs),(r3,.int .i64 i)]) (by simp [h0,h3]) ?_
   have hi':i < bs.length:=by omega
   have hnext:nameByte bs[i]=true->(bs.take (i+1)).all nameByte=true:=by
    intro hb
    rw [List.take_succ_eq_append_getElem hi',List.all_append,hall]
    simp [hb]
   have hstop:nameByte bs[i]=false->false=nameOk bs:=by
    intro hb
    have:bs.all nameByte=false:=List.all_eq_false.2 ⟨bs[i],List.getElem_mem hi',by simp [hb]⟩
    unfold nameOk
    rw [this];rfl
   repeat' first|refine SW.a rfl ?_|refine SW.reg ?_|refine SO.nil ?_|refine SO.a rfl ?_|refine SO.idxStr rfl rfl rfl rfl (by omega) ?_|refine SO.cT rfl (by omega) ?_|refine SO.cF rfl (by omega) ?_|refine SO.add rfl rfl rfl rfl (by omega) ?_|refine SO.leq rfl rfl rfl rfl (fun _=>?_) (fun _=>?_)|refine SO.geq rfl rfl rfl rfl (fun _=>?_) (fun _=>?_)|refine SO.eqi rfl rfl rfl rfl (fun _=>?_) (fun _=>?_)
   all_goals (first
    |(refine SW.again (ih (i+1) (by omega) (hnext ?_) _ rfl rfl);unfold nameByte;simp only [Bool.or_eq_true,decide_eq_true_eq];omega)
    |(refine hret false _ _ (hstop ?_) rfl;unfold nameByte;simp only [Bool.or_eq_false_iff,decide_eq_false_iff_not];omega))
 repeat' first|refine SW.a rfl ?_|refine SW.reg ?_|refine SO.nil ?_|refine SO.a rfl ?_
 refine SW.loop ?_
 exact loop bs.length 0 (by omega) (by simp) _ rfl rfl
set_option maxRecDepth 100000
set_option maxHeartbeats 4000000
theorem clean477 {h:Hp} {n:Nat} (bs:List UInt8) (x y:UInt8) (hl:bs.length<=4000000000000000000):Fn E 509 [strOf bs,.int .u8 x.toNat,.int .u8 y.toNat] h n fun r h' n'=>r=.bool (bs.all fun c=>c != x&&c != y)/\h'=h/\n'=n:=by
 refine Fn.of code509 (by decide) rfl fun Q cs hq=>?_
 show SW E Q 509 [(r0,strOf bs),(r1,.int .u8 x.toNat),(r2,.int .u8 y.toNat)] _ _ _ _
 have hret:∀ (b:Bool) (R:List (Path × AV)) (todo:List AItem),b=(bs.all fun c=>c != x&&c != y)->look R r6=some (.bool b)->SW E Q 509 R (.code .ret::todo) cs h n:=fun b R todo hb hR=>SW.ret code509 ⟨_,hR,hq _ _ _ ⟨by rw [hb];rfl,rfl,rfl⟩⟩
 have loop:∀ (k i:Nat),i+k=bs.length->((bs.take i).all fun c=>c != x&&c != y)=true->∀ R,look R r0=some (strOf bs)->look R r1=some (.int .u8 x.toNat)->look R r2=some (.int .u8 y.toNat)->look R r7=some (.int .i64 i)->SW E Q 509 R [.code c509x6,.inLoop c509x6,.inBlock 0,.code (.seq (.reg c509x7) .ret)] cs h n:=by
  intro k
  induction k with
  | zero =>
   intro i hi hall R h0 h1 h2 h7
   refine SW.sub (R':=[(r0,strOf bs),(r1,.int .u8 x.toNat),(r2,.int .u8 y.toNat),(r7,.int .i64 i)]) (by simp [h0,h1,h2,h7]) ?_
   repeat' first|refine SW.a rfl ?_|refine SW.reg ?_|refine SO.nil ?_|refine SO.a rfl ?_|refine SO.cF rfl (by omega) ?_|fail
   rw [show i=bs.length by omega,List.take_length] at hall
   exact hret true _ _ hall.symm rfl
  | succ k ih =>
   intro i hi hall R h0 h1 h2 h7
   have hi':i < bs.length:=by omega
   refine SW.sub (R':=[(r0,strOf bs),(r1,.int .u8 x.toNat),(r2,.int .u8 y.toNat),(r7,.int .i64 i)]) (by simp [h0,h1,h2,h7]) ?_
   have hstop:(bs[i]=x\/bs[i]=y)->false=(bs.all fun c=>c != x&&c != y):=by
    intro hb
    have:(bs.all fun c=>c != x&&c != y)=false:=List.all_eq_false.2 ⟨bs[i],List.getElem_mem hi',by rcases hb with hb|hb<;>simp [hb]⟩
    rw [this]
   repeat' first|refine SW.a rfl ?_|refine SW.reg ?_|refine SO.nil ?_|refine SO.a rfl ?_|refine SO.idxStr rfl rfl rfl rfl (by omega) ?_|refine SO.cT rfl (by omega) ?_|refine SO.add rfl rfl rfl rfl (by omega) ?_|refine SO.eqi rfl rfl rfl rfl (fun _=>?_) (fun _=>?_)
   ·rename_i he
    exact hret false _ _ (hstop (.inl (UInt8.toNat_inj.1 (by omega)))) rfl
   ·rename_i he
    exact hret false _ _ (hstop (.inr (UInt8.toNat_inj.1 (by omega)))) rfl
   ·rename_i hx hy
    refine SW.again ?_
    refine ih (i+1) (by omega) ?_ _ rfl rfl rfl rfl
    rw [List.take_succ_eq_append_getElem hi',List.all_append,hall]
    have e1:bs[i]≠x:=fun e=>hx (by rw [e])
    have e2:bs[i]≠y:=fun e=>hy (by rw [e])
    simp [e1,e2]
 repeat' first|refine SW.a rfl ?_|refine SW.reg ?_|refine SO.nil ?_|refine SO.a rfl ?_
 refine SW.loop ?_
 exact loop bs.length 0 (by omega) (by simp) _ rfl rfl rfl rfl
def parentGo (bs:List UInt8):Nat->List UInt8
 | 0=>[]
 | i+1=>if bs[i]?=some 47 then bs.take i else parentGo bs i
def parentOf (bs:List UInt8):List UInt8:=parentGo bs bs.length
theorem parent182 {h:Hp} {n:Nat} (bs:List UInt8) (hl:bs.length<=4000000000000000000):Fn E 202 [strOf bs] h n fun r h' n'=>r=strOf (parentOf bs)/\h'=h/\n'=n:=by
 refine Fn.of code202 (by decide) rfl fun Q cs hq=>?_
 show SW E Q 202 [(r0,strOf bs)] _ _ _ _
 have hret:∀ (b:List UInt8) (R:List (Path × AV)) (todo:List AItem),b=parentOf bs->look R r2=some (strOf b)->SW E Q 202 R (.code .ret::todo) cs h n:=fun b R todo hb hR=>SW.ret code202 ⟨_,hR,hq _ _ _ ⟨by rw [hb];rfl,rfl,rfl⟩⟩
 have loop:∀ (i:Nat),i<=bs.length->parentGo bs i=parentOf bs->∀ R,look R r0=some (strOf bs)->look R r3=some (.int .i64 ((i:Int) - 1))->SW E Q 202 R [.code c202x6,.inLoop c202x6,.inBlock 0,.code (.seq (.reg c202x7) .ret)] cs h n:=by
  intro i
  induction i with
  | zero =>
   intro hi hp R h0 h3
   refine SW.sub (R':=[(r0,strOf bs),(r3,.int .i64 (-1))]) (by simp [h0,h3]) ?_
   repeat' first|refine SW.a rfl ?_|refine SW.reg ?_|refine SO.nil ?_|refine SO.a rfl ?_|refine SO.cF rfl (by omega) ?_|fail
   exact hret [] _ _ (by rw [<- hp];rfl) rfl
  | succ i ih =>
   intro hi hp R h0 h3
   have hi':i < bs.length:=by omega
   have e:(((i+1:Nat):Int) - 1)=(i:Int):=by omega
   rw [e] at h3
   refine SW.sub (R':=[(r0,strOf bs),(r3,.int .i64 i)]) (by simp [h0,h3]) ?_
   repeat' first|refine SW.a rfl ?_|refine SW.reg ?_|refine SO.nil ?_|refine SO.a rfl ?_|refine SO.idxStr rfl rfl rfl rfl (by omega) ?_|refine SO.cT rfl (by omega) ?_|refine SO.sliceFT rfl rfl rfl rfl (by omega) ?_|refine SO.sub rfl rfl rfl rfl (by omega) ?_|refine SO.eqi rfl rfl rfl rfl (fun _=>?_) (fun _=>?_)
   ·rename_i he
    refine hret (bs.take i) _ _ ?_ rfl
    have:bs[i]?=some 47:=by rw [List.getElem?_eq_getElem hi',Option.some.injEq];exact UInt8.toNat_inj.1 (by show bs[i].toNat=47;omega)
    rw [<- hp,parentGo,if_pos this]
   ·rename_i he
    refine SW.again ?_
    refine ih (by omega) ?_ _ rfl rfl
    have:bs[i]?≠some 47:=by
     rw [List.getElem?_eq_getElem hi']
     intro e
     simp only [Option.some.injEq] at e
     rw [e] at he
     exact he rfl
    rw [<- hp,parentGo,if_neg this]
 repeat' first|refine SW.a rfl ?_|refine SW.reg ?_|refine SO.nil ?_|refine SO.a rfl ?_|refine SO.sub rfl rfl rfl rfl (by omega) ?_|fail
 refine SW.loop ?_
 exact loop bs.length (Nat.le_refl _) rfl _ rfl rfl
def segs (cur:List UInt8):List UInt8->List (List UInt8)
 | []=>[cur]
 | c::r=>if c=47 then cur::segs [] r else segs (cur++[c]) r
def pathOk (bs:List UInt8):Bool:=decide (bs.length<=200)&&(segs [] bs).all nameOk
theorem part_snoc {bs:List UInt8} {i j:Nat} (hij:i<=j) (hj:j < bs.length):part bs i (j+1)=part bs i j++[bs[j]]:=by
 unfold part
 rw [show j+1 - i=(j - i)+1 by omega,List.take_succ_eq_append_getElem (by simp;omega)]
 simp only [List.getElem_drop]
 congr 2
 simp only [show i+(j - i)=j by omega]
theorem path180 {h:Hp} {n:Nat} (bs:List UInt8) (hl:bs.length<=4000000000000000000):Fn E 200 [strOf bs] h n fun r h' n'=>r=.bool (pathOk bs)/\h'=h/\n'=n:=by
 refine Fn.of code200 (by decide) rfl fun Q cs hq=>?_
 show SW E Q 200 [(r0,strOf bs)] _ _ _ _
 have hret:∀ (b:Bool) (R:List (Path × AV)) (todo:List AItem),b=pathOk bs->look R r2=some (.bool b)->SW E Q 200 R (.code .ret::todo) cs h n:=fun b R todo hb hR=>SW.ret code200 ⟨_,hR,hq _ _ _ ⟨by rw [hb];rfl,rfl,rfl⟩⟩
 by_cases hlen:bs.length<=200
 case neg =>
  repeat' first|refine SW.a rfl ?_|refine SW.reg ?_|refine SO.nil ?_|refine SO.a rfl ?_|refine SO.cT rfl (by omega) ?_|fail
  exact hret false _ _ (by simp [pathOk,hlen]) rfl
 have hok:pathOk bs=(segs [] bs).all nameOk:=by simp [pathOk,hlen]
 have hdone:∀ R,(segs [] bs).all nameOk=true->look R r0=some (strOf bs)->look R r4=some (.int .i64 ((bs.length:Int)+1))->SW E Q 200 R [.inLoop c200x11,.inBlock 0,.code (.seq (.reg c200x12) .ret)] cs h n:=by
  intro R ht h0 h4
  refine SW.sub (R':=[(r0,strOf bs),(r4,.int .i64 ((bs.length:Int)+1))]) (by simp [h0,h4]) ?_
  refine SW.again ?_
  repeat' first|refine SW.a rfl ?_|refine SW.reg ?_|refine SO.nil ?_|refine SO.a rfl ?_|refine SO.cF rfl (by omega) ?_|fail
  exact hret true _ _ (by rw [hok,ht]) rfl
 have loop:∀ (k i fr:Nat),i+k=bs.length->fr<=i->(segs (part bs fr i) (bs.drop i)).all nameOk=(segs [] bs).all nameOk->∀ R,look R r0=some (strOf bs)->look R r3=some (.int .i64 fr)->look R r4=some (.int .i64 i)->SW E Q 200 R [.code c200x11,.inLoop c200x11,.inBlock 0,.code (.seq (.reg c200x12) .ret)] cs h n:=by
  intro k
  induction k with
  | zero =>
   intro i fr hi hfr hseg R h0 h3 h4
   refine SW.sub (R':=[(r0,strOf bs),(r3,.int .i64 fr),(r4,.int .i64 i)]) (by simp [h0,h3,h4]) ?_
   have hdrop:bs.drop i=[]:=List.drop_eq_nil_of_le (by omega)
   rw [hdrop] at hseg
   simp only [segs,List.all_cons,List.all_nil,Bool.and_true] at hseg
   repeat' first|refine SW.a rfl ?_|refine SW.reg ?_|refine SO.nil ?_|refine SO.a rfl ?_|refine SO.cT rfl (by omega) ?_|refine SO.cF rfl (by omega) ?_|refine SO.sliceTT rfl rfl rfl rfl rfl (by omega) (by omega) ?_|fail
   refine SO.callG rfl rfl rfl (name62 (part bs fr i) (by rw [part_length (by omega)];omega) h n) ?_
   rintro v h' n' ⟨rfl,rfl,rfl⟩
   rw [hseg]
   cases ht:(segs [] bs).all nameOk with
   | true =>
    repeat' first|refine SW.a rfl ?_|refine SW.reg ?_|refine SO.nil ?_|refine SO.a rfl ?_|refine SO.add rfl rfl rfl rfl (by omega) ?_|fail
    exact hdone _ ht rfl (by rw [show (bs.length:Int)=(i:Int) by omega];rfl)
   | false =>
    repeat' first|refine SW.a rfl ?_|refine SW.reg ?_|refine SO.nil ?_|refine SO.a rfl ?_
    exact hret false _ _ (by rw [hok,ht]) rfl
  | succ k ih =>
   intro i fr hi hfr hseg R h0 h3 h4
   have hi':i < bs.length:=by omega
   refine SW.sub (R':=[(r0,strOf bs),(r3,.int .i64 fr),(r4,.int .i64 i)]) (by simp [h0,h3,h4]) ?_
   rw [List.drop_eq_getElem_cons hi'] at hseg
   simp only [segs] at hseg
   repeat' first|refine SW.a rfl ?_|refine SW.reg ?_|refine SO.nil ?_|refine SO.a rfl ?_|refine SO.idxStr rfl rfl rfl rfl (by omega) ?_|refine SO.cT rfl (by omega) ?_|refine SO.sliceTT rfl rfl rfl rfl rfl (by omega) (by omega) ?_|refine SO.add rfl rfl rfl rfl (by omega) ?_|refine SO.nei rfl rfl rfl rfl (fun _=>?_) (fun _=>?_)
   ·
    rename_i hne
    have hne':bs[i]≠47:=fun e=>hne (by rw [e];rfl)
    rw [if_neg hne',<- part_snoc hfr hi'] at hseg
    refine SW.again ?_
    exact ih (i+1) fr (by omega) (by omega) hseg _ rfl rfl rfl
   ·
    rename_i heq
    have heq':bs[i]=47:=UInt8.toNat_inj.1 (by show bs[i].toNat=47;omega)
    rw [if_pos heq'] at hseg
    simp only [List.all_cons] at hseg
    refine SO.callG rfl rfl rfl (name62 (part bs fr i) (by rw [part_length (by omega)];omega) h n) ?_
    rintro v h' n' ⟨rfl,rfl,rfl⟩
    cases hn:nameOk (part bs fr i) with
    | true =>
     rw [hn,Bool.true_and] at hseg
     repeat' first|refine SW.a rfl ?_|refine SW.reg ?_|refine SO.nil ?_|refine SO.a rfl ?_|refine SO.add rfl rfl rfl rfl (by omega) ?_|fail
     refine SW.again ?_
     refine ih (i+1) (i+1) (by omega) (Nat.le_refl _) ?_ _ rfl rfl rfl
     rw [<- hseg]
     simp [part]
    | false =>
     rw [hn,Bool.false_and] at hseg
     repeat' first|refine SW.a rfl ?_|refine SW.reg ?_|refine SO.nil ?_|refine SO.a rfl ?_
     exact hret false _ _ (by rw [hok,<- hseg]) rfl
 repeat' first|refine SW.a rfl ?_|refine SW.reg ?_|refine SO.nil ?_|refine SO.a rfl ?_|refine SO.cF rfl (by omega) ?_|fail
 refine SW.loop ?_
 exact loop bs.length 0 0 (by omega) (Nat.le_refl _) (by simp [part]) _ rfl rfl rfl
def findF (fs:List PF) (path:List UInt8):Option PF:=fs.find? fun f=>f.path == path
def zeroF:List AV:=[strOf [],.int .i64 0,.int .i64 0,strOf []]
theorem find183 {h:Hp} {n:Nat} {v:AV} {fs:List PF} (path:List UInt8) (hs:Sl h n 4 v fs.length (fs.flatMap pfC)) (hl:fs.length<=4000000000000000000) :
  Fn E 203 [v,strOf path] h n fun r h' n'=>(match findF fs path with|some f=>r=.tup [.agg (pfC f),.bool true]|none=>r=.tup [.agg zeroF,.bool false])/\Gr h n h' n':=by
 refine Fn.of code203 (by decide) rfl fun Q cs hq=>?_
 show SW E Q 203 [(r0,v),(r1,strOf path)] _ _ _ _
 have loop:∀ (k i:Nat) (h1:Hp),i+k=fs.length->findF fs path=findF (fs.drop i) path->hb h1 n=some (.cell zeroF 68 false)->Gr h n h1 (n+1)->∀ R,look R r0=some v->look R r1=some (strOf path)->look R r4=some (.ptr n 0)->look R r6=some (.int .i64 i)->SW E Q 203 R [.code c203x6,.inLoop c203x6,.inBlock 0,.code (.seq (.reg c203x7) .ret)] cs h1 (n+1):=by
  intro k
  induction k with
  | zero =>
   intro i h1 hi hfd hc hE R q0 q1 q4 q6
   refine SW.sub (R':=[(r0,v),(r1,strOf path),(r4,.ptr n 0),(r6,.int .i64 i)]) (by simp [q0,q1,q4,q6]) ?_
   repeat' first|refine SO.build rfl rfl rfl (fun K=>rfl) ?_|refine SO.storeAll rfl rfl rfl hc rfl rfl (fun h2 hc2 hk2=>?_)|refine SW.a rfl ?_|refine SW.reg ?_|refine SO.nil ?_|refine SO.a rfl ?_|refine SO.lenSl rfl rfl rfl (by assumption) ?_|refine SO.cF rfl (by omega) ?_|fail
   have hnone:findF fs path=none:=by rw [hfd,List.drop_eq_nil_of_le (by omega)];rfl
   refine SW.ret code203 ⟨n,0,zeroF,rfl,.inl ⟨_,_,hc2⟩,by decide,?_⟩
   refine⟨.bool false,rfl,hq _ _ _ ⟨?_,(hE.keep (Nat.le_refl n) hk2).less (Nat.le_refl n)⟩⟩
   rw [hnone];rfl
  | succ k ih =>
   intro i h1 hi hfd hc hE R q0 q1 q4 q6
   have hi':i < fs.length:=by omega
   refine SW.sub (R':=[(r0,v),(r1,strOf path),(r4,.ptr n 0),(r6,.int .i64 i)]) (by simp [q0,q1,q4,q6]) ?_
   repeat' first|refine SO.idxOf (fun _=>rfl) rfl rfl rfl rfl hs hi' (fun a o hp=>?_)|refine SO.loadF rfl rfl rfl (by assumption) hE rfl ?_|refine SO.loadA rfl rfl rfl (by assumption) hE rfl ?_|refine SO.storeAll rfl rfl rfl hc rfl rfl (fun h2 hc2 hk2=>?_)|refine SW.a rfl ?_|refine SW.reg ?_|refine SO.nil ?_|refine SO.a rfl ?_|refine SO.lenSl rfl rfl rfl (by assumption) ?_|refine SO.cT rfl (by omega) ?_|refine SO.add rfl rfl rfl rfl (by omega) ?_|refine SO.strEq rfl rfl rfl rfl (fun _=>?_) (fun _=>?_)
   ·rename_i _ _ _ he
    have hsome:findF fs path=some fs[i]:=by
     rw [hfd,List.drop_eq_getElem_cons hi']
     unfold findF
     rw [List.find?_cons]
     simp [he]
    refine SW.ret code203 ⟨n,0,pfC fs[i],rfl,.inl ⟨_,_,hc2⟩,by simp,?_⟩
    refine⟨.bool true,rfl,hq _ _ _ ⟨?_,(hE.keep (Nat.le_refl n) hk2).less (Nat.le_refl n)⟩⟩
    rw [hsome];rfl
   ·rename_i he
    refine SW.again ?_
    refine ih (i+1) h1 (by omega) ?_ hc hE _ rfl rfl rfl rfl
    rw [hfd,List.drop_eq_getElem_cons hi']
    unfold findF
    rw [List.find?_cons]
    have:(fs[i].path == path)=false:=by simpa using he
    rw [this]
 repeat' first|refine SO.alloc rfl rfl (fun h1 hc hE=>?_)|refine SW.a rfl ?_|refine SW.reg ?_|refine SO.nil ?_|refine SO.a rfl ?_
 refine SW.loop ?_
 exact loop fs.length 0 _ (by omega) rfl hc hE _ rfl rfl rfl rfl
end Go.Ev
