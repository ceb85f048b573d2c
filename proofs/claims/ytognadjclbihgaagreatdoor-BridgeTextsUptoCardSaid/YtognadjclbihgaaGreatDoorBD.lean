/- Contracts: strconv.Atoi; csexp.Number. -/
import Derived.Test.YtognadjclbihgaaGreatDoorE6
import Derived.Test.YtognadjclbihgaaGreatDoorBC
import Derived.Test.YtognadjclbihgaaGreatDoorFE3
import Derived.Test.YtognadjclbihgaaGreatDoorBA
import Derived.Test.YtognadjclbihgaaGreatDoorPA
set_option linter.all false
namespace Go.Ev
set_option maxRecDepth 100000
set_option maxHeartbeats 8000000
section
variable {E:Env} {Q:Post} {fn:Fr} {md:Md} {R:List (Path × AV)} {rc:List COp} {todo:List AItem} {cs:List AF} {h h' h0:Hp} {n n' n0:Nat} {os:List COp} {k k':IntKind} {p:Path} {g:Option (Path × Bool)} {X Y:CX} {u v:AV} {a o b:Nat} {x y:Int} {bs:List UInt8}
theorem SO.copyS {e:TypeId} {us:List AV} {c:Nat} (hg:wantB R g=true) (hd:Nat.beq p.len depth=true) (h1:lookX R X=some (.slc a 0 bs.length c)) (h2:lookX R Y=some (strOf bs)) (hb0:hb h a=some (.cell us e false)) (hl:us.length=bs.length)
  (hw:∀ h1,hb h1 a=some (.cell (bs.flatMap byteC) e false)->(∀ b,b≠a->hb h1 b=hb h b)->SO E Q fn md ((p,.int .i64 (bs.length:Int))::R) os todo cs h1 n):SO E Q fn md R (⟨some p,g,[X,Y],.copyS⟩::os) todo cs h n:=by
 refine SO.val (h':=hput a (.cell (bs.flatMap byteC) e false) h) (n':=n) hg hd (two h1 h2) (fun K=>?_) (hw _ (hb_self _ _ _) fun b hb=>hb_other _ _ hb)
 show guardB (Nat.ble bs.length bs.length) (bytesK bs.length (codeL bs) fun cs=>storeN h a 0 cs fun h=>K.v (.int .i64 (.ofNat bs.length)) h n)=_
 have hcs:((bytesOf bs.length (codeL bs)).map fun b=>AV.int .u8 (b.toNat:Int))=bs.flatMap byteC:=by rw [bytesOf_codeL,flat_map8]
 rw [Nat.ble_eq_true_of_le (Nat.le_refl _),guardT,bytesK_val,hcs]
 unfold storeN
 rw [blk_at hb0]
 show spliceK 0 (bs.flatMap byteC) us (fun vs'=>putK a (.cell vs' e false) h fun h=>K.v (.int .i64 (.ofNat bs.length)) h n)=_
 have hsp:splice 0 (bs.flatMap byteC) us=bs.flatMap byteC:=splice_all (by rw [byteC_len8,hl])
 rw [Bool.eq_iff_iff,spliceK_iff,putK_eq,hsp]
 exact⟨fun h=>h.2,fun h=>⟨by rw [byteC_len8];omega,h⟩⟩
theorem SO.ustrC (hg:wantB R g=true) (hd:Nat.beq p.len depth=true) (h1:lookX R X=some (.ptr a 0)) (h2:lookX R Y=some (.int .i64 (bs.length:Int))) (hb0:hb h a=some (.cell (bs.flatMap byteC) 5 false)) (hl:bs≠[]) (hm:bs.length<=1073741824)
  (hw:∀ h1,(∀ b,b≠a->hb h1 b=hb h b)->SO E Q fn md ((p,strOf bs)::R) os todo cs h1 n):SO E Q fn md R (⟨some p,g,[X,Y],.ustr 5⟩::os) todo cs h n:=by
 refine SO.val (h':=hput a (.cell (bs.flatMap byteC) 5 true) h) (n':=n) hg hd (two h1 h2) (fun K=>?_) (hw _ fun b hb=>hb_other _ _ hb)
 have hpos:0 < bs.length:=List.length_pos_iff.2 hl
 have e0:Nat.beq bs.length 0=false:=by
  cases hq:bs.length with
  | zero=>omega
  | succ m=>rfl
 show (Bool.rec (motive:=fun _=>Bool) (guardB (Nat.beq 0 0) (blkK h a fun b=>ifCells b (fun vs el ro=>Bool.rec (motive:=fun _=>Bool) (guardB (Nat.beq el 5) (guardB (Nat.ble bs.length 1073741824) (loadN h a 0 bs.length fun bs'=>codeK bs' fun c=>putK a (.cell vs el true) h fun h=>K.v (.str bs.length c) h n))) false ro) _)) _ (Nat.beq bs.length 0))=_
 rw [e0]
 show guardB true (blkK h a _)=_
 rw [guardT,blk_at hb0]
 show guardB (Nat.beq 5 5) (guardB (Nat.ble bs.length 1073741824) (loadN h a 0 bs.length fun bs'=>codeK bs' fun c=>putK a (.cell (bs.flatMap byteC) 5 true) h fun h=>K.v (.str bs.length c) h n))=_
 rw [show Nat.beq 5 5=true from rfl,guardT,Nat.ble_eq_true_of_le hm,guardT,loadN_eq (vs:=bs.flatMap byteC) (.inl ⟨_,_,hb0⟩) (by rw [byteC_len8];omega),List.drop_zero,List.take_of_length_le (by rw [byteC_len8];omega),codeK_bytes,putK_eq]
 rfl
theorem Still.loadP {c:COp} {cells:List AV} (hg:wantB R g=true) (hp:look R p=some v) (hX:lookX R X=some (.ptr a o)) (hP:Pt h0 n0 (.ptr a o) (v::cells)) (hE:Gr h0 n0 h n) (hs:Still R rc h):Still R (⟨some p,g,[X],.loadC⟩::rc) h :=
 Still.cons (c:=⟨some p,g,[X],.loadC⟩) hg rfl hp (one1 hX) (fun n' K=>ex_loadC (hP.ext hE) K) hs
end
theorem clone397 {h:Hp} {n:Nat} (bs:List UInt8) (hne:bs≠[]) (hl:bs.length<=100000):Fn E 397 [strOf bs] h n fun r h' n'=>r=strOf bs/\Gr h n h' n':=by
 refine Fn.of code397 (by decide) rfl fun Q cs hq=>?_
 show SW E Q 397 [(r0,strOf bs)] _ _ _ _
 have hpos:0 < bs.length:=List.length_pos_iff.2 hne
 repeat' first|refine SO.mkSlice bs.length rfl rfl rfl rfl (by omega) (by omega) (fun h1 hc1 hE1=>?_)|refine SW.a rfl ?_|refine SW.reg ?_|refine SO.nil ?_|refine SO.a rfl ?_|refine SO.cF rfl (by omega) ?_|fail
 refine SO.copyS rfl rfl rfl rfl hc1 (rep_len8 _ _) (fun h2 hc2 hk2=>?_)
 have hs2:Sl h2 (n+1) 1 (.slc n 0 bs.length bs.length) bs.length (bs.flatMap byteC):=⟨by rw [byteC_len8];omega,.inr ⟨n,0,bs.length,_,.inl ⟨rfl,Nat.le_refl _⟩,⟨by omega,.inl ⟨_,_,hc2⟩⟩,by rw [byteC_len8];omega,by rw [List.drop_zero,List.take_of_length_le (by rw [byteC_len8];omega)]⟩⟩
 repeat' first|refine SO.val (oc:=.idxSlA 1) (v:=.ptr n 0) rfl rfl (two rfl rfl) (fun K=>by show guardB (Nat.blt 0 bs.length) (K.v (.ptr n 0) _ _)=_;rw [show Nat.blt 0 bs.length=true by simp [Nat.blt];omega];rfl) ?_|refine SO.lenSl rfl rfl rfl hs2 ?_|refine SW.a rfl ?_|refine SW.reg ?_|refine SO.nil ?_|refine SO.a rfl ?_
 refine SO.ustrC rfl rfl rfl rfl hc2 hne (by omega) (fun h3 hk3=>?_)
 repeat' first|refine SO.nil ?_|refine SO.a rfl ?_
 exact SW.ret code397 ⟨_,rfl,hq _ _ _ ⟨rfl,⟨by omega,fun b hb0=>by rw [hk3 b (by omega),hk2 b (by omega),hE1.same b hb0]⟩⟩⟩
def Err (h:Hp) (n:Nat):Prop:=∃ t v,Pt h n (.ptr 2 0) [.ifc t v]
theorem Err.ext {h h':Hp} {n n':Nat} (e:Err h n) (g:Gr h n h' n'):Err h' n':=by
 obtain⟨t,v,h1⟩:=e
 exact⟨t,v,h1.ext g⟩
theorem rangeError282 {h:Hp} {n:Nat} (fs bs:List UInt8) (hne:bs≠[]) (hl:bs.length<=100000) (he:Err h n):Fn E 282 [strOf fs,strOf bs] h n fun r h' n'=>Gr h n h' n':=by
 refine Fn.of code282 (by decide) rfl fun Q cs hq=>?_
 show SW E Q 282 [(r0,strOf fs),(r1,strOf bs)] _ _ _ _
 obtain⟨t,u,hu⟩:=he
 repeat' first|refine SO.load0 rfl rfl rfl hu (Gr.refl _ _) ?_|refine SW.a rfl ?_|refine SW.reg ?_|refine SO.nil ?_|(refine SW.drawG ?_;simp only [gOps,gRc,gTail])|refine SO.a rfl ?_
 refine SO.callG rfl rfl rfl (clone397 bs hne hl) ?_
 rintro _ h1 n1 ⟨rfl,hE1⟩
 refine SO.more (Still.loadP (c:=⟨none,none,[],.mov⟩) rfl rfl rfl hu hE1 Still.nil) ?_
 simp only [gOps,gRc,gTail]
 refine SO.build rfl rfl rfl (fun K=>rfl) ?_
 refine SO.box rfl rfl rfl (by simp) (fun h2 hc2 hE2=>?_)
 refine SO.more (Still.loadP (c:=⟨none,none,[],.mov⟩) rfl rfl rfl hu (hE1.trans hE2) Still.nil) ?_
 simp only [gOps,gRc,gTail]
 repeat' first|refine SO.nilD ?_|refine SO.a rfl ?_
 exact SW.ret code282 ⟨_,rfl,hq _ _ _ (hE1.trans hE2)⟩
theorem toError191 {h:Hp} {n:Nat} (fs bs:List UInt8) (hne:bs≠[]) (hl:bs.length<=100000) (he:Err h n):Fn E 191 [strOf fs,strOf bs,.int .i64 0,.int .i64 0,.ifc 424 (.int .i64 1)] h n fun r h' n'=>(∃ v,r=.ifc 427 v)/\Gr h n h' n':=by
 refine Fn.of code191 (by decide) rfl fun Q cs hq=>?_
 show SW E Q 191 [(r0,strOf fs),(r1,strOf bs),(r2,.int .i64 0),(r3,.int .i64 0),(r4,.ifc 424 (.int .i64 1))] _ _ _ _
 repeat' first|refine SO.mkIfc rfl rfl rfl ?_|refine SO.ifcInt rfl rfl rfl rfl cmp424 rfl ?_|refine SW.a rfl ?_|refine SW.reg ?_|refine SO.nil ?_|refine SO.a rfl ?_
 refine SO.callG rfl rfl rfl (rangeError282 fs bs hne hl he) ?_
 rintro v h1 n1 hE1
 repeat' first|refine SO.mkIfc rfl rfl rfl ?_|refine SO.nil ?_|refine SO.a rfl ?_
 exact SW.ret code191 ⟨_,rfl,hq _ _ _ ⟨⟨_,rfl⟩,hE1⟩⟩
theorem atoi190 {h:Hp} {n:Nat} (bs:List UInt8) (hc:Canon bs) (hl:bs.length<=100000) :
  Fn E 190 [strOf bs] h n fun r h' n'=>Gr h n h' n'/\∃ v e,r=.tup [.int .i64 v,e]/\((e=.nili/\v=valS bs)\/(e=.ifc 424 (.int .i64 1)/\9223372036854775807 < natS (unsign bs))):=by
 refine Fn.of code190 (by decide) rfl fun Q cs hq=>?_
 show SW E Q 190 [(r0,strOf bs)] _ _ _ _
 have hul:=unsign_len bs
 have hnb:bs≠[]:=fun e=>hc.ne (by rw [e];rfl)
 have hlt:0 < bs.length:=List.length_pos_iff.2 hnb
 by_cases hlong:19<=bs.length
 ·repeat' first|refine SW.a rfl ?_|refine SW.reg ?_|refine SO.nil ?_|refine SO.a rfl ?_|refine SO.cT rfl (by omega) ?_|refine SO.cF rfl (by omega) ?_|fail
  refine SO.callG rfl rfl rfl (parseInt280 bs hc hl) ?_
  rintro _ h1 n1 ⟨hE1,v,e,rfl,hve⟩
  repeat' first|refine SW.a rfl ?_|refine SW.reg ?_|refine SO.nil ?_|refine SO.a rfl ?_
  exact SW.ret code190 ⟨_,rfl,_,rfl,hq _ _ _ ⟨hE1,v,e,rfl,hve⟩⟩
 ·have hdig:=hc.digs
  have hune:=hc.ne
  have hnl:=natS_lt hdig
  have hpow:(10:Nat) ^ (unsign bs).length<=10 ^ 18:=Nat.pow_le_pow_right (by decide) (by omega)
  have hp18:(10:Nat) ^ 18=1000000000000000000:=by decide
  have loop:∀ (h1:Hp) (n1:Nat) (ds:List UInt8) (b0:Nat),ds=unsign bs->Sl h1 n1 1 (.gsl b0 0 ds.length 1) ds.length (ds.flatMap byteC)->Gr h n h1 n1->∀ (k i:Nat),i+k=ds.length->∀ R,look R r5=some (strOf bs)->look R r6=some (.int .i64 (natS (ds.take i):Int))->look R r47=some (.gsl b0 0 ds.length 1)->look R r48=some (.int .i64 (ds.length:Int))->look R r49=some (.int .i64 (i:Int)) ->
    SW E Q 190 R [.code c190x17,.inLoop c190x17,.inBlock 0,.code (.seq (.seq (.reg c190x18) (.cond (.r r66) (.reg c190x19) .skip)) (.seq (.reg c190x20) .ret)),.code (.seq (.reg c190x21) (.seq (.reg c190x22) .ret))] cs h1 n1:=by
   intro h1 n1 ds b0 hds hs1 hE1 k
   have hdl:ds.length<=100000:=by rw [hds];omega
   rw [<- hds] at hdig hnl hpow
   induction k with
   | zero =>
    intro i hi R q5 q6 q47 q48 q49
    rw [show i=ds.length by omega,List.take_length] at q6
    refine SW.sub (R':=[(r5,strOf bs),(r6,.int .i64 (natS ds:Int)),(r47,.gsl b0 0 ds.length 1),(r48,.int .i64 (ds.length:Int)),(r49,.int .i64 (i:Int))]) (by simp [q5,q6,q47,q48,q49]) ?_
    rcases unsign_cases bs with ⟨l,rfl,hu⟩ |⟨hne,hu⟩
    ·have hv:valS (45::l)=-(natS ds:Int):=by rw [valS,if_pos (by rfl),<- hds]
     rw [hv] at hq
     repeat' first|refine SO.idxStrAt 0 rfl rfl rfl rfl rfl hlt ?_|refine SO.eqiT rfl rfl rfl rfl (show ((45:UInt8).toNat:Int)=45 by decide) ?_|refine SO.neg rfl rfl rfl (by omega) ?_|refine SW.a rfl ?_|refine SW.reg ?_|refine SO.nil ?_|refine SO.a rfl ?_|refine SO.cF rfl (by omega) ?_|fail
     exact SW.ret code190 ⟨_,rfl,_,rfl,hq _ _ _ ⟨hE1,_,_,rfl,.inl ⟨rfl,rfl⟩⟩⟩
    ·have hv:valS bs=(natS ds:Int):=by rw [valS,if_neg hne,<- hds]
     rw [hv] at hq
     have hmem:bs[0] ∈ ds:=by rw [hds,hu];exact List.getElem_mem hlt
     have h0:=(digB_iff _).1 (hdig _ hmem)
     repeat' first|refine SO.idxStrAt 0 rfl rfl rfl rfl rfl hlt ?_|refine SW.a rfl ?_|refine SW.reg ?_|refine SO.nil ?_|refine SO.a rfl ?_|refine SO.cF rfl (by omega) ?_|fail
     exact SW.ret code190 ⟨_,rfl,_,rfl,hq _ _ _ ⟨hE1,_,_,rfl,.inl ⟨rfl,rfl⟩⟩⟩
   | succ k ih =>
    intro i hi R q5 q6 q47 q48 q49
    have hlt1:i < ds.length:=by omega
    have hd:=(digB_iff _).1 (hdig _ (List.getElem_mem hlt1))
    have hsucc:=natS_take_succ hlt1
    have hle:=natS_take_le ds (i+1)
    have hle0:=natS_take_le ds i
    refine SW.sub (R':=[(r5,strOf bs),(r6,.int .i64 (natS (ds.take i):Int)),(r47,.gsl b0 0 ds.length 1),(r48,.int .i64 (ds.length:Int)),(r49,.int .i64 (i:Int))]) (by simp [q5,q6,q47,q48,q49]) ?_
    generalize hN:natS (ds.take i)=N at *
    repeat' first|refine SO.idxOf (fun _=>rfl) rfl rfl rfl rfl hs1 hlt1 (fun a o hp=>?_)|refine SO.load0 rfl rfl rfl (by assumption) (Gr.refl _ _) ?_|refine SO.subK 48 rfl rfl rfl rfl (by omega) (by show ds[i].toNat<=255;omega) ?_|refine SO.mulN 10 rfl rfl rfl rfl (by show N*10<=9223372036854775807;omega) ?_|refine SO.convN rfl rfl rfl (by show ds[i].toNat - 48<=9223372036854775807;omega) ?_|refine SO.addN (ds[i].toNat - 48) rfl rfl rfl rfl (by show N*10+(ds[i].toNat - 48)<=9223372036854775807;omega) ?_|refine SW.a rfl ?_|refine SW.reg ?_|refine SO.nil ?_|refine SO.a rfl ?_|refine SO.cT rfl (by omega) ?_|refine SO.cF rfl (by omega) ?_|refine SO.add rfl rfl rfl rfl (by omega) ?_|fail
    refine SW.again ?_
    exact ih (i+1) (by omega) _ rfl (by rw [hsucc];rfl) rfl rfl rfl
  rcases unsign_cases bs with ⟨l,rfl,hu⟩ |⟨hne,hu⟩
  ·have hl1:1<=l.length:=by
    rw [hu] at hune
    exact List.length_pos_iff.2 hune
   have hle1:1<=((45:UInt8)::l).length:=by simp
   simp only [List.length_cons] at hlong
   repeat' first|refine SO.idxStrAt 0 rfl rfl rfl rfl rfl hlt ?_|refine SO.eqiT rfl rfl rfl rfl (show ((45:UInt8).toNat:Int)=45 by decide) ?_|refine SO.sliceTFb 1 rfl rfl rfl rfl rfl hle1 ?_|refine SO.lssT rfl rfl rfl rfl (by simp;omega) ?_|refine SO.lssF rfl rfl rfl rfl (by simp;omega) ?_|refine SW.a rfl ?_|refine SW.reg ?_|refine SO.nil ?_|refine SO.a rfl ?_|refine SO.cT rfl (by omega) ?_|fail
   refine SO.convSB rfl rfl rfl (fun h1 hs1 hE1=>?_)
   repeat' first|refine SW.a rfl ?_|refine SO.nil ?_|refine SO.a rfl ?_|refine SO.lenSl rfl rfl rfl (by assumption) ?_|fail
   refine SW.loop ?_
   exact loop h1 (n+2) l (n+1) hu.symm hs1 hE1 l.length 0 (by omega) _ rfl rfl rfl rfl rfl
  ·have hmem:bs[0] ∈ unsign bs:=by rw [hu];exact List.getElem_mem hlt
   have h0:=(digB_iff _).1 (hdig _ hmem)
   repeat' first|refine SO.idxStrAt 0 rfl rfl rfl rfl rfl hlt ?_|refine SW.a rfl ?_|refine SW.reg ?_|refine SO.nil ?_|refine SO.a rfl ?_|refine SO.cT rfl (by omega) ?_|refine SO.cF rfl (by omega) ?_|fail
   refine SO.convSB rfl rfl rfl (fun h1 hs1 hE1=>?_)
   repeat' first|refine SW.a rfl ?_|refine SO.nil ?_|refine SO.a rfl ?_|refine SO.lenSl rfl rfl rfl (by assumption) ?_|fail
   refine SW.loop ?_
   exact loop h1 (n+2) bs (n+1) hu.symm hs1 hE1 bs.length 0 (by omega) _ rfl rfl rfl rfl rfl
theorem atoi110 {h:Hp} {n:Nat} (bs:List UInt8) (hc:Canon bs) (hl:bs.length<=100000) (he:Err h n) :
  Fn E 110 [strOf bs] h n fun r h' n'=>Gr h n h' n'/\∃ v e,r=.tup [.int .i64 v,e]/\((e=.nili/\v=valS bs)\/((∃ u,e=.ifc 427 u)/\9223372036854775807 < natS (unsign bs))):=by
 refine Fn.of code110 (by decide) rfl fun Q cs hq=>?_
 show SW E Q 110 [(r0,strOf bs)] _ _ _ _
 have hnb:bs≠[]:=fun e=>hc.ne (by rw [e];rfl)
 repeat' first|refine SW.a rfl ?_|refine SW.reg ?_|refine SO.nil ?_|refine SO.a rfl ?_
 refine SO.callG rfl rfl rfl (atoi190 bs hc hl) ?_
 rintro _ h1 n1 ⟨hE1,v,e,rfl,⟨rfl,hv⟩ |⟨rfl,hbig⟩⟩
 ·repeat' first|refine SO.nilNil rfl rfl rfl rfl ?_|refine SW.a rfl ?_|refine SW.reg ?_|refine SO.nil ?_|refine SO.a rfl ?_
  exact SW.ret code110 ⟨_,rfl,_,rfl,hq _ _ _ ⟨hE1,v,_,rfl,.inl ⟨rfl,hv⟩⟩⟩
 ·repeat' first|refine SO.ifcNil rfl rfl rfl rfl ?_|refine SW.a rfl ?_|refine SW.reg ?_|refine SO.nil ?_|refine SO.a rfl ?_
  refine SO.callG rfl rfl rfl (toError191 [65,116,111,105] bs hnb hl (he.ext hE1)) ?_
  rintro _ h2 n2 ⟨⟨u,rfl⟩,hE2⟩
  repeat' first|refine SO.nil ?_|refine SO.a rfl ?_
  exact SW.ret code110 ⟨_,rfl,_,rfl,hq _ _ _ ⟨hE1.trans hE2,v,_,rfl,.inr ⟨⟨u,rfl⟩,hbig⟩⟩⟩
theorem number61 {h:Hp} {n:Nat} (x:XR) (hx:XGood h n x) (he:Err h n) :
  Fn E 61 [.agg (xC x)] h n fun r h' n'=>Gr h n h' n'/\∃ e:Int,r=.tup [.int .i64 (numD x.sx),.int .i64 e]/\(e=0 ↔ isN x.sx=true):=by
 refine Fn.of code61 (by decide) rfl fun Q cs hq=>?_
 show SW E Q 61 [(r0,.agg (xC x))] _ _ _ _
 repeat' first|refine SO.box rfl rfl rfl (by simp) (fun h1 hc1 hE1=>?_)|refine SW.a rfl ?_|refine SW.reg ?_|refine SO.nil ?_|refine SO.a rfl ?_
 have hc1':hb h1 n=some (.cell (xC x) 56 false):=hc1
 refine SO.loadVA rfl rfl rfl hc1' (xC_length x) ?_
 refine SO.callG rfl rfl rfl (xcheck24 x (hx.ok.ext hE1) hx.fit hx.few) ?_
 rintro _ h2 n2 ⟨rfl,hE2⟩
 have hE12:Gr h n h2 n2:=hE1.trans hE2
 have hc2:hb h2 n=some (.cell (xC x) 56 false):=by rw [hE2.same n (by omega)];exact hc1'
 cases x with
 | list v xs =>
  repeat' first|refine SO.loadV rfl rfl rfl hc2 rfl ?_|refine SW.a rfl ?_|refine SW.reg ?_|refine SO.nil ?_|refine SO.a rfl ?_|refine SO.cF rfl (by omega) ?_|fail
  exact SW.ret code61 ⟨_,rfl,_,rfl,hq _ _ _ ⟨hE12,8,rfl,by simp [isN,numX,XR.sx]⟩⟩
 | atom bs =>
  have hl:bs.length<=65536:=by
   cases hx.fit with
   | atom _ _ hb=>exact hb
  repeat' first|refine SO.loadV rfl rfl rfl hc2 rfl ?_|refine SW.a rfl ?_|refine SW.reg ?_|refine SO.nil ?_|refine SO.a rfl ?_|refine SO.cF rfl (by omega) ?_|fail
  refine SO.callG rfl rfl rfl (canon109 bs (by omega)) ?_
  rintro _ h3 n3 ⟨rfl,rfl,rfl⟩
  cases hcan:canonS bs with
  | false =>
   have hn:numX (XR.atom bs).sx=none:=by simp [XR.sx,numX,numS,hcan]
   repeat' first|refine SW.a rfl ?_|refine SW.reg ?_|refine SO.nil ?_|refine SO.a rfl ?_
   exact SW.ret code61 ⟨_,rfl,_,rfl,hq _ _ _ ⟨hE12,3,by simp [numD,hn,packA],by simp [isN,hn]⟩⟩
  | true =>
   have hc:=canon_of hcan
   repeat' first|refine SO.loadV rfl rfl rfl hc2 rfl ?_|refine SW.a rfl ?_|refine SW.reg ?_|refine SO.nil ?_|refine SO.a rfl ?_
   refine SO.callG rfl rfl rfl (atoi110 bs hc (by omega) (he.ext hE12)) ?_
   rintro _ h4 n4 ⟨hE4,v,e,rfl,⟨rfl,rfl⟩ |⟨⟨u,rfl⟩,hbig⟩⟩
   ·have hv:valS bs=(natS (unsign bs):Int)\/valS bs=-(natS (unsign bs):Int):=by
     unfold valS;split
     ·exact .inr rfl
     ·exact .inl rfl
    by_cases hsm:natS (unsign bs)<=1099511627776
    ·have hn:numX (XR.atom bs).sx=some (valS bs):=by
      simp only [XR.sx,numX,numS]
      rw [if_pos ⟨hcan,hsm⟩];rfl
     have e1:numD (XR.atom bs).sx=valS bs:=by simp [numD,hn]
     have e2:isN (XR.atom bs).sx=true:=by simp [isN,hn]
     rw [e1,e2] at hq
     generalize valS bs=w at *
     repeat' first|refine SO.nilNil rfl rfl rfl rfl ?_|refine SW.a rfl ?_|refine SW.reg ?_|refine SO.nil ?_|refine SO.a rfl ?_|refine SO.cF rfl (by omega) ?_|fail
     exact SW.ret code61 ⟨_,rfl,_,rfl,hq _ _ _ ⟨hE12.trans hE4,0,rfl,by simp⟩⟩
    ·have hn:numX (XR.atom bs).sx=none:=by
      simp only [XR.sx,numX,numS]
      rw [if_neg (fun e=>hsm e.2)]
     have e1:numD (XR.atom bs).sx=0:=by simp [numD,hn]
     have e2:isN (XR.atom bs).sx=false:=by simp [isN,hn]
     rw [e1,e2] at hq
     generalize valS bs=w at *
     by_cases hneg:w < -1099511627776
     ·repeat' first|refine SO.nilNil rfl rfl rfl rfl ?_|refine SW.a rfl ?_|refine SW.reg ?_|refine SO.nil ?_|refine SO.a rfl ?_|refine SO.cT rfl (by omega) ?_|fail
      exact SW.ret code61 ⟨_,rfl,_,rfl,hq _ _ _ ⟨hE12.trans hE4,2,rfl,by simp⟩⟩
     ·repeat' first|refine SO.nilNil rfl rfl rfl rfl ?_|refine SW.a rfl ?_|refine SW.reg ?_|refine SO.nil ?_|refine SO.a rfl ?_|refine SO.cT rfl (by omega) ?_|refine SO.cF rfl (by omega) ?_|fail
      exact SW.ret code61 ⟨_,rfl,_,rfl,hq _ _ _ ⟨hE12.trans hE4,2,rfl,by simp⟩⟩
   ·have hn:numX (XR.atom bs).sx=none:=by
     simp only [XR.sx,numX,numS]
     rw [if_neg (fun e=>by omega)]
    have e1:numD (XR.atom bs).sx=0:=by simp [numD,hn]
    have e2:isN (XR.atom bs).sx=false:=by simp [isN,hn]
    rw [e1,e2] at hq
    repeat' first|refine SO.ifcNil rfl rfl rfl rfl ?_|refine SW.a rfl ?_|refine SW.reg ?_|refine SO.nil ?_|refine SO.a rfl ?_
    exact SW.ret code61 ⟨_,rfl,_,rfl,hq _ _ _ ⟨hE12.trans hE4,2,rfl,by simp⟩⟩
set_option maxRecDepth 100000
set_option maxHeartbeats 8000000
def StE (ex:Nat->Prop) (m:Nat) (h:Hp) (P:Hp->Nat->Prop):Prop:=∀ (g:Hp) (k:Nat),m<=k->(∀ c,c < m->¬ ex c->hb g c=hb h c)->P g k
section
variable {ex:Nat->Prop} {m m':Nat} {h h':Hp} {P P':Hp->Nat->Prop}
theorem StE.now (s:StE ex m h P):P h m:=s h m (Nat.le_refl _) fun _ _ _=>rfl
theorem StE.step (s:StE ex m h P) (hm:m<=m') (hk:∀ c,c < m->¬ ex c->hb h' c=hb h c):StE ex m' h' P:=fun g j hj hg=>s g j (by omega) fun c h1 h2=>by rw [hg c (by omega) h2,hk c h1 h2]
theorem StE.but {b:Nat} (s:StE ex m h P) (hb0:ex b) (k:But b h m h' m'):StE ex m' h' P:=s.step k.1 fun c h1 h2=>k.2 c h1 fun e=>h2 (by rw [e];exact hb0)
theorem StE.mono (s:StE ex m h P) (k:∀ g j,P g j->P' g j):StE ex m h P':=fun g j hj hg=>k g j (s g j hj hg)
theorem idx_stE {esz l i:Nat} {v:AV} {cells:List AV} (s:StE ex m h (fun g j=>Sl g j esz v l cells)) (hi:i < l):∃ a o,(∀ (h':Hp) (n':Nat) K,execV (.idxSlA esz) [v,.int .i64 (i:Int)] h' n' K=K.v (.ptr a o) h' n')/\StE ex m h (fun g j=>Pt g j (.ptr a o) ((cells.drop (i*esz)).take esz)):=by
 obtain⟨a,o,h1,h2⟩:=ex_idxSlA s.now hi
 refine⟨a,o,h1,fun g j hj hg=>?_⟩
 obtain⟨a',o',h3,h4⟩:=ex_idxSlA (s g j hj hg) hi
 have h5:=(h1 h m ⟨fun v _ _=>dec (v=.ptr a o),fun _ _ _ _=>false,fun _ _ _ _=>false,fun _ _=>none⟩).symm.trans (h3 h m _)
 have h6:dec (AV.ptr a' o'=.ptr a o)=true:=h5.symm.trans (dec_iff.2 rfl)
 have h7:=dec_iff.1 h6
 simp only [AV.ptr.injEq] at h7
 obtain⟨rfl,rfl⟩:=h7
 exact h4
end
theorem XGood.lst {h:Hp} {n:Nat} {x:XR} (g:XGood h n x):(lstD x.sx).length < 20000:=by
 cases x with
 | atom bs=>simp [XR.sx,lstD]
 | list v xs =>
  simp only [XR.sx,lstD,sxs_eq,List.length_map]
  exact g.mem.2.2
abbrev wrC (w:Bool):List AV:=[.bool w]
theorem text31 {h:Hp} {n b:Nat} {w:Bool} (x:XR) (hc:hb h b=some (.cell (wrC w) 80 false)) (hbn:b < n) :
  Fn E 31 [.ptr b 0,.agg (xC x)] h n fun r h' n'=>r=strOf (txtD x.sx)/\hb h' b=some (.cell (wrC (w||!isA x.sx)) 80 false)/\But b h n h' n':=by
 refine Fn.of code31 (by decide) rfl fun Q cs hq=>?_
 show SW E Q 31 [(r0,.ptr b 0),(r1,.agg (xC x))] _ _ _ _
 repeat' first|refine SO.box rfl rfl rfl (by simp) (fun h1 hc1 hE1=>?_)|refine SW.a rfl ?_|refine SW.reg ?_|refine SO.nil ?_|refine SO.a rfl ?_
 have hcb:hb h1 b=some (.cell (wrC w) 80 false):=by rw [hE1.same b hbn];exact hc
 have hc1':hb h1 n=some (.cell (xC x) 56 false):=hc1
 cases x with
 | atom bs =>
  cases w with
  | true =>
   repeat' first|refine SO.loadV rfl rfl rfl hcb rfl ?_|refine SO.a rfl ?_
   refine SO.put1 rfl rfl rfl hcb rfl (by simp) (by simp) (fun h2 hc2 hk2=>?_)
   have hc2':hb h2 n=some (.cell (xC (.atom bs)) 56 false):=by rw [hk2 n (by omega)];exact hc1'
   repeat' first|refine SO.loadV rfl rfl rfl hc2' rfl ?_|refine SW.a rfl ?_|refine SW.reg ?_|refine SO.nil ?_|refine SO.a rfl ?_
   exact SW.ret code31 ⟨_,rfl,hq _ _ _ ⟨rfl,hc2,(But.of hE1).trans (But.put hk2)⟩⟩
  | false =>
   repeat' first|refine SO.loadV rfl rfl rfl hcb rfl ?_|refine SO.loadV rfl rfl rfl hc1' rfl ?_|refine SO.a rfl ?_
   refine SO.put1 rfl rfl rfl hcb rfl (by simp) (by simp) (fun h2 hc2 hk2=>?_)
   have hc2':hb h2 n=some (.cell (xC (.atom bs)) 56 false):=by rw [hk2 n (by omega)];exact hc1'
   repeat' first|refine SO.loadV rfl rfl rfl hc2' rfl ?_|refine SW.a rfl ?_|refine SW.reg ?_|refine SO.nil ?_|refine SO.a rfl ?_
   exact SW.ret code31 ⟨_,rfl,hq _ _ _ ⟨rfl,hc2,(But.of hE1).trans (But.put hk2)⟩⟩
 | list v xs =>
  cases w with
  | true =>
   repeat' first|refine SO.loadV rfl rfl rfl hcb rfl ?_|refine SO.a rfl ?_
   refine SO.put1 rfl rfl rfl hcb rfl (by simp) (by simp) (fun h2 hc2 hk2=>?_)
   have hc2':hb h2 n=some (.cell (xC (.list v xs)) 56 false):=by rw [hk2 n (by omega)];exact hc1'
   repeat' first|refine SO.loadV rfl rfl rfl hc2' rfl ?_|refine SW.a rfl ?_|refine SW.reg ?_|refine SO.nil ?_|refine SO.a rfl ?_
   exact SW.ret code31 ⟨_,rfl,hq _ _ _ ⟨rfl,hc2,(But.of hE1).trans (But.put hk2)⟩⟩
  | false =>
   repeat' first|refine SO.loadV rfl rfl rfl hcb rfl ?_|refine SO.loadV rfl rfl rfl hc1' rfl ?_|refine SO.a rfl ?_
   refine SO.put1 rfl rfl rfl hcb rfl (by simp) (by simp) (fun h2 hc2 hk2=>?_)
   have hc2':hb h2 n=some (.cell (xC (.list v xs)) 56 false):=by rw [hk2 n (by omega)];exact hc1'
   repeat' first|refine SO.loadV rfl rfl rfl hc2' rfl ?_|refine SW.a rfl ?_|refine SW.reg ?_|refine SO.nil ?_|refine SO.a rfl ?_
   exact SW.ret code31 ⟨_,rfl,hq _ _ _ ⟨rfl,hc2,(But.of hE1).trans (But.put hk2)⟩⟩
theorem int32 {h:Hp} {n b:Nat} {w:Bool} (x:XR) (hx:XGood h n x) (he:Err h n) (hc:hb h b=some (.cell (wrC w) 80 false)) (hbn:b < n) :
  Fn E 32 [.ptr b 0,.agg (xC x)] h n fun r h' n'=>r=.int .i64 (numD x.sx)/\hb h' b=some (.cell (wrC (w||!isN x.sx)) 80 false)/\But b h n h' n':=by
 refine Fn.of code32 (by decide) rfl fun Q cs hq=>?_
 show SW E Q 32 [(r0,.ptr b 0),(r1,.agg (xC x))] _ _ _ _
 repeat' first|refine SO.box rfl rfl rfl (by simp) (fun h1 hc1 hE1=>?_)|refine SW.a rfl ?_|refine SW.reg ?_|refine SO.nil ?_|refine SO.a rfl ?_
 have hc1':hb h1 n=some (.cell (xC x) 56 false):=hc1
 refine SO.loadVA rfl rfl rfl hc1' (xC_length x) ?_
 refine SO.callG rfl rfl rfl (number61 x (hx.ext hE1) (he.ext hE1)) ?_
 rintro _ h2 n2 ⟨hE2,e,rfl,hiff⟩
 have hE12:=hE1.trans hE2
 have hcb:hb h2 b=some (.cell (wrC w) 80 false):=by rw [hE12.same b hbn];exact hc
 generalize numD x.sx=v at *
 cases hn:isN x.sx with
 | true =>
  obtain rfl:e=0:=hiff.2 hn
  rw [hn] at hq
  cases w with
  | true =>
   repeat' first|refine SO.loadV rfl rfl rfl hcb rfl ?_|refine SW.a rfl ?_|refine SW.reg ?_|refine SO.nil ?_|refine SO.a rfl ?_
   refine SO.put1 rfl rfl rfl hcb rfl (by simp) (by simp) (fun h3 hc3 hk3=>?_)
   repeat' first|refine SW.a rfl ?_|refine SW.reg ?_|refine SO.nil ?_|refine SO.a rfl ?_
   exact SW.ret code32 ⟨_,rfl,hq _ _ _ ⟨rfl,hc3,(But.of hE12).trans (But.put hk3)⟩⟩
  | false =>
   repeat' first|refine SO.loadV rfl rfl rfl hcb rfl ?_|refine SW.a rfl ?_|refine SW.reg ?_|refine SO.nil ?_|refine SO.a rfl ?_|refine SO.cF rfl (by omega) ?_|fail
   refine SO.put1 rfl rfl rfl hcb rfl (by simp) (by simp) (fun h3 hc3 hk3=>?_)
   repeat' first|refine SW.a rfl ?_|refine SW.reg ?_|refine SO.nil ?_|refine SO.a rfl ?_
   exact SW.ret code32 ⟨_,rfl,hq _ _ _ ⟨rfl,hc3,(But.of hE12).trans (But.put hk3)⟩⟩
 | false =>
  have he0:e≠0:=fun e'=>by rw [hiff.1 e'] at hn;exact Bool.noConfusion hn
  rw [hn] at hq
  cases w with
  | true =>
   repeat' first|refine SO.loadV rfl rfl rfl hcb rfl ?_|refine SW.a rfl ?_|refine SW.reg ?_|refine SO.nil ?_|refine SO.a rfl ?_
   refine SO.put1 rfl rfl rfl hcb rfl (by simp) (by simp) (fun h3 hc3 hk3=>?_)
   repeat' first|refine SW.a rfl ?_|refine SW.reg ?_|refine SO.nil ?_|refine SO.a rfl ?_
   exact SW.ret code32 ⟨_,rfl,hq _ _ _ ⟨rfl,hc3,(But.of hE12).trans (But.put hk3)⟩⟩
  | false =>
   repeat' first|refine SO.loadV rfl rfl rfl hcb rfl ?_|refine SW.a rfl ?_|refine SW.reg ?_|refine SO.nil ?_|refine SO.a rfl ?_|refine SO.cT rfl (by omega) ?_|fail
   refine SO.put1 rfl rfl rfl hcb rfl (by simp) (by simp) (fun h3 hc3 hk3=>?_)
   repeat' first|refine SW.a rfl ?_|refine SW.reg ?_|refine SO.nil ?_|refine SO.a rfl ?_
   exact SW.ret code32 ⟨_,rfl,hq _ _ _ ⟨rfl,hc3,(But.of hE12).trans (But.put hk3)⟩⟩
def ElsP (ys:List XR) (u:AV) (g:Hp) (k:Nat):Prop:=Sl g k 3 u ys.length (ys.flatMap xC)/\∀ y ∈ ys,XGood g k y
theorem els_list {ex:Nat->Prop} {h:Hp} {n:Nat} {v:AV} {xs:List XR} (hx:StE ex n h (fun g k=>XGood g k (.list v xs))):StE ex n h (ElsP xs v):=hx.mono fun g k hg=>⟨hg.mem.1,hg.mem.2.1⟩
theorem rep_flat:∀ k:Nat,(List.replicate k (XR.atom [])).flatMap xC=rep (xC (.atom [])) k
 | 0=>rfl
 | k+1=>by rw [List.replicate_succ,List.flatMap_cons,rep_flat k];rfl
theorem els_new {ex:Nat->Prop} {n k:Nat} {h:Hp} {e:TypeId} (hb0:hb h n=some (.cell (rep (xC (.atom [])) k) e false)) (hbn:¬ ex n):StE ex (n+1) h (ElsP (List.replicate k (.atom [])) (.slc n 0 k k)):=fun g j hj hg=>by
 have h1:(List.replicate k (XR.atom [])).flatMap xC=rep (xC (.atom [])) k:=rep_flat k
 have hlen:(rep (xC (.atom [])) k).length=k*3:=by
  have:=flatMap_length xC_length (List.replicate k (XR.atom []))
  rw [h1,List.length_replicate] at this
  exact this
 refine⟨⟨by rw [h1,List.length_replicate,hlen],.inr ⟨n,0,k,rep (xC (.atom [])) k,.inl ⟨by rw [List.length_replicate],by rw [List.length_replicate];exact Nat.le_refl _⟩,⟨by omega,.inl ⟨_,_,by rw [hg n (by omega) hbn];exact hb0⟩⟩,by rw [List.length_replicate,hlen];omega,by rw [List.length_replicate,h1,List.drop_zero,List.take_of_length_le (by rw [hlen];omega)]⟩⟩,fun y hy=>?_⟩
 obtain rfl:=List.eq_of_mem_replicate hy
 exact XGood.atom g j [] (by simp)
theorem rep_sx (k:Nat):(List.replicate k (XR.atom [])).map XR.sx=List.replicate k (.atom []):=by simp [XR.sx]
theorem elsN30 {ex:Nat->Prop} {h:Hp} {n b:Nat} {w:Bool} (k:Nat) (hk:0 < k/\k<=100) (x:XR) (hx:StE ex n h (fun g j=>XGood g j x)) (heb:ex b) (hex:∀ c,ex c->c < n) (hc:hb h b=some (.cell (wrC w) 80 false)) (hbn:b < n) :
  Fn E 30 [.ptr b 0,.agg (xC x),.int .i64 (k:Int)] h n fun r h' n'=>∃ ys,ys.map XR.sx=tupD k x.sx/\StE ex n' h' (ElsP ys r)/\hb h' b=some (.cell (wrC (w||!isT k x.sx)) 80 false)/\But b h n h' n':=by
 refine Fn.of code30 (by decide) rfl fun Q cs hq=>?_
 show SW E Q 30 [(r0,.ptr b 0),(r1,.agg (xC x)),(r2,.int .i64 (k:Int))] _ _ _ _
 repeat' first|refine SO.box rfl rfl rfl (by simp) (fun h1 hc1 hE1=>?_)|refine SW.a rfl ?_|refine SW.reg ?_|refine SO.nil ?_|refine SO.a rfl ?_
 have hcb:hb h1 b=some (.cell (wrC w) 80 false):=by rw [hE1.same b hbn];exact hc
 have hc1':hb h1 n=some (.cell (xC x) 56 false):=hc1
 have hB1:But b h n h1 (n+1):=But.of hE1
 have hwrong:∀ (R:List (Path × AV)) (todo:List AItem),tupD k x.sx=List.replicate k (.atom [])->isT k x.sx=false->look R r23=some (.ptr b 0)->look R r2=some (.int .i64 (k:Int))->SO E Q 30 .ops R [⟨none,none,[.r r23,.c (.bool true)],.store 1⟩] (.code (.seq (.reg c30x3) .ret)::todo) cs h1 (n+1):=by
  intro R todo ht hf q0 q2
  refine SO.forget (R':=[(r23,.ptr b 0),(r2,.int .i64 (k:Int))]) (by simp [q0,q2]) ?_
  rw [ht,hf] at hq
  refine SO.put1 rfl rfl rfl hcb rfl (by simp) (by simp) (fun h2 hc2 hk2=>?_)
  repeat' first|refine SO.maxI (z:=(k:Int)) rfl rfl rfl rfl (by rw [if_neg (by omega)]) ?_|refine SO.mkSlice k rfl rfl rfl rfl (by omega) (by omega) (fun h3 hc3 hE3=>?_)|refine SW.a rfl ?_|refine SW.reg ?_|refine SO.nil ?_|refine SO.a rfl ?_
  refine SW.ret code30 ⟨_,rfl,hq _ _ _ ⟨List.replicate k (.atom []),rep_sx k,els_new hc3 (fun e=>by have:=hex _ e;omega),?_,(hB1.trans (But.put hk2)).trans (But.of hE3)⟩⟩
  rw [hE3.same b (by omega)]
  cases w<;>exact hc2
 cases x with
 | atom bs =>
  repeat' first|refine SO.loadV rfl rfl rfl hc1' rfl ?_|refine SW.a rfl ?_|refine SW.reg ?_|refine SO.nil ?_|refine SO.a rfl ?_
  exact hwrong _ _ rfl rfl rfl rfl
 | list v xs =>
  have hg:=hx.now.mem
  have hs1:=hg.1.ext hE1
  by_cases hlen:xs.length=k
  ·have ht:tupD k (XR.list v xs).sx=xs.map XR.sx:=by
    simp only [XR.sx,tupD,sxs_eq,List.length_map]
    rw [if_pos hlen]
   have hf:isT k (XR.list v xs).sx=true:=by simp [XR.sx,isT,sxs_eq,hlen]
   rw [ht,hf] at hq
   repeat' first|refine SO.loadV rfl rfl rfl hc1' rfl ?_|refine SO.lenSl rfl rfl rfl hs1 ?_|refine SW.a rfl ?_|refine SW.reg ?_|refine SO.nil ?_|refine SO.a rfl ?_|refine SO.cT rfl (by omega) ?_|refine SO.cF rfl (by omega) ?_|fail
   exact SW.ret code30 ⟨_,rfl,hq _ _ _ ⟨xs,rfl,(els_list hx).but heb hB1,by rw [show (w||!true)=w by simp];exact hcb,hB1⟩⟩
  ·have ht:tupD k (XR.list v xs).sx=List.replicate k (.atom []):=by
    simp only [XR.sx,tupD,sxs_eq,List.length_map]
    rw [if_neg hlen]
   have hf:isT k (XR.list v xs).sx=false:=by simp [XR.sx,isT,sxs_eq,hlen]
   repeat' first|refine SO.loadV rfl rfl rfl hc1' rfl ?_|refine SO.lenSl rfl rfl rfl hs1 ?_|refine SW.a rfl ?_|refine SW.reg ?_|refine SO.nil ?_|refine SO.a rfl ?_|refine SO.cT rfl (by omega) ?_|fail
   exact hwrong _ _ ht hf rfl rfl
theorem elsA30 {ex:Nat->Prop} {h:Hp} {n b:Nat} {w:Bool} (x:XR) (hx:StE ex n h (fun g j=>XGood g j x)) (heb:ex b) (hex:∀ c,ex c->c < n) (hc:hb h b=some (.cell (wrC w) 80 false)) (hbn:b < n) :
  Fn E 30 [.ptr b 0,.agg (xC x),.int .i64 (-1)] h n fun r h' n'=>∃ ys,ys.map XR.sx=lstD x.sx/\StE ex n' h' (ElsP ys r)/\hb h' b=some (.cell (wrC (w||!isL x.sx)) 80 false)/\But b h n h' n':=by
 refine Fn.of code30 (by decide) rfl fun Q cs hq=>?_
 show SW E Q 30 [(r0,.ptr b 0),(r1,.agg (xC x)),(r2,.int .i64 (-1))] _ _ _ _
 repeat' first|refine SO.box rfl rfl rfl (by simp) (fun h1 hc1 hE1=>?_)|refine SW.a rfl ?_|refine SW.reg ?_|refine SO.nil ?_|refine SO.a rfl ?_
 have hcb:hb h1 b=some (.cell (wrC w) 80 false):=by rw [hE1.same b hbn];exact hc
 have hc1':hb h1 n=some (.cell (xC x) 56 false):=hc1
 have hB1:But b h n h1 (n+1):=But.of hE1
 cases x with
 | atom bs =>
  repeat' first|refine SO.loadV rfl rfl rfl hc1' rfl ?_|refine SW.a rfl ?_|refine SW.reg ?_|refine SO.nil ?_|refine SO.a rfl ?_
  refine SO.put1 rfl rfl rfl hcb rfl (by simp) (by simp) (fun h2 hc2 hk2=>?_)
  repeat' first|refine SO.maxI (z:=0) rfl rfl rfl rfl rfl ?_|refine SO.mkSlice 0 rfl rfl rfl rfl (by omega) (by omega) (fun h3 hc3 hE3=>?_)|refine SW.a rfl ?_|refine SW.reg ?_|refine SO.nil ?_|refine SO.a rfl ?_
  refine SW.ret code30 ⟨_,rfl,hq _ _ _ ⟨List.replicate 0 (.atom []),rfl,els_new hc3 (fun e=>by have:=hex _ e;omega),?_,(hB1.trans (But.put hk2)).trans (But.of hE3)⟩⟩
  rw [hE3.same b (by omega)]
  cases w<;>exact hc2
 | list v xs =>
  have ht:lstD (XR.list v xs).sx=xs.map XR.sx:=by simp only [XR.sx,lstD,sxs_eq]
  rw [ht] at hq
  repeat' first|refine SO.loadV rfl rfl rfl hc1' rfl ?_|refine SW.a rfl ?_|refine SW.reg ?_|refine SO.nil ?_|refine SO.a rfl ?_|refine SO.cF rfl (by omega) ?_|fail
  exact SW.ret code30 ⟨_,rfl,hq _ _ _ ⟨xs,rfl,(els_list hx).but heb hB1,by rw [show (w||!isL (XR.list v xs).sx)=w by simp [XR.sx,isL]];exact hcb,hB1⟩⟩
end Go.Ev
