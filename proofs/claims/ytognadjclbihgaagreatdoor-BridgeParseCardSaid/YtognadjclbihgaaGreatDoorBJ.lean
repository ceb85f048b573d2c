/- Contracts: quiltref01.Read, decimal, Number. -/
import Derived.Test.YtognadjclbihgaaGreatDoorE6
import Derived.Test.YtognadjclbihgaaGreatDoorBI
import Derived.Test.YtognadjclbihgaaGreatDoorPA
import Derived.Test.YtognadjclbihgaaGreatDoorBC
set_option linter.all false
namespace Go.Ev
set_option maxRecDepth 100000
set_option maxHeartbeats 16000000
theorem refRead16 {h:Hp} {n:Nat} (s:List UInt8) (hl:s.length<=100000):Fn E 16 [strOf s] h n fun r h' n'=>Gr h n h' n' /\
  ((∃ (x:XR) (rest:List UInt8) (left:Nat),readS 12 s 20000=.ok x.sx rest left/\r=.tup [.agg (xC x),.int .i64 ((s.length - rest.length:Nat):Int),.int .i64 0]/\Stand n n' h' (fun g m=>XOk g m x)) \/
   ∃ e,readS 12 s 20000=.err e/\r=.tup [.agg xZ,.int .i64 0,.int .i64 e]):=by
 refine Fn.of code16 (by decide) rfl fun Q cs hq=>?_
 show SW E Q 16 [(r0,strOf s)] _ _ _ _
 repeat' first|refine SO.alloc rfl rfl (fun h1 c1 E1=>?_)|refine SO.build (v:=.agg (rrC s 0 20000 0)) rfl rfl rfl (fun K=>rfl) ?_|refine SW.a rfl ?_|refine SW.reg ?_|refine SO.nil ?_|refine SO.a rfl ?_
 refine SO.callG rfl rfl rfl (refRead34 s hl 12 (by omega) h1 (n+1) 0 20000 (by omega) (by omega)) ?_
 rintro _ h2 m2 ⟨E2,hR⟩
 have l2:=E2.le
 unfold RdR at hR
 rw [List.drop_zero] at hR
 rcases hR with ⟨x,rest,left,hr,rfl,hst⟩ |⟨A,B,C,e,a',left',hr,ha',rfl⟩
 ·obtain⟨A,B,C,hx3⟩:=xC_three' x
  rw [hx3]
  repeat' refine SO.a rfl ?_
  refine SO.alloc rfl rfl (fun g3 f3 E3=>?_)
  refine SO.alloc rfl rfl (fun g4 f4 E4=>?_)
  refine SO.storeAll rfl rfl rfl (by rw [E4.same _ (by omega)];exact f3) rfl rfl (fun g5 f5 k5=>?_)
  refine SO.storeAll rfl rfl rfl (by rw [k5 _ (by omega)];exact f4) rfl rfl (fun g6 f6 k6=>?_)
  have hk6:∀ c,c < m2->hb g6 c=hb h2 c:=fun c h1=>by rw [k6 c (by omega),k5 c (by omega),E4.same c (by omega),E3.same c h1]
  have f5':hb g6 m2=some (.cell [A,B,C] 56 false):=by rw [k6 _ (by omega)];exact f5
  repeat' first|refine SO.loadV rfl rfl rfl f6 rfl ?_|refine SO.loadVA rfl rfl rfl f5' rfl ?_|refine SW.a rfl ?_|refine SW.reg ?_|refine SO.nil ?_|(refine SW.drawG ?_;simp only [gOps,gRc,gTail])|refine SO.a rfl ?_|refine SO.cF rfl (by omega) ?_|fail
  refine SO.storeAll rfl rfl rfl (by rw [hk6 _ (by omega),E2.same _ (by omega)];exact c1) rfl rfl (fun g7 f7 k7=>?_)
  have f6':hb g7 (m2+1)=some (.cell (rrC s (s.length - rest.length) left 0) 89 false):=by rw [k7 _ (by omega)];exact f6
  refine SO.more (Still.loadV (c:=⟨none,none,[],.mov⟩) rfl rfl rfl f6' rfl Still.nil) ?_
  simp only [gOps,gRc,gTail]
  repeat' first|refine SO.nilD ?_|refine SO.a rfl ?_
  refine SW.ret code16 ⟨n,0,_,rfl,.inl ⟨_,_,f7⟩,by simp,_,rfl,_,rfl,hq _ _ _ ⟨⟨by omega,fun c hc=>by rw [k7 _ (by omega),hk6 _ (by omega),E2.same _ (by omega)];exact E1.same c hc⟩,.inl ⟨x,rest,left,hr,by rw [hx3];rfl,?_⟩⟩⟩
  exact (hst.keep fun c h1 h2=>by rw [k7 _ (by omega)];exact hk6 c h2).wide (by omega) (by omega)
 ·have he0:=readS_err _ _ _ _ hr
  repeat' refine SO.a rfl ?_
  refine SO.alloc rfl rfl (fun g3 f3 E3=>?_)
  refine SO.alloc rfl rfl (fun g4 f4 E4=>?_)
  refine SO.storeAll rfl rfl rfl (by rw [E4.same _ (by omega)];exact f3) rfl rfl (fun g5 f5 k5=>?_)
  refine SO.storeAll rfl rfl rfl (by rw [k5 _ (by omega)];exact f4) rfl rfl (fun g6 f6 k6=>?_)
  have hk6:∀ c,c < m2->hb g6 c=hb h2 c:=fun c h1=>by rw [k6 c (by omega),k5 c (by omega),E4.same c (by omega),E3.same c h1]
  repeat' first|refine SO.loadV rfl rfl rfl f6 rfl ?_|refine SO.build (v:=.agg xZ) rfl rfl rfl (fun K=>rfl) ?_|refine SW.a rfl ?_|refine SW.reg ?_|refine SO.nil ?_|(refine SW.drawG ?_;simp only [gOps,gRc,gTail])|refine SO.a rfl ?_|refine SO.cT rfl (by omega) ?_|fail
  refine SO.storeAll rfl rfl rfl (by rw [hk6 _ (by omega),E2.same _ (by omega)];exact c1) rfl rfl (fun g7 f7 k7=>?_)
  have f6':hb g7 (m2+1)=some (.cell (rrC s a' left' e) 89 false):=by rw [k7 _ (by omega)];exact f6
  refine SO.more (Still.loadV (c:=⟨none,none,[],.mov⟩) rfl rfl rfl f6' rfl Still.nil) ?_
  simp only [gOps,gRc,gTail]
  repeat' first|refine SO.nilD ?_|refine SO.a rfl ?_
  exact SW.ret code16 ⟨n,0,_,rfl,.inl ⟨_,_,f7⟩,by simp,_,rfl,_,rfl,hq _ _ _ ⟨⟨by omega,fun c hc=>by rw [k7 _ (by omega),hk6 _ (by omega),E2.same _ (by omega)];exact E1.same c hc⟩,.inr ⟨e,hr,rfl⟩⟩⟩
def digsS (bs:List UInt8):Bool:=bs.all digB&&(bs.length == 1||(decide (1 < bs.length)&&!(bs.head? == some 48)))
theorem dec_plain {h:Hp} {n:Nat} (bs:List UInt8) (hl:bs.length<=100000) (hm:bs.length<=1\/bs.head?≠some 45):Fn E 116 [strOf bs] h n fun r h' n'=>r=.bool (digsS bs)/\h'=h/\n'=n:=by
 refine Fn.of code116 (by decide) rfl fun Q cs hq=>?_
 show SW E Q 116 [(r0,strOf bs)] _ _ _ _
 have hret:∀ (b:Bool) (R:List (Path × AV)) (todo:List AItem),b=digsS bs->look R r2=some (.bool b)->SW E Q 116 R (.code .ret::todo) cs h n:=fun b R todo hb q2=>SW.ret code116 ⟨_,q2,hq _ _ _ ⟨by rw [hb];rfl,rfl,rfl⟩⟩
 have loop:∀ (k i:Nat),i+k=bs.length->(bs.take i).all digB=true->∀ R,look R r0=some (strOf bs)->look R r3=some (.int .i64 (i:Int))->SW E Q 116 R [.code c116x8,.inLoop c116x8,.inBlock 0,.code (.seq (.reg c116x9) .ret)] cs h n:=by
  intro k
  induction k with
  | zero =>
   intro i hi hall R q0 q3
   rw [show i=bs.length by omega,List.take_length] at hall
   refine SW.sub (R':=[(r0,strOf bs),(r3,.int .i64 (i:Int))]) (by simp [q0,q3]) ?_
   by_cases h1:bs.length=1
   ·repeat' first|refine SW.a rfl ?_|refine SW.reg ?_|refine SO.nil ?_|refine SO.a rfl ?_|refine SO.cT rfl (by omega) ?_|refine SO.cF rfl (by omega) ?_|fail
    exact hret true _ _ (by simp [digsS,hall,h1]) rfl
   by_cases h2:1 < bs.length
   ·have hlt:0 < bs.length:=by omega
    have hhd:bs.head?=some bs[0]:=by rw [List.head?_eq_getElem?,List.getElem?_eq_getElem hlt]
    by_cases h48:bs[0].toNat=48
    ·have:bs[0]=48:=by apply UInt8.toNat_inj.1;rw [h48];rfl
     repeat' first|refine SO.idxStrAt 0 rfl rfl rfl rfl rfl hlt ?_|refine SW.a rfl ?_|refine SW.reg ?_|refine SO.nil ?_|refine SO.a rfl ?_|refine SO.cT rfl (by omega) ?_|refine SO.cF rfl (by omega) ?_|fail
     exact hret false _ _ (by simp [digsS,hall,h1,h2,hhd,this]) rfl
    ·have:bs[0]≠48:=fun e=>h48 (by rw [e];rfl)
     repeat' first|refine SO.idxStrAt 0 rfl rfl rfl rfl rfl hlt ?_|refine SW.a rfl ?_|refine SW.reg ?_|refine SO.nil ?_|refine SO.a rfl ?_|refine SO.cT rfl (by omega) ?_|refine SO.cF rfl (by omega) ?_|fail
     exact hret true _ _ (by simp [digsS,hall,h1,h2,hhd,this]) rfl
   ·repeat' first|refine SW.a rfl ?_|refine SW.reg ?_|refine SO.nil ?_|refine SO.a rfl ?_|refine SO.cF rfl (by omega) ?_|fail
    exact hret false _ _ (by simp [digsS,h1,h2]) rfl
  | succ k ih =>
   intro i hi hall R q0 q3
   have hlt:i < bs.length:=by omega
   refine SW.sub (R':=[(r0,strOf bs),(r3,.int .i64 (i:Int))]) (by simp [q0,q3]) ?_
   have hbad:digB bs[i]=false->digsS bs=false:=fun hb=>by
    cases ha:bs.all digB with
    | false=>simp [digsS,ha]
    | true=>rw [List.all_eq_true] at ha;rw [ha _ (List.getElem_mem hlt)] at hb;simp at hb
   by_cases h1:bs[i].toNat < 48
   ·repeat' first|refine SO.idxStrAt i rfl rfl rfl rfl rfl hlt ?_|refine SW.a rfl ?_|refine SW.reg ?_|refine SO.nil ?_|refine SO.a rfl ?_|refine SO.cT rfl (by omega) ?_|fail
    exact hret false _ _ (hbad (by simp [digB];omega)).symm rfl
   by_cases h2:57 < bs[i].toNat
   ·repeat' first|refine SO.idxStrAt i rfl rfl rfl rfl rfl hlt ?_|refine SW.a rfl ?_|refine SW.reg ?_|refine SO.nil ?_|refine SO.a rfl ?_|refine SO.cT rfl (by omega) ?_|refine SO.cF rfl (by omega) ?_|fail
    exact hret false _ _ (hbad (by simp [digB];omega)).symm rfl
   repeat' first|refine SO.idxStrAt i rfl rfl rfl rfl rfl hlt ?_|refine SW.a rfl ?_|refine SW.reg ?_|refine SO.nil ?_|refine SO.a rfl ?_|refine SO.cT rfl (by omega) ?_|refine SO.cF rfl (by omega) ?_|refine SO.add rfl rfl rfl rfl (by omega) ?_|fail
   refine SW.again ?_
   refine ih (i+1) (by omega) ?_ _ rfl rfl
   rw [List.take_succ_eq_append_getElem hlt,List.all_append,hall]
   simp [digB];omega
 by_cases h1:1 < bs.length
 ·have hlt:0 < bs.length:=by omega
  have hhd:bs.head?=some bs[0]:=by rw [List.head?_eq_getElem?,List.getElem?_eq_getElem hlt]
  have h45:bs[0].toNat≠45:=fun e=>by
   rcases hm with hm|hm
   ·omega
   ·exact hm (by rw [hhd];congr 1;apply UInt8.toNat_inj.1;rw [e];rfl)
  repeat' first|refine SO.idxStrAt 0 rfl rfl rfl rfl rfl hlt ?_|refine SW.a rfl ?_|refine SW.reg ?_|refine SO.nil ?_|refine SO.a rfl ?_|refine SO.cT rfl (by omega) ?_|refine SO.cF rfl (by omega) ?_|fail
  refine SW.loop ?_
  exact loop bs.length 0 (by omega) (by simp) _ rfl rfl
 ·repeat' first|refine SW.a rfl ?_|refine SW.reg ?_|refine SO.nil ?_|refine SO.a rfl ?_|refine SO.cF rfl (by omega) ?_|fail
  refine SW.loop ?_
  exact loop bs.length 0 (by omega) (by simp) _ rfl rfl
set_option maxRecDepth 100000
set_option maxHeartbeats 16000000
theorem digs_canon {bs:List UInt8} (hm:bs.length<=1\/bs.head?≠some 45):digsS bs=canonS bs:=by
 cases bs with
 | nil=>rfl
 | cons c l =>
  by_cases hc:c=45
  ·subst hc
   rcases hm with hm|hm
   ·have:l=[]:=by simpa using hm
    subst this;rfl
   ·simp at hm
  ·have hu:unsign (c::l)=c::l:=by
    unfold unsign
    split
    ·rename_i h;simp only [List.cons.injEq] at h;exact absurd h.1 hc
    ·rfl
   unfold digsS canonS
   rw [hu]
   cases l with
   | nil=>by_cases h48:c=48<;>simp [h48]
   | cons d l=>by_cases h48:c=48<;>simp [h48]
theorem decimal116:∀ (k:Nat) (bs:List UInt8),bs.length<=k->bs.length<=100000->∀ (h:Hp) (n:Nat),Fn E 116 [strOf bs] h n fun r h' n'=>r=.bool (canonS bs)/\h'=h/\n'=n:=by
 intro k
 induction k with
 | zero =>
  intro bs hk hl h n
  have hm:bs.length<=1\/bs.head?≠some 45:=.inl (by omega)
  rw [<- digs_canon hm];exact dec_plain bs hl hm
 | succ k ih =>
  intro bs hk hl h n
  by_cases hm:bs.length<=1\/bs.head?≠some 45
  ·rw [<- digs_canon hm];exact dec_plain bs hl hm
  obtain⟨l,rfl,hne⟩:∃ l,bs=45::l/\l≠[]:=by
   cases bs with
   | nil=>simp at hm
   | cons c l =>
    by_cases hc:c=45
    ·subst hc
     exact⟨l,rfl,fun e=>hm (.inl (by simp [e]))⟩
    ·exact absurd (.inr (by simpa using hc)) hm
  refine Fn.of code116 (by decide) rfl fun Q cs hq=>?_
  show SW E Q 116 [(r0,strOf (45::l))] _ _ _ _
  have hret:∀ (b:Bool) (R:List (Path × AV)) (todo:List AItem),b=canonS (45::l)->look R r2=some (.bool b)->SW E Q 116 R (.code .ret::todo) cs h n:=fun b R todo hb q2=>SW.ret code116 ⟨_,q2,hq _ _ _ ⟨by rw [hb];rfl,rfl,rfl⟩⟩
  obtain⟨c,r,rfl⟩:=List.exists_cons_of_ne_nil hne
  have hlen:((45:UInt8)::c::r).length=r.length+2:=by simp
  have hlt:0 <((45:UInt8)::c::r).length:=by omega
  have hlt1:1 <((45:UInt8)::c::r).length:=by omega
  have hle1:1<=((45:UInt8)::c::r).length:=by omega
  by_cases h0:c::r=[48]
  ·repeat' first|refine SO.idxStrAt 0 rfl rfl rfl rfl rfl hlt ?_|refine SO.eqiT rfl rfl rfl rfl (show ((45:UInt8).toNat:Int)=45 by decide) ?_|refine SO.strNe rfl rfl rfl rfl (fun hne=>absurd (by rw [h0]) hne) (fun _=>?_)|refine SW.a rfl ?_|refine SW.reg ?_|refine SO.nil ?_|refine SO.a rfl ?_|refine SO.cT rfl (by omega) ?_|fail
   exact hret false _ _ (by rw [h0];rfl) rfl
  repeat' first|refine SO.idxStrAt 0 rfl rfl rfl rfl rfl hlt ?_|refine SO.eqiT rfl rfl rfl rfl (show ((45:UInt8).toNat:Int)=45 by decide) ?_|refine SO.strNe rfl rfl rfl rfl (fun _=>?_) (fun he=>absurd (by simpa using he) h0)|refine SO.sliceTFb 1 rfl rfl rfl rfl rfl hle1 ?_|refine SW.a rfl ?_|refine SW.reg ?_|refine SO.nil ?_|refine SO.a rfl ?_|refine SO.cT rfl (by omega) ?_|fail
  refine SO.callG rfl rfl rfl (ih (c::r) (by simp at hk ⊢;omega) (by simp at hl ⊢;omega) h n) ?_
  rintro _ h' n' ⟨rfl,e1,e2⟩
  rw [e1,e2]
  have hcan:canonS (45::c::r)=(canonS (c::r)&&!(c == 45)):=by
   by_cases hc:c=45
   ·subst hc
    have:digB 45=false:=by decide
    simp [canonS,unsign,this]
   ·have hu:unsign (c::r)=c::r:=by
     unfold unsign
     split
     ·rename_i h;simp only [List.cons.injEq] at h;exact absurd h.1 hc
     ·rfl
    have hu2:unsign (45::c::r)=c::r:=rfl
    unfold canonS
    rw [hu,hu2]
    by_cases h48:c=48
    ·subst h48
     have:(48::r == [48])=false:=by simpa using h0
     simp [this]
    ·have q1:(c == 48)=false:=by simpa using h48
     have q2:(c == 45)=false:=by simpa using hc
     simp [q1,q2]
  cases hcr:canonS (c::r) with
  | false =>
   repeat' first|refine SO.nil ?_|refine SO.a rfl ?_
   exact hret false _ _ (by rw [hcan,hcr];rfl) rfl
  | true =>
   by_cases hc:c=45
   ·subst hc
    repeat' first|refine SO.idxStrAt 1 rfl rfl rfl rfl rfl hlt1 ?_|refine SO.neiF rfl rfl rfl rfl (show ((45:UInt8).toNat:Int)=45 by decide) ?_|refine SO.nil ?_|refine SO.a rfl ?_
    exact hret false _ _ (by rw [hcan,hcr];rfl) rfl
   ·have hc':c.toNat≠45:=fun e=>hc (by apply UInt8.toNat_inj.1;rw [e];rfl)
    repeat' first|refine SO.idxStrAt 1 rfl rfl rfl rfl rfl hlt1 ?_|refine SO.neiT rfl rfl rfl rfl (show ((c.toNat:Nat):Int)≠45 by omega) ?_|refine SO.nil ?_|refine SO.a rfl ?_
    exact hret true _ _ (by rw [hcan,hcr];simp [hc]) rfl
theorem refNumber66 {h:Hp} {n:Nat} (x:XR) (hx:XGood h n x) :
  Fn E 66 [.agg (xC x)] h n fun r h' n'=>Gr h n h' n'/\∃ e:Int,r=.tup [.int .i64 (if e=0 then numD x.sx else 0),.int .i64 e]/\(e=0 ↔ isN x.sx=true):=by
 refine Fn.of code66 (by decide) rfl fun Q cs hq=>?_
 show SW E Q 66 [(r0,.agg (xC x))] _ _ _ _
 repeat' first|refine SO.box rfl rfl rfl (by simp) (fun h1 hc1 hE1=>?_)|refine SW.a rfl ?_|refine SW.reg ?_|refine SO.nil ?_|refine SO.a rfl ?_
 have hc1':hb h1 n=some (.cell (xC x) 56 false):=hc1
 refine SO.loadVA rfl rfl rfl hc1' (xC_length x) ?_
 refine SO.callG rfl rfl rfl (xcheck27 x (hx.ok.ext hE1) hx.fit hx.few) ?_
 rintro _ h2 n2 ⟨rfl,hE2⟩
 have hE12:Gr h n h2 n2:=hE1.trans hE2
 have hc2:hb h2 n=some (.cell (xC x) 56 false):=by rw [hE2.same n (by omega)];exact hc1'
 cases x with
 | list v xs =>
  repeat' first|refine SO.loadV rfl rfl rfl hc2 rfl ?_|refine SW.a rfl ?_|refine SW.reg ?_|refine SO.nil ?_|refine SO.a rfl ?_|refine SO.cF rfl (by omega) ?_|fail
  exact SW.ret code66 ⟨_,rfl,_,rfl,hq _ _ _ ⟨hE12,8,rfl,by simp [isN,numX,XR.sx]⟩⟩
 | atom bs =>
  have hl:bs.length<=65536:=by
   cases hx.fit with
   | atom _ _ hb=>exact hb
  repeat' first|refine SO.loadV rfl rfl rfl hc2 rfl ?_|refine SW.a rfl ?_|refine SW.reg ?_|refine SO.nil ?_|refine SO.a rfl ?_|refine SO.cF rfl (by omega) ?_|fail
  refine SO.callG rfl rfl rfl (decimal116 bs.length bs (Nat.le_refl _) (by omega) _ _) ?_
  rintro _ h3 n3 ⟨rfl,rfl,rfl⟩
  cases hcan:canonS bs with
  | false =>
   have hn:numX (XR.atom bs).sx=none:=by simp [XR.sx,numX,numS,hcan]
   repeat' first|refine SW.a rfl ?_|refine SW.reg ?_|refine SO.nil ?_|refine SO.a rfl ?_
   exact SW.ret code66 ⟨_,rfl,_,rfl,hq _ _ _ ⟨hE12,3,rfl,by simp [isN,hn]⟩⟩
  | true =>
   have hc:=canon_of hcan
   have hdig:=hc.digs
   have hdl:=unsign_len bs
   have loop:∀ (ds:List UInt8) (off:Nat) (sg:Int),(sg=1\/sg=-1)->(∀ c ∈ ds,digB c=true)->bs.length=ds.length+off->(∀ (i:Nat) (hi:i < ds.length) (hj:i+off < bs.length),bs[i+off]=ds[i])->(natS ds<=1099511627776->numX (XR.atom bs).sx=some (sg*(natS ds:Int)))->(1099511627776 < natS ds->numX (XR.atom bs).sx=none) ->
     ∀ (k i:Nat),i+k=ds.length->natS (ds.take i)<=1099511627776->∀ R,look R r5=some (strOf bs)->look R r6=some (.int .i64 (natS (ds.take i):Int))->look R r7=some (.int .i64 sg)->look R r8=some (.int .i64 ((i+off:Nat):Int))->SW E Q 66 R [.code c66x18,.inLoop c66x18,.inBlock 0,.code (.seq (.reg c66x19) .ret)] cs h3 n3:=by
    intro ds off sg hsg hdg hlen hat hsm hbg k
    induction k with
    | zero =>
     intro i hi hle R q5 q6 q7 q8
     rw [show i=ds.length by omega,List.take_length] at q6 hle
     refine SW.sub (R':=[(r5,strOf bs),(r6,.int .i64 (natS ds:Int)),(r7,.int .i64 sg),(r8,.int .i64 ((i+off:Nat):Int))]) (by simp [q5,q6,q7,q8]) ?_
     have hn:=hsm hle
     repeat' first|refine SO.mul rfl rfl rfl rfl (by rcases hsg with h|h<;>subst h<;>omega) ?_|refine SW.a rfl ?_|refine SW.reg ?_|refine SO.nil ?_|refine SO.a rfl ?_|refine SO.cF rfl (by omega) ?_|fail
     refine SW.ret code66 ⟨_,rfl,_,rfl,hq _ _ _ ⟨hE12,0,?_,by simp [isN,hn]⟩⟩
     rw [if_pos rfl,show numD (XR.atom bs).sx=sg*(natS ds:Int) by simp [numD,hn]];rfl
    | succ k ih =>
     intro i hi hle R q5 q6 q7 q8
     have hlt:i < ds.length:=by omega
     have hlt2:i+off < bs.length:=by omega
     have hd:=(digB_iff _).1 (hdg _ (List.getElem_mem hlt))
     have hei:=hat i hlt hlt2
     rw [<- hei] at hd
     have hsucc:=natS_take_succ hlt
     rw [<- hei] at hsucc
     have hle0:=natS_take_le ds (i+1)
     refine SW.sub (R':=[(r5,strOf bs),(r6,.int .i64 (natS (ds.take i):Int)),(r7,.int .i64 sg),(r8,.int .i64 ((i+off:Nat):Int))]) (by simp [q5,q6,q7,q8]) ?_
     generalize hN:natS (ds.take i)=N at *
     by_cases hbig:1099511627776 < N*10+(bs[i+off].toNat - 48)
     ·have hn:=hbg (by omega)
      repeat' first|refine SO.idxStrAt (i+off) rfl rfl rfl rfl rfl hlt2 ?_|refine SO.mulN (b:=10) rfl rfl rfl rfl (by show N*10<=9223372036854775807;omega) ?_|refine SO.subK 48 rfl rfl rfl rfl (by omega) (by show bs[i+off].toNat<=255;omega) ?_|refine SO.convN rfl rfl rfl (by show bs[i+off].toNat - 48<=9223372036854775807;omega) ?_|refine SO.addN (bs[i+off].toNat - 48) rfl rfl rfl rfl (by show N*10+(bs[i+off].toNat - 48)<=9223372036854775807;omega) ?_|refine SW.a rfl ?_|refine SW.reg ?_|refine SO.nil ?_|refine SO.a rfl ?_|refine SO.cT rfl (by omega) ?_|refine SO.cF rfl (by omega) ?_|fail
      exact SW.ret code66 ⟨_,rfl,_,rfl,hq _ _ _ ⟨hE12,2,rfl,by simp [isN,hn]⟩⟩
     ·repeat' first|refine SO.idxStrAt (i+off) rfl rfl rfl rfl rfl hlt2 ?_|refine SO.mulN (b:=10) rfl rfl rfl rfl (by show N*10<=9223372036854775807;omega) ?_|refine SO.subK 48 rfl rfl rfl rfl (by omega) (by show bs[i+off].toNat<=255;omega) ?_|refine SO.convN rfl rfl rfl (by show bs[i+off].toNat - 48<=9223372036854775807;omega) ?_|refine SO.addN (bs[i+off].toNat - 48) rfl rfl rfl rfl (by show N*10+(bs[i+off].toNat - 48)<=9223372036854775807;omega) ?_|refine SO.addN 1 rfl rfl rfl rfl (by show i+off+1<=9223372036854775807;omega) ?_|refine SW.a rfl ?_|refine SW.reg ?_|refine SO.nil ?_|refine SO.a rfl ?_|refine SO.cT rfl (by omega) ?_|refine SO.cF rfl (by omega) ?_|fail
      refine SW.again ?_
      rw [<- hsucc] at hbig
      exact ih (i+1) (by omega) (by omega) _ rfl (by rw [hsucc];rfl) rfl (by rw [show i+1+off=i+off+1 by omega];rfl)
   have hnum:numX (XR.atom bs).sx=numS bs:=rfl
   rcases unsign_cases bs with ⟨l,rfl,hu⟩ |⟨hne,hu⟩
   ·rw [hu] at hdig
    have hlt:0 <((45:UInt8)::l).length:=by simp
    have hl':l.length+1<=65536:=by simpa using hl
    have hlo:=loop l 1 (-1) (.inr rfl) hdig (by simp) (fun i hi hj=>by simp) (fun hle=>by
     rw [hnum];unfold numS
     rw [hu,if_pos ⟨hcan,hle⟩];simp) (fun hgt=>by
     rw [hnum];unfold numS
     rw [hu,if_neg (fun e=>by omega)])
    repeat' first|refine SW.a rfl ?_|refine SW.reg ?_|refine SO.nil ?_|refine SO.a rfl ?_
    refine SW.loop ?_
    repeat' first|refine SO.idxStrAt 0 rfl rfl rfl rfl rfl hlt ?_|refine SO.eqiT rfl rfl rfl rfl (show ((45:UInt8).toNat:Int)=45 by decide) ?_|refine SO.addN 1 rfl rfl rfl rfl (by show 0+1<=9223372036854775807;omega) ?_|refine SW.a rfl ?_|refine SW.reg ?_|refine SO.nil ?_|refine SO.a rfl ?_|refine SO.cT rfl (by omega) ?_|fail
    refine SW.again ?_
    exact hlo l.length 0 (by omega) (by simp [natS]) _ rfl rfl rfl rfl
   ·rw [hu] at hdig
    have hlo:=loop bs 0 1 (.inl rfl) hdig (by simp) (fun i hi hj=>rfl) (fun hle=>by
     rw [hnum];unfold numS
     rw [hu,if_pos ⟨hcan,hle⟩,if_neg hne];simp) (fun hgt=>by
     rw [hnum];unfold numS
     rw [hu,if_neg (fun e=>by omega)])
    repeat' first|refine SW.a rfl ?_|refine SW.reg ?_|refine SO.nil ?_|refine SO.a rfl ?_
    refine SW.loop ?_
    exact hlo bs.length 0 (by omega) (by simp [natS]) _ rfl rfl rfl rfl
end Go.Ev
