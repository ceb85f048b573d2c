/- Contracts: strings.TrimPrefix, csexp.canonical. -/
import Derived.Test.YtognadjclbihgaaGreatDoorE6
import Derived.Test.YtognadjclbihgaaGreatDoorE7
import Derived.Test.YtognadjclbihgaaGreatDoorPA
import Derived.Test.YtognadjclbihgaaGreatDoorKCodeA
import Derived.Test.YtognadjclbihgaaGreatDoorFF
set_option linter.all false
namespace Go.Ev
set_option maxRecDepth 100000
set_option maxHeartbeats 4000000
theorem hasPre395 {h:Hp} {n:Nat} (bs:List UInt8) (hl:bs.length<=4000000000000000000):Fn E 395 [strOf bs,strOf [45]] h n fun r h' n'=>r=.bool (bs.head? == some 45)/\h'=h/\n'=n:=by
 refine Fn.of code395 (by decide) rfl fun Q cs hq=>?_
 show SW E Q 395 [(r0,strOf bs),(r1,strOf [45])] _ _ _ _
 cases bs with
 | nil =>
  repeat' first|refine SO.geqF rfl rfl rfl rfl (by decide) ?_|refine SW.a rfl ?_|refine SW.reg ?_|refine SO.nil ?_|refine SO.a rfl ?_
  exact SW.ret code395 ⟨_,rfl,hq _ _ _ ⟨rfl,rfl,rfl⟩⟩
 | cons c l =>
  simp only [List.length_cons] at hl
  have hle:1<=(c::l).length:=by simp
  have ht:(c::l).take 1=[c]:=rfl
  by_cases hc:c=45
  ·repeat' first|refine SO.sliceFTb 1 rfl rfl rfl rfl rfl hle ?_|refine SO.strEq rfl rfl rfl rfl (fun _=>?_) (fun hne=>absurd (by rw [ht,hc]) hne)|refine SO.geqT rfl rfl rfl rfl (by simp;omega) ?_|refine SW.a rfl ?_|refine SW.reg ?_|refine SO.nil ?_|refine SO.a rfl ?_
   exact SW.ret code395 ⟨_,rfl,hq _ _ _ ⟨by simp [hc,packA],rfl,rfl⟩⟩
  ·repeat' first|refine SO.sliceFTb 1 rfl rfl rfl rfl rfl hle ?_|refine SO.strEq rfl rfl rfl rfl (fun he=>absurd (by rw [ht] at he;simpa using he) hc) (fun _=>?_)|refine SO.geqT rfl rfl rfl rfl (by simp;omega) ?_|refine SW.a rfl ?_|refine SW.reg ?_|refine SO.nil ?_|refine SO.a rfl ?_
   exact SW.ret code395 ⟨_,rfl,hq _ _ _ ⟨by simp [hc,packA],rfl,rfl⟩⟩
theorem trim279 {h:Hp} {n:Nat} (bs:List UInt8) (hl:bs.length<=4000000000000000000):Fn E 279 [strOf bs,strOf [45]] h n fun r h' n'=>r=strOf (unsign bs)/\h'=h/\n'=n:=by
 refine Fn.of code279 (by decide) rfl fun Q cs hq=>?_
 show SW E Q 279 [(r0,strOf bs),(r1,strOf [45])] _ _ _ _
 repeat' first|refine SW.a rfl ?_|refine SW.reg ?_|refine SO.nil ?_|refine SO.a rfl ?_
 refine SO.callG rfl rfl rfl (hasPre395 bs hl) ?_
 rintro _ h' n' ⟨rfl,rfl,rfl⟩
 rcases unsign_cases bs with ⟨l,rfl,hu⟩ |⟨hne,hu⟩
 ·have e1:((45::l).head? == some (45:UInt8))=true:=by simp
  rw [e1]
  have hle:1<=((45:UInt8)::l).length:=by simp
  repeat' first|refine SO.sliceTFb 1 rfl rfl rfl rfl rfl hle ?_|refine SW.a rfl ?_|refine SW.reg ?_|refine SO.nil ?_|refine SO.a rfl ?_
  exact SW.ret code279 ⟨_,rfl,hq _ _ _ ⟨by rw [hu];rfl,rfl,rfl⟩⟩
 ·have e1:(bs.head? == some (45:UInt8))=false:=by simpa using hne
  rw [e1]
  repeat' first|refine SW.a rfl ?_|refine SW.reg ?_|refine SO.nil ?_|refine SO.a rfl ?_
  exact SW.ret code279 ⟨_,rfl,hq _ _ _ ⟨by rw [hu];rfl,rfl,rfl⟩⟩
theorem trim189 {h:Hp} {n:Nat} (bs:List UInt8) (hl:bs.length<=4000000000000000000):Fn E 189 [strOf bs,strOf [45]] h n fun r h' n'=>r=strOf (unsign bs)/\h'=h/\n'=n:=by
 refine Fn.of code189 (by decide) rfl fun Q cs hq=>?_
 show SW E Q 189 [(r0,strOf bs),(r1,strOf [45])] _ _ _ _
 repeat' first|refine SW.a rfl ?_|refine SW.reg ?_|refine SO.nil ?_|refine SO.a rfl ?_
 refine SO.callG rfl rfl rfl (trim279 bs hl) ?_
 rintro _ h' n' ⟨rfl,rfl,rfl⟩
 repeat' first|refine SO.nil ?_|refine SO.a rfl ?_
 exact SW.ret code189 ⟨_,rfl,hq _ _ _ ⟨rfl,rfl,rfl⟩⟩
theorem unsign_len (bs:List UInt8):(unsign bs).length<=bs.length:=by
 rcases unsign_cases bs with ⟨l,rfl,h⟩ |⟨_,h⟩
 ·rw [h];simp
 ·rw [h];exact Nat.le_refl _
theorem canon109 {h:Hp} {n:Nat} (bs:List UInt8) (hl:bs.length<=4000000000000000000):Fn E 109 [strOf bs] h n fun r h' n'=>r=.bool (canonS bs)/\h'=h/\n'=n:=by
 refine Fn.of code109 (by decide) rfl fun Q cs hq=>?_
 show SW E Q 109 [(r0,strOf bs)] _ _ _ _
 repeat' first|refine SW.a rfl ?_|refine SW.reg ?_|refine SO.nil ?_|refine SO.a rfl ?_
 refine SO.callG rfl rfl rfl (trim189 bs hl) ?_
 rintro _ h' n' ⟨rfl,rfl,rfl⟩
 have hul:=unsign_len bs
 have hcan:canonS bs=((unsign bs).all digB&&(match unsign bs with|[]=>false|c::_=>!(c == 48)||bs == [48])):=rfl
 rw [hcan] at hq
 generalize unsign bs=ds at *
 have loop:∀ (k i:Nat),i+k=ds.length->(ds.take i).all digB=true->∀ R,look R r0=some (strOf bs)->look R r3=some (strOf ds)->look R r8=some (.int .i64 (ds.length:Int))->look R r9=some (.int .i64 (i:Int))->SW E Q 109 R [.code c109x8,.inLoop c109x8,.inBlock 0,.code (.seq (.reg c109x9) .ret)] cs h' n':=by
  intro k
  induction k with
  | zero =>
   intro i hi hall R q0 q3 q8 q9
   rw [show i=ds.length by omega,List.take_length] at hall
   rw [hall,Bool.true_and] at hq
   refine SW.sub (R':=[(r0,strOf bs),(r3,strOf ds),(r8,.int .i64 (ds.length:Int)),(r9,.int .i64 (i:Int))]) (by simp [q0,q3,q8,q9]) ?_
   cases ds with
   | nil =>
    repeat' first|refine SO.strNe rfl rfl rfl rfl (fun hne=>absurd rfl hne) (fun _=>?_)|refine SW.a rfl ?_|refine SW.reg ?_|refine SO.nil ?_|refine SO.a rfl ?_|refine SO.cF rfl (by omega) ?_|fail
    exact SW.ret code109 ⟨_,rfl,hq _ _ _ ⟨rfl,rfl,rfl⟩⟩
   | cons c l =>
    have hlt:0 <(c::l).length:=by simp
    have hc0:=c.toNat_lt
    have h48:(c=48 ↔ c.toNat=48):=by
     constructor
     ·intro e;rw [e];rfl
     ·intro e;apply UInt8.toNat_inj.1;rw [e];rfl
    by_cases hc:c=48
    ·have hc':=h48.1 hc
     by_cases hb:bs=[48]
     ·repeat' first|refine SO.strNe rfl rfl rfl rfl (fun _=>?_) (fun he=>absurd he (by simp))|refine SO.idxStrAt 0 rfl rfl rfl rfl rfl hlt ?_|refine SO.neiF rfl rfl rfl rfl (by simp only [List.getElem_cons_zero];omega) ?_|refine SO.strEq rfl rfl rfl rfl (fun _=>?_) (fun hne=>absurd hb hne)|refine SW.a rfl ?_|refine SW.reg ?_|refine SO.nil ?_|refine SO.a rfl ?_|refine SO.cF rfl (by omega) ?_|fail
      exact SW.ret code109 ⟨_,rfl,hq _ _ _ ⟨by simp [hc,hb,packA],rfl,rfl⟩⟩
     ·repeat' first|refine SO.strNe rfl rfl rfl rfl (fun _=>?_) (fun he=>absurd he (by simp))|refine SO.idxStrAt 0 rfl rfl rfl rfl rfl hlt ?_|refine SO.neiF rfl rfl rfl rfl (by simp only [List.getElem_cons_zero];omega) ?_|refine SO.strEq rfl rfl rfl rfl (fun he=>absurd he hb) (fun _=>?_)|refine SW.a rfl ?_|refine SW.reg ?_|refine SO.nil ?_|refine SO.a rfl ?_|refine SO.cF rfl (by omega) ?_|fail
      exact SW.ret code109 ⟨_,rfl,hq _ _ _ ⟨by simp [hc,hb,packA],rfl,rfl⟩⟩
    ·have hc':c.toNat≠48:=fun e=>hc (h48.2 e)
     repeat' first|refine SO.strNe rfl rfl rfl rfl (fun _=>?_) (fun he=>absurd he (by simp))|refine SO.idxStrAt 0 rfl rfl rfl rfl rfl hlt ?_|refine SO.neiT rfl rfl rfl rfl (by simp only [List.getElem_cons_zero];omega) ?_|refine SW.a rfl ?_|refine SW.reg ?_|refine SO.nil ?_|refine SO.a rfl ?_|refine SO.cF rfl (by omega) ?_|fail
     exact SW.ret code109 ⟨_,rfl,hq _ _ _ ⟨by simp [hc,packA],rfl,rfl⟩⟩
  | succ k ih =>
   intro i hi hall R q0 q3 q8 q9
   have hlt:i < ds.length:=by omega
   refine SW.sub (R':=[(r0,strOf bs),(r3,strOf ds),(r8,.int .i64 (ds.length:Int)),(r9,.int .i64 (i:Int))]) (by simp [q0,q3,q8,q9]) ?_
   have hbad:digB ds[i]=false->ds.all digB=false:=fun hb=>by
    cases ha:ds.all digB with
    | false=>rfl
    | true=>rw [List.all_eq_true] at ha;rw [ha _ (List.getElem_mem hlt)] at hb;simp at hb
   by_cases h1:ds[i].toNat < 48
   ·have hb:=hbad (by simp [digB];omega)
    repeat' first|refine SO.idxStrAt i rfl rfl rfl rfl rfl hlt ?_|refine SW.a rfl ?_|refine SW.reg ?_|refine SO.nil ?_|refine SO.a rfl ?_|refine SO.cT rfl (by omega) ?_|fail
    exact SW.ret code109 ⟨_,rfl,hq _ _ _ ⟨by rw [hb];rfl,rfl,rfl⟩⟩
   ·by_cases h2:57 < ds[i].toNat
    ·have hb:=hbad (by simp [digB];omega)
     repeat' first|refine SO.idxStrAt i rfl rfl rfl rfl rfl hlt ?_|refine SW.a rfl ?_|refine SW.reg ?_|refine SO.nil ?_|refine SO.a rfl ?_|refine SO.cT rfl (by omega) ?_|refine SO.cF rfl (by omega) ?_|fail
     exact SW.ret code109 ⟨_,rfl,hq _ _ _ ⟨by rw [hb];rfl,rfl,rfl⟩⟩
    ·repeat' first|refine SO.idxStrAt i rfl rfl rfl rfl rfl hlt ?_|refine SW.a rfl ?_|refine SW.reg ?_|refine SO.nil ?_|refine SO.a rfl ?_|refine SO.cT rfl (by omega) ?_|refine SO.cF rfl (by omega) ?_|refine SO.add rfl rfl rfl rfl (by omega) ?_|fail
     refine SW.again ?_
     refine ih (i+1) (by omega) ?_ _ rfl rfl rfl rfl
     rw [List.take_succ_eq_append_getElem hlt,List.all_append,hall]
     simp [digB];omega
 repeat' first|refine SW.a rfl ?_|refine SW.reg ?_|refine SO.nil ?_|refine SO.a rfl ?_
 refine SW.loop ?_
 exact loop ds.length 0 (by omega) (by simp) _ rfl rfl rfl rfl
set_option maxRecDepth 100000
set_option maxHeartbeats 8000000
section
variable {E:Env} {Q:Post} {fn:Fr} {md:Md} {R:List (Path × AV)} {todo:List AItem} {cs:List AF} {h h' h0:Hp} {n n' n0:Nat} {os:List COp} {k k':IntKind} {p:Path} {g:Option (Path × Bool)} {X Y:CX} {u v:AV} {a o b:Nat} {x y:Int}
theorem SO.convW (z:Int) (hg:wantB R g=true) (hd:Nat.beq p.len depth=true) (h1:lookX R X=some (.int k x)) (hz:k'.wrap x=z) (hw:SO E Q fn md ((p,.int k' z)::R) os todo cs h n):SO E Q fn md R (⟨some p,g,[X],.convInt k'⟩::os) todo cs h n :=
 SO.val hg hd (one1 h1) (fun K=>by
  show forceI (k'.wrap x) (fun z=>K.v (.int k' z) h n)=_
  rw [forceI_eq,hz]) hw
theorem SO.negW (z:Int) (hg:wantB R g=true) (hd:Nat.beq p.len depth=true) (h1:lookX R X=some (.int k x)) (hz:k.wrap (Int.sub 0 x)=z) (hw:SO E Q fn md ((p,.int k z)::R) os todo cs h n):SO E Q fn md R (⟨some p,g,[X],.neg⟩::os) todo cs h n :=
 SO.val hg hd (one1 h1) (fun K=>by
  show forceI (k.wrap (Int.sub 0 x)) (fun z=>K.v (.int k z) h n)=_
  rw [forceI_eq,hz]) hw
theorem SO.addW (z:Int) (hg:wantB R g=true) (hd:Nat.beq p.len depth=true) (h1:lookX R X=some (.int k x)) (h2:lookX R Y=some (.int k y)) (hz:k.wrap (x+y)=z) (hw:SO E Q fn md ((p,.int k z)::R) os todo cs h n):SO E Q fn md R (⟨some p,g,[X,Y],.add⟩::os) todo cs h n :=
 SO.val hg hd (two h1 h2) (fun K=>by
  show exAdd _ h n K=_
  unfold exAdd
  rw [ints_two,forceI_eq,show Int.add x y=x+y from rfl,hz]) hw
theorem SO.subW (z:Int) (hg:wantB R g=true) (hd:Nat.beq p.len depth=true) (h1:lookX R X=some (.int k x)) (h2:lookX R Y=some (.int k y)) (hz:k.wrap (x - y)=z) (hw:SO E Q fn md ((p,.int k z)::R) os todo cs h n):SO E Q fn md R (⟨some p,g,[X,Y],.sub⟩::os) todo cs h n :=
 SO.val hg hd (two h1 h2) (fun K=>by
  show exSub _ h n K=_
  unfold exSub
  rw [ints_two,forceI_eq,show Int.sub x y=x - y from rfl,hz]) hw
theorem SO.shiftW {op:BinOp} (m:Nat) (z:Int) (hg:wantB R g=true) (hd:Nat.beq p.len depth=true) (h1:lookX R X=some (.int k x)) (h2:lookX R Y=some (.int k' y)) (hy:y=(m:Int)) (hz:pureInt (Op.shift op k x k' (.ofNat m)) k=some z) (hw:SO E Q fn md ((p,.int k z)::R) os todo cs h n):SO E Q fn md R (⟨some p,g,[X,Y],.shift op⟩::os) todo cs h n:=by
 subst hy
 exact SO.val hg hd (two h1 h2) (fun K=>by
  show optI (pureInt (Op.shift op k x k' (.ofNat m)) k) (fun z=>K.v (.int k z) h n)=_
  rw [hz,optI_some]) hw
end
def valS (bs:List UInt8):Int:=if bs.head?=some 45 then -(natS (unsign bs):Int) else (natS (unsign bs):Int)
theorem parseUint396 {h:Hp} {n:Nat} (ds:List UInt8) (hne:ds≠[]) (hd:∀ c ∈ ds,digB c=true) (hl:ds.length<=100000) :
  Fn E 396 [strOf ds,.int .i64 10,.int .i64 0] h n fun r h' n'=>Gr h n h' n'/\((natS ds<=18446744073709551615/\r=.tup [.int .u64 (natS ds:Int),.nili])\/(18446744073709551615 < natS ds/\r=.tup [.int .u64 18446744073709551615,.ifc 424 (.int .i64 1)])):=by
 refine Fn.of code396 (by decide) rfl fun Q cs hq=>?_
 show SW E Q 396 [(r0,strOf ds),(r1,.int .i64 10),(r2,.int .i64 0)] _ _ _ _
 repeat' first|refine SO.strEq rfl rfl rfl rfl (fun he=>absurd he hne) (fun _=>?_)|refine SO.shiftW 64 0 rfl rfl rfl rfl rfl rfl ?_|refine SO.convW 64 rfl rfl rfl rfl ?_|refine SO.subW 18446744073709551615 rfl rfl rfl rfl rfl ?_|refine SW.a rfl ?_|refine SW.reg ?_|refine SO.nil ?_|refine SO.a rfl ?_|refine SO.cT rfl (by omega) ?_|refine SO.cF rfl (by omega) ?_|fail
 refine SO.convSB rfl rfl rfl (fun h1 hs1 hE1=>?_)
 have loop:∀ (k i:Nat),i+k=ds.length->natS (ds.take i)<=18446744073709551615->∀ R,look R r1=some (.int .i64 10)->look R r8=some (.bool false)->look R r10=some (.int .u64 1844674407370955162)->look R r11=some (.int .u64 18446744073709551615)->look R r12=some (.bool false)->look R r13=some (.int .u64 (natS (ds.take i):Int))->look R r99=some (.gsl (n+1) 0 ds.length 1)->look R r100=some (.int .i64 (ds.length:Int))->look R r101=some (.int .i64 (i:Int)) ->
   SW E Q 396 R [.code c396x56,.inLoop c396x56,.inBlock 3,.code (.seq (.seq (.reg c396x57) (.cond (.r r169) (.seq (.reg c396x58) .ret) .skip)) (.seq (.reg c396x59) .ret))] cs h1 (n+2):=by
  intro k
  induction k with
  | zero =>
   intro i hi hb R q1 q8 q10 q11 q12 q13 q99 q100 q101
   rw [show i=ds.length by omega,List.take_length] at hb q13
   refine SW.sub (R':=[(r1,.int .i64 10),(r8,.bool false),(r10,.int .u64 1844674407370955162),(r11,.int .u64 18446744073709551615),(r12,.bool false),(r13,.int .u64 (natS ds:Int)),(r99,.gsl (n+1) 0 ds.length 1),(r100,.int .i64 (ds.length:Int)),(r101,.int .i64 (i:Int))]) (by simp [q1,q8,q10,q11,q12,q13,q99,q100,q101]) ?_
   repeat' first|refine SW.a rfl ?_|refine SW.reg ?_|refine SO.nil ?_|refine SO.a rfl ?_|refine SO.cF rfl (by omega) ?_|fail
   exact SW.ret code396 ⟨_,rfl,_,rfl,hq _ _ _ ⟨hE1,.inl ⟨hb,rfl⟩⟩⟩
  | succ k ih =>
   intro i hi hb R q1 q8 q10 q11 q12 q13 q99 q100 q101
   have hlt:i < ds.length:=by omega
   have hc:=(digB_iff _).1 (hd _ (List.getElem_mem hlt))
   have hmore:=natS_more hlt
   have hsucc:=natS_take_succ hlt
   have hle:=natS_take_le ds (i+1)
   generalize hN:natS (ds.take i)=N at *
   refine SW.sub (R':=[(r1,.int .i64 10),(r8,.bool false),(r10,.int .u64 1844674407370955162),(r11,.int .u64 18446744073709551615),(r12,.bool false),(r13,.int .u64 (N:Int)),(r99,.gsl (n+1) 0 ds.length 1),(r100,.int .i64 (ds.length:Int)),(r101,.int .i64 (i:Int))]) (by simp [q1,q8,q10,q11,q12,q13,q99,q100,q101]) ?_
   by_cases hcut:1844674407370955162<=N
   ·repeat' first|refine SO.idxOf (fun _=>rfl) rfl rfl rfl rfl hs1 hlt (fun a o hp=>?_)|refine SO.load0 rfl rfl rfl (by assumption) (Gr.refl _ _) ?_|refine SO.subK 48 rfl rfl rfl rfl (by omega) (by show ds[i].toNat<=255;omega) ?_|refine SO.convW 10 rfl rfl rfl rfl ?_|refine SO.mkIfc rfl rfl rfl ?_|refine SW.a rfl ?_|refine SW.reg ?_|refine SO.nil ?_|refine SO.a rfl ?_|refine SO.cT rfl (by omega) ?_|refine SO.cF rfl (by omega) ?_|fail
    exact SW.ret code396 ⟨_,rfl,_,rfl,hq _ _ _ ⟨hE1,.inr ⟨by omega,rfl⟩⟩⟩
   ·by_cases hov:N*10+(ds[i].toNat - 48)<=18446744073709551615
    ·repeat' first|refine SO.idxOf (fun _=>rfl) rfl rfl rfl rfl hs1 hlt (fun a o hp=>?_)|refine SO.load0 rfl rfl rfl (by assumption) (Gr.refl _ _) ?_|refine SO.subK 48 rfl rfl rfl rfl (by omega) (by show ds[i].toNat<=255;omega) ?_|refine SO.convW 10 rfl rfl rfl rfl ?_|refine SO.mulN 10 rfl rfl rfl rfl (by show N*10<=18446744073709551615;omega) ?_|refine SO.convN rfl rfl rfl (by show ds[i].toNat - 48<=18446744073709551615;omega) ?_|refine SO.addN (ds[i].toNat - 48) rfl rfl rfl rfl hov ?_|refine SW.a rfl ?_|refine SW.reg ?_|refine SO.nil ?_|refine SO.a rfl ?_|refine SO.cT rfl (by omega) ?_|refine SO.cF rfl (by omega) ?_|refine SO.add rfl rfl rfl rfl (by omega) ?_|fail
     refine SW.again ?_
     rw [<- hsucc] at hov
     exact ih (i+1) (by omega) hov _ rfl rfl rfl rfl rfl (by rw [hsucc];rfl) rfl rfl rfl
    ·repeat' first|refine SO.idxOf (fun _=>rfl) rfl rfl rfl rfl hs1 hlt (fun a o hp=>?_)|refine SO.load0 rfl rfl rfl (by assumption) (Gr.refl _ _) ?_|refine SO.subK 48 rfl rfl rfl rfl (by omega) (by show ds[i].toNat<=255;omega) ?_|refine SO.convW 10 rfl rfl rfl rfl ?_|refine SO.mulN 10 rfl rfl rfl rfl (by show N*10<=18446744073709551615;omega) ?_|refine SO.convN rfl rfl rfl (by show ds[i].toNat - 48<=18446744073709551615;omega) ?_|refine SO.addW (((N*10+(ds[i].toNat - 48) - 18446744073709551616:Nat):Int)) rfl rfl rfl rfl (by simp [IntKind.wrap,IntKind.bits,IntKind.signed];omega) ?_|refine SO.mkIfc rfl rfl rfl ?_|refine SW.a rfl ?_|refine SW.reg ?_|refine SO.nil ?_|refine SO.a rfl ?_|refine SO.cT rfl (by omega) ?_|refine SO.cF rfl (by omega) ?_|fail
     exact SW.ret code396 ⟨_,rfl,_,rfl,hq _ _ _ ⟨hE1,.inr ⟨by omega,rfl⟩⟩⟩
 repeat' first|refine SW.a rfl ?_|refine SO.nil ?_|refine SO.a rfl ?_|refine SO.lenSl rfl rfl rfl (by assumption) ?_|fail
 refine SW.loop ?_
 exact loop ds.length 0 (by omega) (by simp [natS]) _ rfl rfl rfl rfl rfl rfl rfl rfl rfl
theorem parseInt280 {h:Hp} {n:Nat} (bs:List UInt8) (hc:Canon bs) (hl:bs.length<=100000) :
  Fn E 280 [strOf bs,.int .i64 10,.int .i64 0] h n fun r h' n'=>Gr h n h' n'/\∃ v e,r=.tup [.int .i64 v,e]/\((e=.nili/\v=valS bs)\/(e=.ifc 424 (.int .i64 1)/\9223372036854775807 < natS (unsign bs))):=by
 refine Fn.of code280 (by decide) rfl fun Q cs hq=>?_
 show SW E Q 280 [(r0,strOf bs),(r1,.int .i64 10),(r2,.int .i64 0)] _ _ _ _
 have hul:=unsign_len bs
 have hpu:=fun (h:Hp) (n:Nat)=>parseUint396 (h:=h) (n:=n) (unsign bs) hc.ne hc.digs (by omega)
 rcases unsign_cases bs with ⟨l,rfl,hu⟩ |⟨hne,hu⟩
 ·have hv:valS (45::l)=-(natS l:Int):=by rw [valS,if_pos (by rfl),hu]
  rw [hv,hu] at hq
  rw [hu] at hpu
  have hlt:0 <((45:UInt8)::l).length:=by simp
  have hle1:1<=((45:UInt8)::l).length:=by simp
  repeat' first|refine SO.strEq rfl rfl rfl rfl (fun he=>absurd he (by simp)) (fun _=>?_)|refine SO.idxStrAt 0 rfl rfl rfl rfl rfl hlt ?_|refine SO.eqiF rfl rfl rfl rfl (show ((45:UInt8).toNat:Int)≠43 by decide) ?_|refine SO.eqiT rfl rfl rfl rfl (show ((45:UInt8).toNat:Int)=45 by decide) ?_|refine SO.sliceTFb 1 rfl rfl rfl rfl rfl hle1 ?_|refine SW.a rfl ?_|refine SW.reg ?_|refine SO.nil ?_|refine SO.a rfl ?_
  refine SO.callG rfl rfl rfl (hpu _ _) ?_
  rintro _ h1 n1 ⟨hE1,⟨hsm,rfl⟩ |⟨hbig,rfl⟩⟩
  ·by_cases h63:natS l<=9223372036854775807
   ·repeat' first|refine SO.nilNil rfl rfl rfl rfl ?_|refine SO.shiftW 63 9223372036854775808 rfl rfl rfl rfl rfl rfl ?_|refine SO.subW 63 rfl rfl rfl rfl rfl ?_|refine SO.convW 63 rfl rfl rfl rfl ?_|refine SO.convN rfl rfl rfl (by show natS l<=9223372036854775807;omega) ?_|refine SO.neg rfl rfl rfl (by omega) ?_|refine SW.a rfl ?_|refine SW.reg ?_|refine SO.nil ?_|refine SO.a rfl ?_|refine SO.cT rfl (by omega) ?_|refine SO.cF rfl (by omega) ?_|fail
    exact SW.ret code280 ⟨_,rfl,_,rfl,hq _ _ _ ⟨hE1,_,_,rfl,.inl ⟨rfl,rfl⟩⟩⟩
   ·by_cases h64:natS l=9223372036854775808
    ·rw [h64] at hq ⊢
     repeat' first|refine SO.nilNil rfl rfl rfl rfl ?_|refine SO.shiftW 63 9223372036854775808 rfl rfl rfl rfl rfl rfl ?_|refine SO.subW 63 rfl rfl rfl rfl rfl ?_|refine SO.convW 63 rfl rfl rfl rfl ?_|refine SO.convW (-9223372036854775808) rfl rfl rfl rfl ?_|refine SO.negW (-9223372036854775808) rfl rfl rfl rfl ?_|refine SW.a rfl ?_|refine SW.reg ?_|refine SO.nil ?_|refine SO.a rfl ?_|refine SO.cT rfl (by omega) ?_|refine SO.cF rfl (by omega) ?_|fail
     exact SW.ret code280 ⟨_,rfl,_,rfl,hq _ _ _ ⟨hE1,_,_,rfl,.inl ⟨rfl,rfl⟩⟩⟩
    ·repeat' first|refine SO.nilNil rfl rfl rfl rfl ?_|refine SO.shiftW 63 9223372036854775808 rfl rfl rfl rfl rfl rfl ?_|refine SO.subW 63 rfl rfl rfl rfl rfl ?_|refine SO.convW 63 rfl rfl rfl rfl ?_|refine SO.convW (-9223372036854775808) rfl rfl rfl rfl ?_|refine SO.negW (-9223372036854775808) rfl rfl rfl rfl ?_|refine SO.mkIfc rfl rfl rfl ?_|refine SW.a rfl ?_|refine SW.reg ?_|refine SO.nil ?_|refine SO.a rfl ?_|refine SO.cT rfl (by omega) ?_|fail
     exact SW.ret code280 ⟨_,rfl,_,rfl,hq _ _ _ ⟨hE1,_,_,rfl,.inr ⟨rfl,by omega⟩⟩⟩
  ·repeat' first|refine SO.ifcNil rfl rfl rfl rfl ?_|refine SO.mkIfc rfl rfl rfl ?_|refine SO.ifcInt rfl rfl rfl rfl cmp424 rfl ?_|refine SO.shiftW 63 9223372036854775808 rfl rfl rfl rfl rfl rfl ?_|refine SO.subW 63 rfl rfl rfl rfl rfl ?_|refine SO.convW 63 rfl rfl rfl rfl ?_|refine SO.convW (-9223372036854775808) rfl rfl rfl rfl ?_|refine SO.negW (-9223372036854775808) rfl rfl rfl rfl ?_|refine SW.a rfl ?_|refine SW.reg ?_|refine SO.nil ?_|refine SO.a rfl ?_|refine SO.cT rfl (by omega) ?_|fail
   exact SW.ret code280 ⟨_,rfl,_,rfl,hq _ _ _ ⟨hE1,_,_,rfl,.inr ⟨rfl,by omega⟩⟩⟩
 ·have hv:valS bs=(natS bs:Int):=by rw [valS,if_neg hne,hu]
  rw [hv,hu] at hq
  rw [hu] at hpu
  have hnb:bs≠[]:=by rw [<- hu];exact hc.ne
  have hlt:0 < bs.length:=List.length_pos_iff.2 hnb
  have hdig:=hc.digs
  rw [hu] at hdig
  have h0:=(digB_iff _).1 (hdig _ (List.getElem_mem hlt))
  repeat' first|refine SO.strEq rfl rfl rfl rfl (fun he=>absurd he hnb) (fun _=>?_)|refine SO.idxStrAt 0 rfl rfl rfl rfl rfl hlt ?_|refine SW.a rfl ?_|refine SW.reg ?_|refine SO.nil ?_|refine SO.a rfl ?_|refine SO.cF rfl (by omega) ?_|fail
  refine SO.callG rfl rfl rfl (hpu _ _) ?_
  rintro _ h1 n1 ⟨hE1,⟨hsm,rfl⟩ |⟨hbig,rfl⟩⟩
  ·by_cases h63:natS bs<=9223372036854775807
   ·repeat' first|refine SO.nilNil rfl rfl rfl rfl ?_|refine SO.shiftW 63 9223372036854775808 rfl rfl rfl rfl rfl rfl ?_|refine SO.subW 63 rfl rfl rfl rfl rfl ?_|refine SO.convW 63 rfl rfl rfl rfl ?_|refine SO.convN rfl rfl rfl (by show natS bs<=9223372036854775807;omega) ?_|refine SW.a rfl ?_|refine SW.reg ?_|refine SO.nil ?_|refine SO.a rfl ?_|refine SO.cT rfl (by omega) ?_|refine SO.cF rfl (by omega) ?_|fail
    exact SW.ret code280 ⟨_,rfl,_,rfl,hq _ _ _ ⟨hE1,_,_,rfl,.inl ⟨rfl,rfl⟩⟩⟩
   ·repeat' first|refine SO.nilNil rfl rfl rfl rfl ?_|refine SO.shiftW 63 9223372036854775808 rfl rfl rfl rfl rfl rfl ?_|refine SO.subW 63 rfl rfl rfl rfl rfl ?_|refine SO.convW 63 rfl rfl rfl rfl ?_|refine SO.subW 9223372036854775807 rfl rfl rfl rfl rfl ?_|refine SO.convW 9223372036854775807 rfl rfl rfl rfl ?_|refine SO.mkIfc rfl rfl rfl ?_|refine SW.a rfl ?_|refine SW.reg ?_|refine SO.nil ?_|refine SO.a rfl ?_|refine SO.cT rfl (by omega) ?_|fail
    exact SW.ret code280 ⟨_,rfl,_,rfl,hq _ _ _ ⟨hE1,_,_,rfl,.inr ⟨rfl,by omega⟩⟩⟩
  ·repeat' first|refine SO.ifcNil rfl rfl rfl rfl ?_|refine SO.mkIfc rfl rfl rfl ?_|refine SO.ifcInt rfl rfl rfl rfl cmp424 rfl ?_|refine SO.shiftW 63 9223372036854775808 rfl rfl rfl rfl rfl rfl ?_|refine SO.subW 63 rfl rfl rfl rfl rfl ?_|refine SO.convW 63 rfl rfl rfl rfl ?_|refine SO.subW 9223372036854775807 rfl rfl rfl rfl rfl ?_|refine SO.convW 9223372036854775807 rfl rfl rfl rfl ?_|refine SW.a rfl ?_|refine SW.reg ?_|refine SO.nil ?_|refine SO.a rfl ?_|refine SO.cT rfl (by omega) ?_|fail
   exact SW.ret code280 ⟨_,rfl,_,rfl,hq _ _ _ ⟨hE1,_,_,rfl,.inr ⟨rfl,by omega⟩⟩⟩
end Go.Ev
