/- Contracts: strconv: small, Len64, log10, numDigits. -/
import Derived.Test.YtognadjclbihgaaGreatDoorE6
import Derived.Test.YtognadjclbihgaaGreatDoorFD
import Derived.Test.YtognadjclbihgaaGreatDoorE7
import Derived.Test.YtognadjclbihgaaGreatDoorKCodeA
set_option linter.all false
namespace Go.Ev
set_option maxRecDepth 100000
set_option maxHeartbeats 4000000
def tabD:List UInt8:=[48,49,50,51,52,53,54,55,56,57,97,98,99,100,101,102,103,104,105,106,107,108,109,110,111,112,113,114,115,116,117,118,119,120,121,122]
def tabS:List UInt8:=[48,48,48,49,48,50,48,51,48,52,48,53,48,54,48,55,48,56,48,57,49,48,49,49,49,50,49,51,49,52,49,53,49,54,49,55,49,56,49,57,50,48,50,49,50,50,50,51,50,52,50,53,50,54,50,55,50,56,50,57,51,48,51,49,51,50,51,51,51,52,51,53,51,54,51,55,51,56,51,57,52,48,52,49,52,50,52,51,52,52,52,53,52,54,52,55,52,56,52,57,53,48,53,49,53,50,53,51,53,52,53,53,53,54,53,55,53,56,53,57,54,48,54,49,54,50,54,51,54,52,54,53,54,54,54,55,54,56,54,57,55,48,55,49,55,50,55,51,55,52,55,53,55,54,55,55,55,56,55,57,56,48,56,49,56,50,56,51,56,52,56,53,56,54,56,55,56,56,56,57,57,48,57,49,57,50,57,51,57,52,57,53,57,54,57,55,57,56,57,57]
theorem tabD_at:∀ m < 10,part tabD m (m+1)=[UInt8.ofNat (48+m)]:=by decide
theorem tabS_at:∀ m < 100,part tabS (m*2) (m*2+2)=[UInt8.ofNat (48+m / 10),UInt8.ofNat (48+m % 10)]:=by decide
theorem small257 {h:Hp} {n:Nat} (m:Nat) (hm:m < 100):Fn E 290 [.int .i64 (m:Int)] h n fun r h' n'=>r=strOf (decN m)/\h'=h/\n'=n:=by
 refine Fn.of code290 (by decide) rfl fun Q cs hq=>?_
 show SW E Q 290 [(r0,.int .i64 (m:Int))] _ _ _ _
 have htop:topN .i64=9223372036854775807:=rfl
 by_cases hlt:m < 10
 ·repeat' first|refine SO.addN 1 rfl rfl rfl rfl (by omega) ?_|refine SO.sliceTT (bs:=tabD) rfl rfl rfl rfl rfl (by omega) (by simp [tabD];omega) ?_|refine SW.a rfl ?_|refine SW.reg ?_|refine SO.nil ?_|refine SO.a rfl ?_|refine SO.cT rfl (by omega) ?_|fail
  refine SW.ret code290 ⟨_,rfl,hq _ _ _ ⟨?_,rfl,rfl⟩⟩
  rw [decN,if_pos hlt,tabD_at m hlt];rfl
 ·repeat' first|refine SO.mulN 2 rfl rfl rfl rfl (by omega) ?_|refine SO.addN 2 rfl rfl rfl rfl (by omega) ?_|refine SO.sliceTT (bs:=tabS) rfl rfl rfl rfl rfl (by omega) (by simp [tabS];omega) ?_|refine SW.a rfl ?_|refine SW.reg ?_|refine SO.nil ?_|refine SO.a rfl ?_|refine SO.cF rfl (by omega) ?_|fail
  refine SW.ret code290 ⟨_,rfl,hq _ _ _ ⟨?_,rfl,rfl⟩⟩
  have h10:decN (m / 10)=[UInt8.ofNat (48+m / 10)]:=by rw [decN,if_pos (by omega)]
  rw [tabS_at m hm,decN,if_neg hlt,h10];rfl
theorem bit368 {h:Hp} {n:Nat} (b:Bool):Fn E 402 [.bool b] h n fun r h' n'=>r=.int .i64 ((if b then 1 else 0:Nat):Int)/\h'=h/\n'=n:=by
 refine Fn.of code402 (by decide) rfl fun Q cs hq=>?_
 show SW E Q 402 [(r0,.bool b)] _ _ _ _
 cases b with
 | true =>
  repeat' first|refine SW.a rfl ?_|refine SW.reg ?_|refine SO.nil ?_|refine SO.a rfl ?_
  exact SW.ret code402 ⟨_,rfl,hq _ _ _ ⟨rfl,rfl,rfl⟩⟩
 | false =>
  repeat' first|refine SW.a rfl ?_|refine SW.reg ?_|refine SO.nil ?_|refine SO.a rfl ?_
  exact SW.ret code402 ⟨_,rfl,hq _ _ _ ⟨rfl,rfl,rfl⟩⟩
theorem log367 {h:Hp} {n:Nat} (l:Nat) (hl:l<=64):Fn E 401 [.int .i64 (l:Int)] h n fun r h' n'=>r=.int .i64 ((l*78913 / 2 ^ 18:Nat):Int)/\h'=h/\n'=n:=by
 refine Fn.of code401 (by decide) rfl fun Q cs hq=>?_
 show SW E Q 401 [(r0,.int .i64 (l:Int))] _ _ _ _
 have htop:topN .i64=9223372036854775807:=rfl
 repeat' first|refine SO.mulN 78913 rfl rfl rfl rfl (by omega) ?_|refine SO.shrN 18 rfl rfl rfl rfl (by decide) ?_|refine SW.a rfl ?_|refine SW.reg ?_|refine SO.nil ?_|refine SO.a rfl ?_
 exact SW.ret code401 ⟨_,rfl,hq _ _ _ ⟨rfl,rfl,rfl⟩⟩
set_option maxRecDepth 100000
set_option maxHeartbeats 4000000
def tabL:List UInt8:=[0,1,2,2,3,3,3,3,4,4,4,4,4,4,4,4,5,5,5,5,5,5,5,5,5,5,5,5,5,5,5,5,6,6,6,6,6,6,6,6,6,6,6,6,6,6,6,6,6,6,6,6,6,6,6,6,6,6,6,6,6,6,6,6,7,7,7,7,7,7,7,7,7,7,7,7,7,7,7,7,7,7,7,7,7,7,7,7,7,7,7,7,7,7,7,7,7,7,7,7,7,7,7,7,7,7,7,7,7,7,7,7,7,7,7,7,7,7,7,7,7,7,7,7,7,7,7,7,8,8,8,8,8,8,8,8,8,8,8,8,8,8,8,8,8,8,8,8,8,8,8,8,8,8,8,8,8,8,8,8,8,8,8,8,8,8,8,8,8,8,8,8,8,8,8,8,8,8,8,8,8,8,8,8,8,8,8,8,8,8,8,8,8,8,8,8,8,8,8,8,8,8,8,8,8,8,8,8,8,8,8,8,8,8,8,8,8,8,8,8,8,8,8,8,8,8,8,8,8,8,8,8,8,8,8,8,8,8,8,8,8,8,8,8,8,8,8,8,8,8,8,8,8,8,8,8]
theorem tabL_at:∀ x < 256,∀ h:x < tabL.length,(x=0->tabL[x].toNat=0)/\(0 < x->1<=tabL[x].toNat/\2 ^ (tabL[x].toNat - 1)<=x/\x < 2 ^ tabL[x].toNat):=by decide
theorem tabL_len:tabL.length=256:=by decide
theorem bits_shift {u x n l:Nat} (hx:x=u / 2 ^ n) (h1:1<=l) (h2:2 ^ (l - 1)<=x) (h3:x < 2 ^ l):2 ^ (n+l - 1)<=u/\u < 2 ^ (n+l):=by
 subst hx
 constructor
 ·have:=(Nat.le_div_iff_mul_le (Nat.two_pow_pos n)).1 h2
  rw [<- Nat.pow_add] at this
  rwa [show n+l - 1=l - 1+n by omega]
 ·have:=(Nat.div_lt_iff_lt_mul (Nat.two_pow_pos n)).1 h3
  rw [<- Nat.pow_add] at this
  rwa [show n+l=l+n by omega]
theorem len153 {h:Hp} {n:Nat} (u:Nat) (hu:0 < u) (hu':u<=18446744073709551615):Fn E 170 [.int .u64 (u:Int)] h n fun r h' n'=>(∃ l:Nat,r=.int .i64 (l:Int)/\1<=l/\l<=64/\2 ^ (l - 1)<=u/\u < 2 ^ l)/\h'=h/\n'=n:=by
 refine Fn.of code170 (by decide) rfl fun Q cs hq=>?_
 show SW E Q 170 [(r0,.int .u64 (u:Int))] _ _ _ _
 have htop:topN .i64=9223372036854775807:=rfl
 have htop8:topN .u8=255:=rfl
 have done:∀ (x s:Nat),x=u / 2 ^ s->0 < x->x < 256->s<=56->∀ R,look R r0=some (.int .u64 (x:Int))->look R r2=some (.int .i64 (s:Int))->SW E Q 170 R [.code (.seq (.reg c170x10) .ret)] cs h n:=by
  intro x s hx h0 hx' hs R q0 q2
  have ht:=tabL_at x hx' (by rw [tabL_len];exact hx')
  obtain⟨h1,h2,h3⟩:=ht.2 h0
  have hb:=bits_shift hx h1 h2 h3
  have hl8:tabL[x]'(by rw [tabL_len];exact hx')<=8:=by
   have:∀ x < 256,∀ h:x < tabL.length,tabL[x]<=8:=by decide
   exact this x hx' _
  have hl8':(tabL[x]'(by rw [tabL_len];exact hx')).toNat<=8:=hl8
  refine SW.sub (R':=[(r0,.int .u64 (x:Int)),(r2,.int .i64 (s:Int))]) (by simp [q0,q2]) ?_
  repeat' first|refine SO.idxStrK (bs:=tabL) rfl rfl rfl rfl (by rw [tabL_len];exact hx') ?_|refine SO.convN rfl rfl rfl (by omega) ?_|refine SO.addN (tabL[x]'(by rw [tabL_len];exact hx')).toNat rfl rfl rfl rfl (by omega) ?_|refine SW.a rfl ?_|refine SW.reg ?_|refine SO.nil ?_|refine SO.a rfl ?_
  exact SW.ret code170 ⟨_,rfl,hq _ _ _ ⟨⟨_,rfl,by omega,by omega,hb.1,hb.2⟩,rfl,rfl⟩⟩
 have step3:∀ (x s:Nat),x=u / 2 ^ s->0 < x->x < 65536->s<=48->∀ R,look R r0=some (.int .u64 (x:Int))->look R r2=some (.int .i64 (s:Int))->SW E Q 170 R [.code (.seq (.seq (.reg c170x7) (.cond (.r r14) (.seq (.reg c170x8) (.reg c170x9)) .skip)) (.seq (.reg c170x10) .ret))] cs h n:=by
  intro x s hx h0 hx' hs R q0 q2
  refine SW.sub (R':=[(r0,.int .u64 (x:Int)),(r2,.int .i64 (s:Int))]) (by simp [q0,q2]) ?_
  refine SW.seq ?_
  by_cases hc:256<=x
  ·refine SW.seq ?_
   refine SW.reg ?_
   refine SO.mov rfl rfl rfl ?_
   refine SO.geqT rfl rfl rfl rfl (by omega) ?_
   refine SO.nil ?_
   refine SW.condT rfl ?_
   refine SW.seq ?_
   refine SW.reg ?_
   refine SO.mov rfl rfl rfl ?_
   refine SO.shrN 8 rfl rfl rfl rfl (by decide) ?_
   refine SO.mov rfl rfl rfl ?_
   refine SO.nil ?_
   refine SW.reg ?_
   refine SO.mov rfl rfl rfl ?_
   refine SO.addN 8 rfl rfl rfl rfl (by omega) ?_
   refine SO.mov rfl rfl rfl ?_
   refine SO.nil ?_
   exact done (x / 2 ^ 8) (s+8) (by rw [hx,Nat.div_div_eq_div_mul,<- Nat.pow_add]) (by omega) (by omega) (by omega) _ rfl rfl
  ·refine SW.seq ?_
   refine SW.reg ?_
   refine SO.mov rfl rfl rfl ?_
   refine SO.geqF rfl rfl rfl rfl (by omega) ?_
   refine SO.nil ?_
   refine SW.condF rfl ?_
   refine SW.skip ?_
   exact done x s hx h0 (by omega) (by omega) _ rfl rfl
 have step2:∀ (x s:Nat),x=u / 2 ^ s->0 < x->x < 4294967296->s<=32->∀ R,look R r0=some (.int .u64 (x:Int))->look R r2=some (.int .i64 (s:Int))->SW E Q 170 R [.code (.seq (.seq (.reg c170x4) (.cond (.r r8) (.seq (.reg c170x5) (.reg c170x6)) .skip)) (.seq (.seq (.reg c170x7) (.cond (.r r14) (.seq (.reg c170x8) (.reg c170x9)) .skip)) (.seq (.reg c170x10) .ret)))] cs h n:=by
  intro x s hx h0 hx' hs R q0 q2
  refine SW.sub (R':=[(r0,.int .u64 (x:Int)),(r2,.int .i64 (s:Int))]) (by simp [q0,q2]) ?_
  refine SW.seq ?_
  by_cases hc:65536<=x
  ·refine SW.seq ?_
   refine SW.reg ?_
   refine SO.mov rfl rfl rfl ?_
   refine SO.geqT rfl rfl rfl rfl (by omega) ?_
   refine SO.nil ?_
   refine SW.condT rfl ?_
   refine SW.seq ?_
   refine SW.reg ?_
   refine SO.mov rfl rfl rfl ?_
   refine SO.shrN 16 rfl rfl rfl rfl (by decide) ?_
   refine SO.mov rfl rfl rfl ?_
   refine SO.nil ?_
   refine SW.reg ?_
   refine SO.mov rfl rfl rfl ?_
   refine SO.addN 16 rfl rfl rfl rfl (by omega) ?_
   refine SO.mov rfl rfl rfl ?_
   refine SO.nil ?_
   exact step3 (x / 2 ^ 16) (s+16) (by rw [hx,Nat.div_div_eq_div_mul,<- Nat.pow_add]) (by omega) (by omega) (by omega) _ rfl rfl
  ·refine SW.seq ?_
   refine SW.reg ?_
   refine SO.mov rfl rfl rfl ?_
   refine SO.geqF rfl rfl rfl rfl (by omega) ?_
   refine SO.nil ?_
   refine SW.condF rfl ?_
   refine SW.skip ?_
   exact step3 x s hx h0 (by omega) (by omega) _ rfl rfl
 refine SW.seq ?_
 refine SW.reg ?_
 refine SO.mov rfl rfl rfl ?_
 refine SO.nil ?_
 refine SW.seq ?_
 refine SW.seq ?_
 refine SW.reg ?_
 refine SO.mov rfl rfl rfl ?_
 by_cases hc:4294967296<=u
 ·refine SO.geqT rfl rfl rfl rfl (by omega) ?_
  refine SO.nil ?_
  refine SW.condT rfl ?_
  refine SW.seq ?_
  refine SW.reg ?_
  refine SO.mov rfl rfl rfl ?_
  refine SO.shrN 32 rfl rfl rfl rfl (by decide) ?_
  refine SO.mov rfl rfl rfl ?_
  refine SO.nil ?_
  refine SW.reg ?_
  refine SO.mov rfl rfl rfl ?_
  refine SO.nil ?_
  exact step2 (u / 2 ^ 32) 32 rfl (by omega) (by omega) (by omega) _ rfl rfl
 ·refine SO.geqF rfl rfl rfl rfl (by omega) ?_
  refine SO.nil ?_
  refine SW.condF rfl ?_
  refine SW.skip ?_
  exact step2 u 0 (by simp) hu (by omega) (by omega) _ rfl rfl
set_option maxRecDepth 100000
set_option maxHeartbeats 4000000
section
variable {E:Env} {Q:Post} {fn:Fr} {md:Md} {R:List (Path × AV)} {todo:List AItem} {cs:List AF} {h h' h0:Hp} {n n' n0:Nat} {os:List COp} {k:IntKind} {p:Path} {g:Option (Path × Bool)} {X Y:CX} {a o:Nat}
theorem SO.idxArrA {len esz:Nat} (i:Nat) (hg:wantB R g=true) (hd:Nat.beq p.len depth=true) (h1:lookX R X=some (.ptr a o)) (h2:lookX R Y=some (.int k (i:Int))) (hi:i < len) (hw:SO E Q fn md ((p,.ptr a (o+i*esz))::R) os todo cs h n):SO E Q fn md R (⟨some p,g,[X,Y],.idxArrA len esz⟩::os) todo cs h n :=
 SO.val hg hd (two h1 h2) (fun K=>by
  show guardB (Nat.blt i len) (force (Nat.add o (Nat.mul i esz)) fun o=>K.v (.ptr a o) h n)=_
  have:Nat.blt i len=true:=by simp [Nat.blt,Nat.lt_iff_add_one_le] at hi ⊢;exact hi
  rw [this,force_eq];rfl) hw
end
def powC:List AV:=(List.range 20).map fun i=>.int .u64 ((10 ^ i:Nat):Int)
def Pow (h:Hp) (n:Nat):Prop:=Pt h n (.ptr 3 0) powC
theorem Pow.ext {h h':Hp} {n n':Nat} (hp:Pow h n) (e:Gr h n h' n'):Pow h' n':=Pt.ext hp e
theorem powC_at (t:Nat) (ht:t < 20):powC[t]?=some (.int .u64 ((10 ^ t:Nat):Int)):=by
 simp [powC,ht]
theorem log_fit:∀ l < 65,1<=l->l*78913 / 2 ^ 18<=19/\2 ^ l<=10 ^ (l*78913 / 2 ^ 18+1)/\(1<=l*78913 / 2 ^ 18->10 ^ (l*78913 / 2 ^ 18 - 1)<=2 ^ (l - 1)):=by decide
theorem numDigits258 {h:Hp} {n:Nat} (hp:Pow h n) (u:Nat) (hu:0 < u) (hu':u<=18446744073709551615):Fn E 291 [.int .u64 (u:Int)] h n fun r h' n'=>(∃ d:Nat,r=.int .i64 (d:Int)/\1<=d/\d<=20/\10 ^ (d - 1)<=u/\u < 10 ^ d)/\h'=h/\n'=n:=by
 refine Fn.of code291 (by decide) rfl fun Q cs hq=>?_
 show SW E Q 291 [(r0,.int .u64 (u:Int))] _ _ _ _
 have htop:topN .i64=9223372036854775807:=rfl
 repeat' first|refine SW.a rfl ?_|refine SW.reg ?_|refine SO.nil ?_|refine SO.a rfl ?_
 refine SO.callG rfl rfl rfl (len153 u hu hu') ?_
 rintro _ h' n' ⟨⟨l,rfl,h1,h2,h3,h4⟩,rfl,rfl⟩
 obtain⟨g1,g2,g3⟩:=log_fit l (by omega) h1
 refine SO.callG rfl rfl rfl (log367 l h2) ?_
 rintro _ h' n' ⟨rfl,rfl,rfl⟩
 generalize l*78913 / 2 ^ 18=t at *
 repeat' first|refine SO.idxArrA t rfl rfl rfl rfl (by omega) ?_|refine SO.loadF (off:=t) (o:=0) rfl rfl (by rw [show 0+t*1=0+t by omega];rfl) hp (Gr.refl _ _) (powC_at t (by omega)) ?_|refine SW.a rfl ?_|refine SW.reg ?_|refine SO.nil ?_|refine SO.a rfl ?_
 refine SO.geq rfl rfl rfl rfl (fun hge=>?_) (fun hlt=>?_)
 ·refine SO.callG rfl rfl rfl (bit368 true) ?_
  rintro _ h2 n2 ⟨rfl,rfl,rfl⟩
  repeat' first|refine SO.addN 1 rfl rfl rfl rfl (by omega) ?_|refine SO.nil ?_|refine SO.a rfl ?_
  exact SW.ret code291 ⟨_,rfl,hq _ _ _ ⟨⟨t+1,rfl,by omega,by omega,by simpa using Int.ofNat_le.1 hge,Nat.lt_of_lt_of_le h4 g2⟩,rfl,rfl⟩⟩
 ·refine SO.callG rfl rfl rfl (bit368 false) ?_
  rintro _ h2 n2 ⟨rfl,rfl,rfl⟩
  have hlt':u < 10 ^ t:=Int.ofNat_lt.1 hlt
  have ht1:1<=t:=by
   cases t with
   | zero=>simp at hlt';omega
   | succ t=>omega
  repeat' first|refine SO.addN 0 rfl rfl rfl rfl (by omega) ?_|refine SO.nil ?_|refine SO.a rfl ?_
  exact SW.ret code291 ⟨_,rfl,hq _ _ _ ⟨⟨t,rfl,ht1,by omega,Nat.le_trans (g3 ht1) h3,hlt'⟩,rfl,rfl⟩⟩
set_option maxRecDepth 100000
set_option maxHeartbeats 8000000
def lowD (u:Nat):Nat->List UInt8
 | 0=>[]
 | j+1=>UInt8.ofNat (48+u / 10 ^ j % 10)::lowD u j
theorem lowD_length (u:Nat):∀ j,(lowD u j).length=j
 | 0=>rfl
 | j+1=>by simp [lowD,lowD_length u j]
def Buf (vs us:List AV) (o i L:Nat) (ds:List AV):Prop:=us.length=vs.length/\us.take o=vs.take o/\us.drop (o+i)=ds++vs.drop (o+L)
theorem Buf.wr {vs us:List AV} {o i L:Nat} {ds:List AV} (x:AV) (hb:Buf vs us o (i+1) L ds) (hl:o+i < us.length):Buf vs (splice (o+i) [x] us) o i L (x::ds):=by
 obtain⟨h1,h2,h3⟩:=hb
 have e:splice (o+i) [x] us=us.take (o+i)++x::us.drop (o+i+1):=by simp [splice]
 have hlt:(us.take (o+i)).length=o+i:=by rw [List.length_take];omega
 refine⟨?_,?_,?_⟩
 ·rw [e,List.length_append,hlt];simp;omega
 ·rw [e,List.take_append_of_le_length (by omega),List.take_take,Nat.min_eq_left (by omega)];exact h2
 ·rw [e,List.drop_append_of_le_length (by omega),List.drop_eq_nil_of_le (by omega),List.nil_append,Nat.add_assoc,h3];rfl
theorem tabS_len:tabS.length=200:=by decide
theorem tabS_hi:∀ k < 100,∀ h:k*2 < tabS.length,tabS[k*2]=UInt8.ofNat (48+k / 10):=by decide
theorem tabS_lo:∀ k < 100,∀ h:k*2+1 < tabS.length,tabS[k*2+1]=UInt8.ofNat (48+k % 10):=by decide
section
variable {E:Env} {Q:Post} {fn:Fr} {md:Md} {R:List (Path × AV)} {todo:List AItem} {cs:List AF} {h h' h0:Hp} {n n' n0:Nat} {os:List COp} {k:IntKind} {p:Path} {g:Option (Path × Bool)} {X Y:CX} {a o:Nat} {v:AV} {y:Int}
theorem SO.idxW {esz l c:Nat} (i:Nat) (hg:wantB R g=true) (hd:Nat.beq p.len depth=true) (h1:lookX R X=some (.slc a o l c)) (h2:lookX R Y=some (.int k y)) (hy:y=(i:Int)) (hi:i < l) (hw:SO E Q fn md ((p,.ptr a (o+i*esz))::R) os todo cs h n):SO E Q fn md R (⟨some p,g,[X,Y],.idxSlA esz⟩::os) todo cs h n:=by
 subst hy
 exact SO.val hg hd (two h1 h2) (fun K=>by
  show guardB (Nat.blt i l) (force (Nat.add o (Nat.mul i esz)) fun o=>K.v (.ptr a o) h n)=_
  have:Nat.blt i l=true:=by simp [Nat.blt,Nat.lt_iff_add_one_le] at hi ⊢;exact hi
  rw [this,force_eq];rfl) hw
theorem SO.store1 {us:List AV} {e:TypeId} (hg:wantB R g=true) (h1:lookX R X=some (.ptr a o)) (h2:lookX R Y=some v) (hb0:hb h a=some (.cell us e false)) (hv:v.cells=[v]) (hv':∀ us,v≠.tup us) (hl:o < us.length)
  (hw:∀ h1,hb h1 a=some (.cell (splice o [v] us) e false)->(∀ b,b≠a->hb h1 b=hb h b)->SO E Q fn md R os todo cs h1 n):SO E Q fn md R (⟨none,g,[X,Y],.store 1⟩::os) todo cs h n :=
 SO.store hg h1 h2 hb0 hv' (by rw [hv];rfl) (by omega) fun h1 hc hk=>hw h1 (by rw [hv] at hc;exact hc) hk
theorem two_digits {vs us:List AV} {o' i L j u w:Nat}
  (hB:Buf vs us o' (i+2) L ((lowD u j).flatMap byteC)) (hL:i+2<=L) (hlen:o'+L<=vs.length) (hw:w < 100) (hd0:w % 10=u / 10 ^ j % 10) (hd1:w / 10=u / 10 ^ (j+1) % 10) :
  Buf vs (splice (o'+i) [.int .u8 ((tabS[w*2]'(by rw [tabS_len];omega)).toNat:Int)] (splice (o'+(i+1)) [.int .u8 ((tabS[w*2+1]'(by rw [tabS_len];omega)).toNat:Int)] us)) o' i L ((lowD u (j+2)).flatMap byteC):=by
 have hul:=hB.1
 have h1:=Buf.wr (i:=i+1) (.int .u8 ((tabS[w*2+1]'(by rw [tabS_len];omega)).toNat:Int)) hB (by omega)
 have h2:=Buf.wr (i:=i) (.int .u8 ((tabS[w*2]'(by rw [tabS_len];omega)).toNat:Int)) h1 (by rw [h1.1];omega)
 rw [tabS_hi w hw,tabS_lo w hw,hd0,hd1] at *
 exact h2
end
end Go.Ev
