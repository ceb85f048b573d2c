/- The abstract interpreter: strings. -/
import Derived.Test.YtognadjclbihgaaGreatDoorE1
import Derived.Laws.StructEq
import Derived.ChangeKeysEq
import Derived.Laws.BytesString
set_option linter.all false
namespace Go.Ev
theorem bytesOf_length (l c:Nat):(bytesOf l c).length=l:=by
 induction l generalizing c with
 | zero=>rfl
 | succ l ih=>simp [bytesOf,ih]
theorem bytesOf_get (l c i:Nat) (h:i < l):(bytesOf l c)[i]?=some (UInt8.ofNat ((c / 256 ^ i) % 256)):=by
 induction l generalizing c i with
 | zero=>omega
 | succ l ih =>
  cases i with
  | zero=>simp [bytesOf]
  | succ i=>simp only [bytesOf,List.getElem?_cons_succ];rw [ih _ _ (by omega),Nat.div_div_eq_div_mul,Nat.pow_succ,Nat.mul_comm]
theorem u8_inj {a b:Nat} (ha:a < 256) (hb:b < 256) (h:UInt8.ofNat a=UInt8.ofNat b):a=b:=by
 have:=congrArg UInt8.toNat h
 simp at this;omega
theorem bytesOf_inj {l c d:Nat} (hc:c < 256 ^ l) (hd:d < 256 ^ l) (h:bytesOf l c=bytesOf l d):c=d:=by
 induction l generalizing c d with
 | zero=>simp at hc hd;omega
 | succ l ih =>
  simp only [bytesOf,List.cons.injEq] at h
  have h1:=u8_inj (Nat.mod_lt _ (by omega)) (Nat.mod_lt _ (by omega)) h.1
  have h2:=ih (by rw [Nat.pow_succ] at hc;omega) (by rw [Nat.pow_succ] at hd;omega) h.2
  omega
theorem bytesOf_mod (l c:Nat):bytesOf l (c % 256 ^ l)=bytesOf l c:=by
 induction l generalizing c with
 | zero=>rfl
 | succ l ih =>
  simp only [bytesOf]
  have e1:c % 256 ^ (l+1) % 256=c % 256:=by
   rw [Nat.pow_succ,Nat.mul_comm,Nat.mod_mul_right_mod]
  have e2:c % 256 ^ (l+1) / 256=(c / 256) % 256 ^ l:=by
   rw [Nat.pow_succ,Nat.mul_comm,Nat.mod_mul_right_div_self]
  rw [e1,e2,ih]
theorem bytesOf_append (l m c d:Nat) (hc:c < 256 ^ l):bytesOf (l+m) (c+d*256 ^ l)=bytesOf l c++bytesOf m d:=by
 induction l generalizing c with
 | zero=>simp at hc;subst hc;simp [bytesOf]
 | succ l ih =>
  rw [show l+1+m=(l+m)+1 from by omega]
  simp only [bytesOf,List.cons_append]
  rw [Nat.pow_succ] at hc
  have e1:(c+d*256 ^ (l+1)) % 256=c % 256:=by
   rw [Nat.pow_succ,<- Nat.mul_assoc,Nat.add_mul_mod_self_right]
  have e2:(c+d*256 ^ (l+1)) / 256=c / 256+d*256 ^ l:=by
   rw [Nat.pow_succ,<- Nat.mul_assoc,Nat.add_mul_div_right _ _ (by omega)]
  rw [e1,e2,ih (c / 256) (by omega)]
theorem bytesOf_drop (l c i:Nat):(bytesOf l c).drop i=bytesOf (l - i) (c / 256 ^ i):=by
 induction i generalizing l c with
 | zero=>simp
 | succ i ih =>
  cases l with
  | zero=>simp [bytesOf]
  | succ l=>simp only [bytesOf,List.drop_succ_cons,ih,Nat.add_sub_add_right];rw [Nat.div_div_eq_div_mul,Nat.pow_succ,Nat.mul_comm]
theorem bytesOf_take (l c i:Nat) (h:i<=l):(bytesOf l c).take i=bytesOf i c:=by
 induction i generalizing l c with
 | zero=>simp [bytesOf]
 | succ i ih =>
  cases l with
  | zero=>omega
  | succ l=>simp only [bytesOf,List.take_succ_cons];rw [ih _ _ (by omega)]
theorem pow256 (l:Nat):2 ^ (8*l)=256 ^ l:=by rw [Nat.pow_mul]
theorem strSub_eq (c i j:Nat):strSub c i j=(c / 256 ^ i) % 256 ^ (j - i):=by
 show (c >>>(8*i)) % 2 ^ (8*(j - i))=_
 rw [Nat.shiftRight_eq_div_pow,pow256,pow256]
theorem bytesOf_sub (l c i j:Nat) (hj:j<=l):bytesOf (j - i) (strSub c i j)=((bytesOf l c).drop i).take (j - i):=by
 rw [strSub_eq,bytesOf_mod,bytesOf_drop]
 by_cases h:j - i=0
 ·simp [h,bytesOf]
 ·rw [bytesOf_take _ _ _ (by omega)]
theorem strSub_lt (c i j:Nat):strSub c i j < 256 ^ (j - i):=by rw [strSub_eq];exact Nat.mod_lt _ (Nat.pow_pos (by omega))
theorem strIdx_eq (c i:Nat):strIdx c i=(c / 256 ^ i) % 256:=by
 show (c >>>(8*i)) % 256=_
 rw [Nat.shiftRight_eq_div_pow,pow256]
section
variable {P:Program} {o:Oper} {vs:List AV} {h:Hp} {n:Nat} {K:KS}
theorem str_size (l c:Nat):(⟨(bytesOf l c).toArray⟩:ByteArray).size=l:=by
 show (bytesOf l c).toArray.size=l
 simp [bytesOf_length]
theorem str_toList (l c:Nat):(⟨(bytesOf l c).toArray⟩:ByteArray).toList=bytesOf l c:=by
 rw [ByteArray.toList_eq]
theorem concat_pure {t u:TypeId} {x y:Operand} (hop:o.op=.binOp .add t x y u) (hx:execV .concat vs h n K=true):PureTo P o .concat [x,y] vs:=by
 obtain⟨a,b,rfl,hx1⟩:=un2_iff.1 (hx:un2 _ vs=true)
 obtain⟨l,c,rfl,hx2⟩:=ifStr_iff.1 hx1
 obtain⟨m,d,rfl,hx3⟩:=ifStr_iff.1 hx2
 rw [force_eq] at hx3
 obtain⟨hle,hx4⟩:=guardB_iff.1 hx3
 have hle':l+m<=1000000000:=Nat.le_of_ble_eq_true hle
 refine⟨.str (l+m) (c+Nat.shiftLeft d (8*l)),fun h n K=>?_,fun φ ρ w _ hr=>?_⟩
 ·show force (l+m) (fun l'=>guardB (Nat.ble l' 1000000000) (force (c+Nat.shiftLeft d (8*l)) fun c'=>K.v (.str l' c') h n))=_
  rw [force_eq,force_eq,show Nat.ble (l+m) 1000000000=true from hle];rfl
 ·obtain⟨r1,r2⟩:=rel2 hr
  simp only [VRel] at r1 r2
  obtain⟨c1,r1⟩:=r1
  obtain⟨c2,r2⟩:=r2
  have hsh:Nat.shiftLeft d (8*l)=d*256 ^ l:=by
   show d <<<(8*l)=_
   rw [Nat.shiftLeft_eq,pow256]
  refine⟨.string ⟨(bytesOf (l+m) (c+d*256 ^ l)).toArray⟩,binop_run hop (eqGuard_run w (by simp) (by simp)) ?_,?_⟩
  ·rw [r1,r2]
   have hs:¬ (((l+m:Nat):Int) > IntKind.i64.max):=by simp [IntKind.max,IntKind.signed,IntKind.bits];omega
   simp only [binOp,Op.stringOp,str_size]
   rw [if_neg hs,bytesOf_append _ _ _ _ c1]
   simp only [Sem.run_pure]
   congr 2
  ·simp only [VRel,hsh]
   refine⟨?_,trivial⟩
   rw [Nat.pow_add,Nat.mul_comm (256 ^ l)]
   have:(d+1)*256 ^ l<=256 ^ m*256 ^ l:=Nat.mul_le_mul_right _ c2
   rw [Nat.add_mul,Nat.one_mul] at this
   omega
theorem str_beq {l c m d:Nat} (hc:c < 256 ^ l) (hd:d < 256 ^ m):(bytesOf l c == bytesOf m d)=(Nat.beq l m&&Nat.beq c d):=by
 rw [Bool.eq_iff_iff]
 simp only [beq_iff_eq,Bool.and_eq_true,Nat.beq_eq]
 constructor
 ·intro e
  have hl:l=m:=by have:=congrArg List.length e;simpa [bytesOf_length] using this
  subst hl
  exact⟨rfl,bytesOf_inj hc hd e⟩
 ·rintro⟨rfl,rfl⟩;rfl
theorem scmp_pure {t u:TypeId} {op:BinOp} {x y:Operand} (hop:o.op=.binOp op t x y u) (ho:op=.lss\/op=.leq\/op=.gtr\/op=.geq) (hx:execV (.scmp op) vs h n K=true):PureTo P o (.scmp op) [x,y] vs:=by
 obtain⟨a,b,rfl,hx1⟩:=un2_iff.1 (hx:un2 _ vs=true)
 obtain⟨l,c,rfl,hx2⟩:=ifStr_iff.1 hx1
 obtain⟨m,d,rfl,hx3⟩:=ifStr_iff.1 hx2
 cases hf:scmpB op l c m d with
 | none=>rw [hf] at hx3;exact Bool.noConfusion (hx3:false=true)
 | some z =>
  refine⟨.bool z,fun h n K=>?_,fun φ ρ w _ hr=>?_⟩
  ·show optB (scmpB op l c m d) (fun z=>K.v (.bool z) h n)=_
   rw [hf];exact forceB_eq z fun z=>K.v (.bool z) h n
  ·obtain⟨r1,r2⟩:=rel2 hr
   simp only [VRel] at r1 r2
   obtain⟨c1,r1⟩:=r1
   obtain⟨c2,r2⟩:=r2
   refine⟨.bool z,binop_run hop (eqGuard_run w (by rcases ho with rfl|rfl|rfl|rfl<;>simp) (by rcases ho with rfl|rfl|rfl|rfl<;>simp)) ?_,by simp [VRel]⟩
   rw [r1,r2]
   rcases ho with rfl|rfl|rfl|rfl<;>simp only [scmpB,Option.some.injEq] at hf<;>subst hf<;>simp only [binOp,Op.stringOp,str_toList,str_beq c1 c2,strLess,Sem.run_pure]
theorem idxStr_pure {t:TypeId} {x i:Operand} (hop:o.op=.index t x i) (ht:P.underlying t=some .string) (hx:execV .idxStr vs h n K=true):PureTo P o .idxStr [x,i] vs:=by
 obtain⟨a,b,rfl,hx1⟩:=un2_iff.1 (hx:un2 _ vs=true)
 obtain⟨l,c,rfl,hx2⟩:=ifStr_iff.1 hx1
 obtain⟨kd,j,rfl,hx3⟩:=ifNat_iff.1 hx2
 obtain⟨hj,hx4⟩:=guardB_iff.1 hx3
 have hj':j < l:=by simpa [Nat.blt,Nat.lt_iff_add_one_le] using hj
 refine⟨.int .u8 (strIdx c j),fun h n K=>?_,fun φ ρ w _ hr=>?_⟩
 ·show guardB (Nat.blt j l) (force (strIdx c j) fun b=>K.v (.int .u8 (.ofNat b)) h n)=_
  rw [hj,force_eq];rfl
 ·obtain⟨r1,r2⟩:=rel2 hr
  simp only [VRel] at r1 r2
  obtain⟨c1,r1⟩:=r1
  refine⟨.int .u8 (strIdx c j),?_,by simp [VRel]⟩
  have hg:(⟨(bytesOf l c).toArray⟩:ByteArray)[j]?=some (UInt8.ofNat (strIdx c j)):=by
   have h1:=bytesOf_get l c j hj'
   rw [<- strIdx_eq] at h1
   have hs:=str_size l c
   rw [getElem?_pos _ _ (by rw [hs];exact hj')]
   congr 1
   rw [List.getElem?_eq_some_iff] at h1
   obtain⟨_,h1⟩:=h1
   rw [<- h1];rfl
  have hlt:strIdx c j < 256:=by rw [strIdx_eq];exact Nat.mod_lt _ (by omega)
  simp [execOp,hop,Instr.index,asIntOf,r1,r2,underlying,ht,hg,Nat.mod_eq_of_lt hlt]
theorem bool_rec_eq {α:Type} (b:Bool) (x y:α):(Bool.rec (motive:=fun _=>α) x y b:α)=if b then y else x:=by cases b<;>rfl
theorem boundK_iff {b:Bool} {vs:List AV} {dflt most:Nat} {k:Nat->List AV->Bool}:boundK b vs dflt most k=true ↔
  (b=false/\k dflt vs=true)\/(b=true/\∃ kd,∃ m:Nat,∃ r,vs=.int kd m::r/\m<=most/\k m r=true):=by
 unfold boundK
 cases b with
 | false=>simp
 | true =>
  simp only [Bool.true_eq_false,false_and,true_and,false_or]
  cases vs with
  | nil=>simp
  | cons v r =>
   show ifNat v (fun m=>guardB (Nat.ble m most) (k m r))=true ↔ _
   rw [ifNat_iff]
   constructor
   ·rintro⟨kd,m,rfl,h1⟩
    obtain⟨h2,h3⟩:=guardB_iff.1 h1
    exact⟨kd,m,r,rfl,Nat.le_of_ble_eq_true h2,h3⟩
   ·rintro⟨kd,m,r',e,h1,h2⟩
    simp only [List.cons.injEq] at e
    obtain⟨rfl,rfl⟩:=e
    exact⟨kd,m,rfl,guardB_iff.2 ⟨Nat.ble_eq_true_of_le h1,h2⟩⟩
def BoundsAre (lo hi mx:Bool) (vs:List AV) (len cap l h m:Nat):Prop :=
 ∃ a b c,vs=a++b++c /\
  ((mx=false/\a=[]/\m=cap)\/(mx=true/\∃ kd,a=[.int kd (m:Nat)]/\m<=cap)) /\
  ((hi=false/\b=[]/\h=len)\/(hi=true/\∃ kd,b=[.int kd (h:Nat)]/\h<=m)) /\
  ((lo=false/\c=[]/\l=0)\/(lo=true/\∃ kd,c=[.int kd (l:Nat)]/\l<=h))
theorem endK_iff {vs:List AV} {k:Bool}:endK vs k=true ↔ vs=[]/\k=true:=by cases vs<;>simp [endK]
theorem boundK_false {vs:List AV} {dflt most:Nat} {k:Nat->List AV->Bool}:boundK false vs dflt most k=k dflt vs:=rfl
theorem boundK_true {kd:IntKind} {r:List AV} {dflt most m:Nat} {k:Nat->List AV->Bool} (h:m<=most):boundK true (.int kd (m:Nat)::r) dflt most k=k m r:=by
 show guardB (Nat.ble m most) (k m r)=_
 rw [Nat.ble_eq_true_of_le h];rfl
theorem bounds3_val {lo hi mx:Bool} {vs:List AV} {len cap:Nat} {k:Nat->Nat->Nat->Bool} (hk:bounds3 lo hi mx vs len cap k=true) :
  ∃ l h m,BoundsAre lo hi mx vs len cap l h m/\k l h m=true/\∀ k,bounds3 lo hi mx vs len cap k=k l h m:=by
 unfold bounds3 at hk
 rcases boundK_iff.1 hk with ⟨rfl,h1⟩ |⟨rfl,kd1,m,r1,rfl,hm,h1⟩ <;>
 rcases boundK_iff.1 h1 with ⟨rfl,h2⟩ |⟨rfl,kd2,b,r2,rfl,hb,h2⟩ <;>
 rcases boundK_iff.1 h2 with ⟨rfl,h3⟩ |⟨rfl,kd3,a,r3,rfl,ha,h3⟩ <;>
 obtain⟨rfl,h4⟩:=endK_iff.1 h3
 ·exact⟨_,_,_,⟨[],[],[],rfl,.inl ⟨rfl,rfl,rfl⟩,.inl ⟨rfl,rfl,rfl⟩,.inl ⟨rfl,rfl,rfl⟩⟩,h4,fun k=>by simp only [bounds3,boundK_false];rfl⟩
 ·exact⟨_,_,_,⟨[],[],[_],rfl,.inl ⟨rfl,rfl,rfl⟩,.inl ⟨rfl,rfl,rfl⟩,.inr ⟨rfl,kd3,rfl,ha⟩⟩,h4,fun k=>by simp only [bounds3,boundK_false,boundK_true ha];rfl⟩
 ·exact⟨_,_,_,⟨[],[_],[],rfl,.inl ⟨rfl,rfl,rfl⟩,.inr ⟨rfl,kd2,rfl,hb⟩,.inl ⟨rfl,rfl,rfl⟩⟩,h4,fun k=>by simp only [bounds3,boundK_false,boundK_true hb];rfl⟩
 ·exact⟨_,_,_,⟨[],[_],[_],rfl,.inl ⟨rfl,rfl,rfl⟩,.inr ⟨rfl,kd2,rfl,hb⟩,.inr ⟨rfl,kd3,rfl,ha⟩⟩,h4,fun k=>by simp only [bounds3,boundK_false,boundK_true hb,boundK_true ha];rfl⟩
 ·exact⟨_,_,_,⟨[_],[],[],rfl,.inr ⟨rfl,kd1,rfl,hm⟩,.inl ⟨rfl,rfl,rfl⟩,.inl ⟨rfl,rfl,rfl⟩⟩,h4,fun k=>by simp only [bounds3,boundK_false,boundK_true hm];rfl⟩
 ·exact⟨_,_,_,⟨[_],[],[_],rfl,.inr ⟨rfl,kd1,rfl,hm⟩,.inl ⟨rfl,rfl,rfl⟩,.inr ⟨rfl,kd3,rfl,ha⟩⟩,h4,fun k=>by simp only [bounds3,boundK_false,boundK_true hm,boundK_true ha];rfl⟩
 ·exact⟨_,_,_,⟨[_],[_],[],rfl,.inr ⟨rfl,kd1,rfl,hm⟩,.inr ⟨rfl,kd2,rfl,hb⟩,.inl ⟨rfl,rfl,rfl⟩⟩,h4,fun k=>by simp only [bounds3,boundK_false,boundK_true hm,boundK_true hb];rfl⟩
 ·exact⟨_,_,_,⟨[_],[_],[_],rfl,.inr ⟨rfl,kd1,rfl,hm⟩,.inr ⟨rfl,kd2,rfl,hb⟩,.inr ⟨rfl,kd3,rfl,ha⟩⟩,h4,fun k=>by simp only [bounds3,boundK_true hm,boundK_true hb,boundK_true ha];rfl⟩
theorem sliceBound_run {x:Value} {y m:Nat} {code:BoundsCode} {kd:IntKind} (w:World) (hx:x=.int kd m) (hm:m<=y):(Instr.sliceBound x y code).run P w=.ok m w:=by
 subst hx
 have h1:(0:Int)<=(m:Int)/\(m:Int)<=(y:Int):=by omega
 simp [Instr.sliceBound,asIntOf,hm]
theorem sliceBounds_run {φ:Phi} {ρ:Operand->Value} {lo hi mx:Option Operand} {vs:List AV} {isSlice:Bool} {len cap capW l h m mW:Nat} (w:World) (hr:VRels φ vs ((optL mx++optL hi++optL lo).map ρ))
  (hb:BoundsAre lo.isSome hi.isSome mx.isSome vs len cap l h m) (hcap:mx.isSome=false->m<=capW/\mW=capW) (hcap':mx.isSome=true->cap<=capW/\mW=m) (hmx:mx.isSome=true->hi.isSome=true) :
  (Instr.sliceBounds isSlice len capW (lo.map ρ) (hi.map ρ) (mx.map ρ)).run P w=.ok (l,h,mW) w:=by
 obtain⟨a,b,c,rfl,ha,hb',hc⟩:=hb
 cases mx with
 | none =>
  rcases ha with ⟨-,rfl,rfl⟩ |⟨h',_⟩
  ·obtain⟨hm,rfl⟩:=hcap rfl
   cases hi with
   | none =>
    rcases hb' with ⟨-,rfl,rfl⟩ |⟨h',_⟩
    ·cases lo with
     | none =>
      rcases hc with ⟨-,rfl,rfl⟩ |⟨h',_⟩
      ·simp [Instr.sliceBounds]
      ·simp at h'
     | some x =>
      rcases hc with ⟨h',_⟩ |⟨-,kd,rfl,hl⟩
      ·simp at h'
      ·have r:=rel1 (x:=x) (by simpa [optL] using hr)
       rw [int_rel] at r
       simp [Instr.sliceBounds,sliceBound_run w r hl]
    ·simp at h'
   | some y =>
    rcases hb' with ⟨h',_⟩ |⟨-,kd,rfl,hh⟩
    ·simp at h'
    ·cases lo with
     | none =>
      rcases hc with ⟨-,rfl,rfl⟩ |⟨h',_⟩
      ·have r:=rel1 (x:=y) (by simpa [optL] using hr)
       rw [int_rel] at r
       have hh':h<=mW:=by omega
       simp [Instr.sliceBounds,sliceBound_run w r hh']
      ·simp at h'
     | some x =>
      rcases hc with ⟨h',_⟩ |⟨-,kd',rfl,hl⟩
      ·simp at h'
      ·have r:=rel2 (x:=y) (y:=x) (by simpa [optL] using hr)
       rw [int_rel,int_rel] at r
       have hh':h<=mW:=by omega
       simp [Instr.sliceBounds,sliceBound_run w r.1 hh',sliceBound_run w r.2 hl]
  ·simp at h'
 | some z =>
  rcases ha with ⟨h',_⟩ |⟨-,kd0,rfl,hm⟩
  ·simp at h'
  ·obtain⟨hcw,rfl⟩:=hcap' rfl
   cases hi with
   | none=>simp at hmx
   | some y =>
    rcases hb' with ⟨h',_⟩ |⟨-,kd,rfl,hh⟩
    ·simp at h'
    ·cases lo with
     | none =>
      rcases hc with ⟨-,rfl,rfl⟩ |⟨h',_⟩
      ·have r:=rel2 (x:=z) (y:=y) (by simpa [optL] using hr)
       rw [int_rel,int_rel] at r
       simp [Instr.sliceBounds,sliceBound_run w r.1 (show mW<=capW by omega),sliceBound_run w r.2 hh]
      ·simp at h'
     | some x =>
      rcases hc with ⟨h',_⟩ |⟨-,kd',rfl,hl⟩
      ·simp at h'
      ·have r:=rel3 (x:=z) (y:=y) (z:=x) (by simpa [optL] using hr)
       rw [int_rel,int_rel,int_rel] at r
       simp [Instr.sliceBounds,sliceBound_run w r.1 (show mW<=capW by omega),sliceBound_run w r.2.1 hh,sliceBound_run w r.2.2 hl]
theorem consK_iff {vs:List AV} {f:AV->List AV->Bool}:(List.casesOn (motive:=fun _=>Bool) vs false f)=true ↔ ∃ x r,vs=x::r/\f x r=true:=by
 constructor
 ·intro h;cases vs with
  | nil=>exact Bool.noConfusion (h:false=true)
  | cons x r=>exact⟨x,r,rfl,h⟩
 ·rintro⟨x,r,rfl,h⟩;exact h
theorem sliceStr_pure {t:TypeId} {x:Operand} {lo hi:Option Operand} (hop:o.op=.slice t x lo hi none) (ht:P.underlying t=some .string) (hx:execV (.sliceStr lo.isSome hi.isSome) vs h n K=true) :
  PureTo P o (.sliceStr lo.isSome hi.isSome) (x::(optL hi++optL lo)) vs:=by
 obtain⟨x0,vs,rfl,hx1⟩:=consK_iff.1 (hx:List.casesOn (motive:=fun _=>Bool) vs false _=true)
 obtain⟨l,c,rfl,hx2⟩:=ifStr_iff.1 hx1
 obtain⟨a,b,m,hb,hx3,hk⟩:=bounds3_val hx2
 have hbl:b<=l:=by
  obtain⟨_,_,_,_,h1,h2,h3⟩:=hb
  rcases h1 with ⟨_,_,rfl⟩ |⟨h',_⟩
  ·rcases h2 with ⟨_,_,rfl⟩ |⟨_,_,_,h⟩<;>omega
  ·simp at h'
 refine⟨.str (b - a) (strSub c a b),fun h n K=>?_,fun φ ρ w _ hr=>?_⟩
 ·show bounds3 lo.isSome hi.isSome false vs l l (fun a b _=>force (Nat.sub b a) fun l'=>force (strSub c a b) fun c'=>K.v (.str l' c') h n)=_
  rw [hk,force_eq,force_eq];rfl
 ·obtain⟨c0,r0,e,r1,r2⟩:=VRels.cons_iff.1 hr
  simp only [List.map_cons,List.cons.injEq] at e
  obtain⟨rfl,rfl⟩:=e
  simp only [VRel] at r1
  obtain⟨c1,r1⟩:=r1
  refine⟨.string ⟨(bytesOf (b - a) (strSub c a b)).toArray⟩,?_,by simp only [VRel];exact⟨strSub_lt c a b,trivial⟩⟩
  have hrun:=sliceBounds_run (P:=P) (isSlice:=false) (mx:=none) (capW:=l) (mW:=l) w (by simpa [optL] using r2) hb (fun _=>⟨by
   obtain⟨_,_,_,_,h1,h2,h3⟩:=hb
   rcases h1 with ⟨_,_,rfl⟩ |⟨h',_⟩
   ·omega
   ·simp at h',rfl⟩) (fun h=>by simp at h) (fun h=>by simp at h)
  have hrun':(Instr.sliceBounds false l l (lo.map ρ) (hi.map ρ) none).run P w=.ok (a,b,l) w:=hrun
  have hex:(⟨(bytesOf l c).toArray⟩:ByteArray).extract a b=⟨(bytesOf (b - a) (strSub c a b)).toArray⟩:=by
   rw [bytesOf_sub l c a b hbl]
   apply ByteArray.ext
   simp [List.extract_eq_take_drop]
  simp [execOp,hop,Instr.sliceAt,Instr.slice,underlying,ht,r1,str_size,hrun',hex]
theorem movedK_eq (q lo m esz:Nat) (k:Nat->Bool):movedK q lo m esz k=k (if m=lo then q else q+lo*esz):=by
 unfold movedK
 by_cases e:m=lo
 ·subst e;rw [show Nat.beq m m=true from by simp];simp
 ·rw [show Nat.beq m lo=false from by rw [Bool.eq_false_iff];intro h;exact e (Nat.eq_of_beq_eq_true h)]
  simp [e];exact force_eq _ _
theorem sliceArr_pure {t e:TypeId} {q s:Nat} {x:Operand} {lo hi mx:Option Operand} (hop:o.op=.slice t x lo hi mx)
  (ht:P.underlying t=some (.array q e)\/∃ a,P.underlying t=some (.pointer a)/\P.underlying a=some (.array q e)) (hs:TI.size P e=some s) (hmx:¬ (mx.isSome=true/\hi.isSome=false))
  (hx:execV (.sliceArr q s lo.isSome hi.isSome mx.isSome) vs h n K=true):PureTo P o (.sliceArr q s lo.isSome hi.isSome mx.isSome) (x::(optL mx++optL hi++optL lo)) vs:=by
 obtain⟨x0,vs,rfl,hx1⟩:=consK_iff.1 (hx:List.casesOn (motive:=fun _=>Bool) vs false _=true)
 obtain⟨a,q0,rfl,hx2⟩:=ifPtr_iff.1 hx1
 obtain⟨l,b,m,hb,hx3,hk⟩:=bounds3_val hx2
 have hlm:l<=b/\b<=m:=by
  obtain⟨_,_,_,_,h1,h2,h3⟩:=hb
  have hbm:b<=m:=by
   rcases h2 with ⟨hf,_,rfl⟩ |⟨_,_,_,h⟩
   ·rcases h1 with ⟨_,_,rfl⟩ |⟨h',_⟩
    ·omega
    ·exact absurd ⟨h',hf⟩ hmx
   ·omega
  exact⟨by rcases h3 with ⟨_,_,rfl⟩ |⟨_,_,_,h⟩<;>omega,hbm⟩
 refine⟨.slc a (if m=l then q0 else q0+l*s) (b - l) (m - l),fun h n K=>?_,fun φ ρ w _ hr=>?_⟩
 ·show bounds3 lo.isSome hi.isSome mx.isSome vs q q (fun lo hi m=>movedK q0 lo m s fun o'=>force (Nat.sub hi lo) fun l'=>force (Nat.sub m lo) fun c'=>K.v (.slc a o' l' c') h n)=_
  rw [hk,movedK_eq,force_eq,force_eq];rfl
 ·obtain⟨c0,r0,e0,r1,r2⟩:=VRels.cons_iff.1 hr
  simp only [List.map_cons,List.cons.injEq] at e0
  obtain⟨rfl,rfl⟩:=e0
  simp only [VRel] at r1
  obtain⟨p,hp,r1⟩:=r1
  obtain⟨i',hi',hs'⟩:∃ i',P.info? e=some i'/\i'.size=s:=by simpa [TI.size] using hs
  refine⟨.slice (some ⟨p.blk,p.off+(if m=l then q0 else q0+l*s),none⟩) (b - l) (m - l),?_,by simp only [VRel];exact⟨p,hp,rfl,by omega⟩⟩
  have hmq:m<=q:=by
   obtain⟨_,_,_,_,h1,_⟩:=hb
   rcases h1 with ⟨_,_,rfl⟩ |⟨_,_,_,h⟩<;>omega
  have hrun:=sliceBounds_run (P:=P) (isSlice:=false) (capW:=q) (mW:=m) w r2 hb (fun hf=>⟨hmq,by
   obtain⟨_,_,_,_,h1,_⟩:=hb
   rcases h1 with ⟨_,_,rfl⟩ |⟨h',_⟩
   ·rfl
   ·simp [hf] at h'⟩) (fun hf=>⟨Nat.le_refl _,rfl⟩) (fun hf=>by cases hh:hi.isSome with|true=>rfl|false=>exact absurd ⟨hf,hh⟩ hmx)
  have hfin:(if m=l then (⟨p.blk,p.off+q0,none⟩:Addr) else (⟨p.blk,p.off+q0,none⟩:Addr).add (l*s))=⟨p.blk,p.off+(if m=l then q0 else q0+l*s),none⟩:=by
   by_cases e1:m=l
   ·simp [e1]
   ·simp [e1,addr_add];omega
  rcases ht with ht |⟨a',ht,ha'⟩
  ·simp [execOp,hop,Instr.sliceAt,underlying,ht,Instr.sureAddr,r1,hrun,sizeOf,typeInfo,hi',hs',hfin]
  ·simp [execOp,hop,Instr.sliceAt,Instr.slice,underlying,ht,ha',asAddr,r1,hrun,sizeOf,typeInfo,hi',hs',hfin]
theorem cells_len {φ:Phi} {v:AV} {c:Value} (h:VRel φ v c):v.cells.length=c.cells.size:=by
 have:=h.cells.length;simpa using this
theorem foldl_splice (new:List Value):∀ (cs:Array Value) (off j:Nat),off+j+new.length<=cs.size ->
  ((new.zipIdx j).foldl (fun (cs:Array Value) (x:Value × Nat)=>cs.setIfInBounds (off+x.2) x.1) cs).toList=splice (off+j) new cs.toList:=by
 induction new with
 | nil=>intro cs off j hl;simp [splice]
 | cons x xs ih =>
  intro cs off j hl
  simp only [List.zipIdx_cons,List.foldl_cons]
  rw [ih _ off (j+1) (by simp at hl ⊢;omega)]
  simp only [List.length_cons] at hl
  apply List.ext_getElem?
  intro i
  rw [splice_get (by simp;omega),splice_get (by simp at hl ⊢;omega)]
  simp only [List.length_cons,Array.toList_setIfInBounds,List.getElem?_set]
  by_cases h1:i=off+j
  ·subst h1
   rw [if_neg (by omega),if_pos (by omega)]
   simp;omega
  ·by_cases h2:off+(j+1)<=i/\i < off+(j+1)+xs.length
   ·rw [if_pos h2,if_pos (by omega),show i - (off+j)=(i - (off+(j+1)))+1 by omega];simp
   ·rw [if_neg h2,if_neg (by omega),if_neg (by omega)]
theorem splice_rel {φ:Phi} {off:Nat} {new vs:List AV} {cn cs:List Value} (hn:VRels φ new cn) (hv:VRels φ vs cs):VRels φ (splice off new vs) (splice off cn cs):=by
 unfold splice
 have e:=hn.length
 refine (hv.take off).append (hn.append ?_)
 rw [e];exact hv.drop _
theorem splice_scalar {off:Nat} {new vs:List AV} (hn:new.all AV.scalar=true) (hv:vs.all AV.scalar=true):(splice off new vs).all AV.scalar=true:=by
 rw [List.all_eq_true] at *
 intro x hx
 unfold splice at hx
 rcases List.mem_append.1 hx with h|h
 ·exact hv x (List.mem_of_mem_take h)
 ·rcases List.mem_append.1 h with h|h
  ·exact hn x h
  ·exact hv x (List.mem_of_mem_drop h)
theorem fillK_cons (p:Nat × Nat) (ps:List (Nat × Nat)) (v:AV) (vs cs:List AV) (k:List AV->Bool) :
  fillK (p::ps) (v::vs) cs k=cellsK v (fun new=>lenK new fun l=>guardB (Nat.beq l p.2) (spliceK p.1 new cs fun cs=>fillK ps vs cs k)):=rfl
theorem fillK_val {ps:List (Nat × Nat)}:∀ {vs cs:List AV} {k:List AV->Bool},fillK ps vs cs k=true->∃ out,(∀ k,fillK ps vs cs k=k out)/\k out=true /\
  ∀ (φ:Phi) (cvs:List Value) (ccs:Array Value) (places:Nat->Option (Nat × Nat)) (is:List Nat),VRels φ vs cvs->VRels φ cs ccs.toList->cs.all AV.scalar=true->is.length=ps.length->(∀ (j i:Nat) (p:Nat × Nat),is[j]?=some i->ps[j]?=some p->places i=some p) ->
   ∃ r,Instr.fill places ccs (is.zip cvs)=some r/\VRels φ out r.toList/\out.all AV.scalar=true:=by
 induction ps with
 | nil =>
  intro vs cs k hk
  cases vs with
  | nil=>exact⟨cs,fun _=>rfl,hk,fun φ cvs ccs places is hv hc hs hl _=>⟨ccs,by cases is<;>simp_all [Instr.fill],hc,hs⟩⟩
  | cons v vs=>exact Bool.noConfusion (hk:false=true)
 | cons p ps ih =>
  intro vs cs k hk
  cases vs with
  | nil=>exact Bool.noConfusion (hk:false=true)
  | cons v vs =>
   rw [fillK_cons] at hk
   obtain⟨ht,hk1⟩:=cellsK_iff.1 hk
   rw [lenK_eq] at hk1
   obtain⟨hl,hk2⟩:=guardB_iff.1 hk1
   have hl':v.cells.length=p.2:=Nat.eq_of_beq_eq_true hl
   obtain⟨hb,hk3⟩:=(spliceK_iff _ _ _ _).1 hk2
   obtain⟨out,h1,h2,h3⟩:=ih hk3
   refine⟨out,fun k=>?_,h2,fun φ cvs ccs places is hv hc hs hlen hp=>?_⟩
   ·rw [fillK_cons,Bool.eq_iff_iff,cellsK_iff,lenK_eq,guardB_iff,spliceK_iff,h1]
    exact⟨fun h=>h.2.2.2,fun h=>⟨ht,hl,hb,h⟩⟩
   ·obtain⟨c,cvs,rfl,hvc,hvs⟩:=VRels.cons_iff.1 hv
    cases is with
    | nil=>simp at hlen
    | cons i is =>
     have hp0:places i=some p:=hp 0 i p (by simp) (by simp)
     have hcl:=cells_len hvc
     have hcc:=hc.length
     have hfold:=foldl_splice c.cells.toList ccs p.1 0 (by simp at hcc ⊢;omega)
     obtain⟨r,hr1,hr2,hr3⟩:=h3 φ cvs (c.cells.zipIdx.foldl (fun cs (x:Value × Nat)=>cs.setIfInBounds (p.1+x.2) x.1) ccs) places is hvs (by
      have:(c.cells.zipIdx.foldl (fun cs (x:Value × Nat)=>cs.setIfInBounds (p.1+x.2) x.1) ccs).toList=splice p.1 c.cells.toList ccs.toList:=by
       rw [Nat.add_zero] at hfold
       rw [<- hfold,<- Array.foldl_toList]
       simp [Array.toList_zipIdx]
      rw [this]
      exact splice_rel hvc.cells hc) (splice_scalar (AV.cells_scalar hvc ht) hs) (by simpa using hlen) (fun j i' p' e1 e2=>hp (j+1) i' p' (by simpa using e1) (by simpa using e2))
     refine⟨r,?_,hr2,hr3⟩
     simp only [List.zip_cons_cons,Instr.fill,hp0]
     rw [if_neg,hr1]
     simp at hcc ⊢;omega
theorem placesS_at {fs:Array Field}:∀ {ps:List (Nat × Operand)} {pl:List (Nat × Nat)},placesS P fs ps=some pl->pl.length=ps.length/\∀ (j:Nat) (i:Nat) (q:Nat × Nat),(ps.map (·.1))[j]?=some i->pl[j]?=some q->∃ f,fs[i]?=some f/\TI.size P f.type=some q.2/\f.offset=q.1:=by
 intro ps
 induction ps with
 | nil=>intro pl h;simp [placesS] at h;subst h;simp
 | cons x ps ih =>
  intro pl h
  obtain⟨i,x⟩:=x
  unfold placesS at h
  split at h
  ·rename_i f hf
   split at h
   ·rename_i s r hs hr
    simp at h;subst h
    obtain⟨h1,h2⟩:=ih hr
    refine⟨by simp [h1],fun j i' q e1 e2=>?_⟩
    cases j with
    | zero=>simp at e1 e2;subst e1;subst e2;exact⟨f,hf,hs,rfl⟩
    | succ j=>exact h2 j i' q (by simpa using e1) (by simpa using e2)
   ·simp at h
  ·simp at h
theorem placesA_at {s:Nat}:∀ {ps:List (Nat × Operand)},(placesA s ps).length=ps.length/\∀ (j:Nat) (i:Nat) (q:Nat × Nat),(ps.map (·.1))[j]?=some i->(placesA s ps)[j]?=some q->q=(i*s,s):=by
 intro ps
 induction ps with
 | nil=>simp [placesA]
 | cons x ps ih =>
  obtain⟨i,x⟩:=x
  refine⟨by simp [placesA,ih.1],fun j i' q e1 e2=>?_⟩
  cases j with
  | zero=>simp [placesA] at e1 e2;rw [<- e2,<- e1]
  | succ j=>exact ih.2 j i' q (by simpa using e1) (by simpa [placesA] using e2)
theorem zero_rel {φ:Phi} {t:TypeId} {z:AV} (w:World) (hz:TI.zero P t=some z):∃ c,(zeroValue t).run P w=.ok c w/\VRel φ z c:=by
 simp only [TI.zero,Option.bind_eq_some_iff] at hz
 obtain⟨i,hi,c,hc,hz⟩:=hz
 exact⟨c,by simp [zeroValue,typeInfo,hi,hc],ofValue_rel c z hz⟩
theorem ofValue_scalar {c:Value} {v:AV} (h:ofValue c=some v):(∀ vs,v≠.tup vs)->v.cells.all AV.scalar=true:=by
 intro ht
 exact AV.cells_scalar (φ:=fun _=>none) (ofValue_rel c v h) ht
theorem zip_map (ps:Array (Nat × Operand)) (ρ:Operand->Value):(ps.map fun (x:Nat × Operand)=>(x.1,ρ x.2)).toList=(ps.toList.map (·.1)).zip ((ps.toList.map (·.2)).map ρ):=by
 rw [Array.toList_map]
 induction ps.toList with
 | nil=>rfl
 | cons x xs ih=>simp [ih]
def placeOf (P:Program) (f:Field):Nat × Nat:=(f.offset,((P.info? f.type).map (·.size)).getD 0)
theorem places_run (w:World):∀ (l:List Field),(∀ f ∈ l,(P.info? f.type).isSome=true) ->
  (l.mapM (fun f=>do pure (f.offset,<- sizeOf f.type):Field->Sem (Nat × Nat))).run P w=.ok (l.map (placeOf P)) w:=by
 intro l
 induction l with
 | nil=>intro _;simp
 | cons f l ih =>
  intro h
  obtain⟨i',hi⟩:=Option.isSome_iff_exists.1 (h f (by simp))
  have hone:(do pure (f.offset,<- sizeOf f.type):Sem (Nat × Nat)).run P w=.ok (placeOf P f) w:=by simp [sizeOf,typeInfo,hi,placeOf]
  rw [List.mapM_cons,Sem.run_bind,hone,Result.andThen_ok,Sem.run_bind,ih fun g hg=>h g (by simp [hg])]
  simp
theorem buildS_pure {t:TypeId} {ps:Array (Nat × Operand)} {z:AV} {fs:Array Field} {pl:List (Nat × Nat)} (hop:o.op=.build t ps) (hz:TI.zero P t=some z) (ht:P.underlying t=some (.struct fs)) (hp:placesS P fs ps.toList=some pl)
  (hfs:∀ f ∈ fs.toList,(P.info? f.type).isSome=true) (htz:∀ vs,z≠.tup vs) (hx:execV (.build z.cells pl) vs h n K=true):PureTo P o (.build z.cells pl) (ps.toList.map (·.2)) vs:=by
 obtain⟨out,h1,h2,h3⟩:=fillK_val (hx:fillK pl vs z.cells _=true)
 refine⟨.agg out,fun h n K=>h1 _,fun φ ρ w _ hr=>?_⟩
 obtain⟨cz,hcz,hrz⟩:=zero_rel (P:=P) (φ:=φ) w hz
 obtain⟨hl,hat⟩:=placesS_at hp
 obtain⟨r,hr1,hr2,hr3⟩:=h3 φ _ cz.cells (fun i=>(fs.map (placeOf P))[i]?) (ps.toList.map (·.1)) hr hrz.cells (by
   simp only [TI.zero,Option.bind_eq_some_iff] at hz
   obtain⟨i,hi,c,hc,hz⟩:=hz
   exact ofValue_scalar hz htz) (by simp [hl]) (fun j i q e1 e2=>by
    obtain⟨f,hf,hs,ho⟩:=hat j i q e1 e2
    simp [Array.getElem?_map,hf,placeOf,TI.size] at hs ⊢
    obtain⟨i',hi',hs'⟩:=hs
    rw [hi'];simp [ho,hs'])
 refine⟨.agg r,?_,by simp only [VRel];exact⟨r,rfl,hr2,hr3⟩⟩
 have hpl:(fs.mapM (fun f=>do pure (f.offset,<- sizeOf f.type):Field->Sem (Nat × Nat))).run P w=.ok (fs.map (placeOf P)) w:=by
  rw [Array.mapM_eq_mapM_toList,Sem.run_map,places_run w _ hfs,Result.andThen_ok,<- Array.toList_map,Array.toArray_toList]
 rw [<- zip_map] at hr1
 have hund:(underlying t).run P w=.ok (.struct fs) w:=by simp [underlying,ht]
 have hb:(Instr.build t (ps.map fun (x:Nat × Operand)=>(x.1,ρ x.2))).run P w=.ok (.agg r) w:=by
  unfold Instr.build
  rw [Sem.run_bind,hcz,Result.andThen_ok]
  simp only []
  rw [Sem.run_bind,hund,Result.andThen_ok]
  simp only []
  rw [Sem.run_bind,hpl,Result.andThen_ok]
  simp only [hr1]
  rfl
 have:execOp ρ o=(do pure (Next.value (<- Instr.build t (ps.map fun (x:Nat × Operand)=>(x.1,ρ x.2))))):=by simp only [execOp,hop]
 rw [this,Sem.run_bind,hb]
 rfl
theorem buildA_pure {t e:TypeId} {m s:Nat} {ps:Array (Nat × Operand)} {z:AV} (hop:o.op=.build t ps) (hz:TI.zero P t=some z) (ht:P.underlying t=some (.array m e)) (hs:TI.size P e=some s)
  (htz:∀ vs,z≠.tup vs) (hx:execV (.build z.cells (placesA s ps.toList)) vs h n K=true):PureTo P o (.build z.cells (placesA s ps.toList)) (ps.toList.map (·.2)) vs:=by
 obtain⟨out,h1,h2,h3⟩:=fillK_val (hx:fillK (placesA s ps.toList) vs z.cells _=true)
 refine⟨.agg out,fun h n K=>h1 _,fun φ ρ w _ hr=>?_⟩
 obtain⟨cz,hcz,hrz⟩:=zero_rel (P:=P) (φ:=φ) w hz
 obtain⟨hl,hat⟩:=placesA_at (s:=s) (ps:=ps.toList)
 obtain⟨r,hr1,hr2,hr3⟩:=h3 φ _ cz.cells (fun i=>some (i*s,s)) (ps.toList.map (·.1)) hr hrz.cells (by
   simp only [TI.zero,Option.bind_eq_some_iff] at hz
   obtain⟨i,hi,c,hc,hz⟩:=hz
   exact ofValue_scalar hz htz) (by simp [hl]) (fun j i q e1 e2=>by rw [hat j i q e1 e2])
 obtain⟨i',hi,hs'⟩:∃ i',P.info? e=some i'/\i'.size=s:=by simpa [TI.size] using hs
 refine⟨.agg r,?_,by simp only [VRel];exact⟨r,rfl,hr2,hr3⟩⟩
 rw [<- zip_map] at hr1
 simp only [Array.toList_map] at hr1
 simp [execOp,hop,Instr.build,hcz,underlying,ht,sizeOf,typeInfo,hi,hs',hr1]
end
theorem fits_length:∀ {sh:List SK} {xs:List AV},fits sh xs=true->xs.length=sh.length
 | [],[],_=>rfl
 | [],_::_,h=>by simp [fits] at h
 | s::ss,[],h=>by cases s<;>simp [fits] at h
 | s::ss,x::xs,h=>by
  have:fits ss xs=true:=by cases s<;>cases x<;>simp [fits] at h<;>exact h
  simp [fits_length this]
theorem fits_append:∀ {a b:List SK} {xs:List AV},fits (a++b) xs=true->fits a (xs.take a.length)=true/\fits b (xs.drop a.length)=true
 | [],b,xs,h=>by simpa [fits] using h
 | s::ss,b,[],h=>by cases s<;>simp [fits] at h
 | s::ss,b,x::xs,h=>by
  have h1:fits (ss++b) xs=true:=by cases s<;>cases x<;>simp [fits] at h<;>exact h
  have h2:=fits_append h1
  refine⟨?_,by simpa using h2.2⟩
  cases s<;>cases x<;>simp [fits] at h ⊢<;>exact h2.1
theorem flatEq_append:∀ {as bs cs ds:List AV} {z:Bool},as.length=bs.length->flatEq (as++cs) (bs++ds)=some z->∃ z1 z2,flatEq as bs=some z1/\flatEq cs ds=some z2/\z=(z1&&z2)
 | [],[],cs,ds,z,_,h=>⟨true,z,rfl,by simpa using h,by simp⟩
 | [],_::_,_,_,_,h,_=>by simp at h
 | _::_,[],_,_,_,h,_=>by simp at h
 | a::as,b::bs,cs,ds,z,hl,h=>by
  simp only [List.cons_append,flatEq] at h
  cases h1:scalarEq a b with
  | none=>simp [h1] at h
  | some x =>
   cases h2:flatEq (as++cs) (bs++ds) with
   | none=>simp [h1,h2] at h
   | some y =>
    simp [h1,h2] at h
    obtain⟨z1,z2,e1,e2,rfl⟩:=flatEq_append (by simpa using hl) h2
    exact⟨x&&z1,z2,by simp [flatEq,h1,e1],e2,by rw [<- h,Bool.and_assoc]⟩
section
variable {P:Program}
def TyV (P:Program) (t:TypeId) (cells:List Value) (v:Value):Prop:=(TI.isAgg P t=some true/\v=.agg cells.toArray)\/(TI.isAgg P t=some false/\cells=[v])
theorem isAgg_run {t:TypeId} {g:Bool} (w:World) (hg:TI.isAgg P t=some g):(isAgg t).run P w=.ok g w:=by
 simp only [TI.isAgg,Option.map_eq_some_iff] at hg
 obtain⟨d,hd,hg⟩:=hg
 cases d<;>simp at hg<;>subst hg<;>simp [isAgg,underlying,hd]
theorem part_tyv {e:TypeId} {i:TypeInfo} {g:Bool} {l:List Value} {off:Nat} (w:World) (hi:P.info? e=some i) (hg:TI.isAgg P e=some g) (hl:off+i.size<=l.length) (h1:g=false->i.size=1) :
  ∃ v,(part e l.toArray off).run P w=.ok v w/\TyV P e ((l.drop off).take i.size) v:=by
 cases g with
 | true =>
  refine⟨.agg (l.toArray.extract off (off+i.size)),by simp [part,isAgg_run w hg,sizeOf,typeInfo,hi],.inl ⟨hg,?_⟩⟩
  simp [List.extract_eq_take_drop]
 | false =>
  have hs:=h1 rfl
  have hlt:off < l.length:=by omega
  refine⟨l[off],by simp [part,isAgg_run w hg,hlt],.inr ⟨hg,?_⟩⟩
  rw [hs,List.drop_eq_getElem_cons hlt,List.take_succ_cons,List.take_zero]
def EqFlat (P:Program) (t:TypeId) (sh:List SK) (d:Nat):Prop :=
 ∀ (φ:Phi) (xs ys:List AV) (z:Bool) (cx cy:List Value) (vx vy:Value) (w:World),fits sh xs=true->fits sh ys=true->flatEq xs ys=some z->VRels φ xs cx->VRels φ ys cy->TyV P t cx vx->TyV P t cy vy ->
  (Op.equalIn d t vx vy).run P w=.ok z w
theorem flatTy_agg {f:Nat} {t:TypeId} {sh:List SK} (h:flatTy P f t=some sh):∃ g,TI.isAgg P t=some g/\(g=false->sh.length=1):=by
 cases f with
 | zero=>simp [flatTy] at h
 | succ f =>
  unfold flatTy at h
  split at h<;>simp_all [TI.isAgg]
  all_goals (subst h;rfl)
theorem flatEq_split {s1 s2:List SK} {xs ys:List AV} {z:Bool} (hx:fits (s1++s2) xs=true) (hy:fits (s1++s2) ys=true) (h:flatEq xs ys=some z) :
  ∃ z1 z2,flatEq (xs.take s1.length) (ys.take s1.length)=some z1/\flatEq (xs.drop s1.length) (ys.drop s1.length)=some z2/\z=(z1&&z2):=by
 have lx:=fits_length hx
 have ly:=fits_length hy
 refine flatEq_append (by simp;simp at lx ly;omega) ?_
 simpa using h
theorem fits_one {s:SK} {xs:List AV} (h:fits [s] xs=true):∃ x,xs=[x]/\fits [s] [x]=true:=by
 have:=fits_length h
 rcases xs with _ |⟨x,_ |⟨y,r⟩⟩<;>simp at this
 exact⟨x,rfl,h⟩
theorem flatEq_one {a b:AV} {z:Bool} (h:flatEq [a] [b]=some z):scalarEq a b=some z:=by
 simp only [flatEq] at h
 cases h1:scalarEq a b with
 | none=>simp [h1] at h
 | some x=>simp [h1] at h;rw [h]
theorem tyv_scalar {t:TypeId} {cx:List Value} {v:Value} (hg:TI.isAgg P t=some false) (h:TyV P t cx v):cx=[v]:=by
 rcases h with ⟨h,_⟩ |⟨_,h⟩
 ·rw [hg] at h;simp at h
 ·exact h
theorem tyv_agg {t:TypeId} {cx:List Value} {v:Value} (hg:TI.isAgg P t=some true) (h:TyV P t cx v):v=.agg cx.toArray:=by
 rcases h with ⟨_,h⟩ |⟨h,_⟩
 ·exact h
 ·rw [hg] at h;simp at h
theorem eq_items {e:TypeId} {i:TypeInfo} {l:List SK} {d:Nat} (hi:P.info? e=some i) (hs:i.size=l.length) {g:Bool} (hg:TI.isAgg P e=some g) (hg1:g=false->l.length=1) (IH:EqFlat P e l d) :
  ∀ (n j:Nat) (φ:Phi) (xs ys:List AV) (z:Bool) (cx cy:List Value) (w:World),(j+n)*l.length<=cx.length->cx.length=cy.length->fits (List.replicate n l).flatten xs=true->fits (List.replicate n l).flatten ys=true->flatEq xs ys=some z ->
   VRels φ xs ((cx.drop (j*l.length)).take (n*l.length))->VRels φ ys ((cy.drop (j*l.length)).take (n*l.length)) ->
   (Op.eqItems d e (P.cellsOf e) cx.toArray cy.toArray (List.range' j n)).run P w=.ok z w:=by
 have hc:P.cellsOf e=l.length:=by simp [Program.cellsOf,hi,hs]
 intro n
 induction n with
 | zero =>
  intro j φ xs ys z cx cy w h1 h2 fx fy hz rx ry
  have:xs=[]:=by have:=fits_length fx;simpa using this
  subst this
  have:ys=[]:=by have:=fits_length fy;simpa using this
  subst this
  simp [flatEq] at hz
  subst hz
  simp [Op.eqItems]
 | succ n ih =>
  intro j φ xs ys z cx cy w h1 h2 fx fy hz rx ry
  rw [List.replicate_succ,List.flatten_cons] at fx fy
  obtain⟨z1,z2,hz1,hz2,rfl⟩:=flatEq_split fx fy hz
  obtain⟨fx1,fx2⟩:=fits_append fx
  obtain⟨fy1,fy2⟩:=fits_append fy
  have hlen:(j+1)*l.length<=cx.length:=by
   have:(j+1)*l.length<=(j+(n+1))*l.length:=Nat.mul_le_mul_right _ (by omega)
   omega
  have e1:(j+1)*l.length=j*l.length+l.length:=by rw [Nat.add_mul,Nat.one_mul]
  obtain⟨vx,px,tx⟩:=part_tyv (P:=P) (l:=cx) (off:=j*l.length) w hi hg (by omega) (fun h=>by rw [hs];exact hg1 h)
  obtain⟨vy,py,ty⟩:=part_tyv (P:=P) (l:=cy) (off:=j*l.length) w hi hg (by omega) (fun h=>by rw [hs];exact hg1 h)
  rw [hs] at tx ty
  have nl:(n+1)*l.length=l.length+n*l.length:=by rw [Nat.add_mul,Nat.one_mul,Nat.add_comm]
  have rx1:=rx.take l.length
  have ry1:=ry.take l.length
  rw [List.take_take,Nat.min_eq_left (by omega)] at rx1 ry1
  have rx2:=rx.drop l.length
  have ry2:=ry.drop l.length
  rw [List.drop_take,List.drop_drop,nl,Nat.add_sub_cancel_left,<- e1] at rx2 ry2
  have r1:=IH φ _ _ z1 _ _ vx vy w fx1 fy1 hz1 rx1 ry1 tx ty
  have r2:=ih (j+1) φ _ _ z2 cx cy w (by rw [show j+1+n=j+(n+1) by omega];exact h1) h2 fx2 fy2 hz2 rx2 ry2
  rw [List.range'_succ]
  simp only [Op.eqItems,Sem.run_bind,hc,px,py,Result.andThen_ok,r1]
  rw [hc] at r2
  cases z1<;>simp [r2]
mutual
theorem eq_flat:(f:Nat)->(t:TypeId)->(sh:List SK)->flatTy P f t=some sh->∀ d,f<=d->EqFlat P t sh d
 | 0,t,sh,h=>by simp [flatTy] at h
 | f+1,t,sh,h=>by
  intro d hd
  obtain⟨d,rfl⟩:∃ d',d=d'+1:=⟨d - 1,by omega⟩
  obtain⟨g,hg,hg1⟩:=flatTy_agg h
  intro φ xs ys z cx cy vx vy w fx fy hz rx ry tx ty
  unfold flatTy at h
  split at h
  ·rename_i hu
   simp at h;subst h
   have hgf:TI.isAgg P t=some false:=by simp [TI.isAgg,hu]
   obtain⟨x,rfl,fx⟩:=fits_one fx
   obtain⟨y,rfl,fy⟩:=fits_one fy
   have hs:=flatEq_one hz
   have e1:=tyv_scalar hgf tx
   have e2:=tyv_scalar hgf ty
   subst e1;subst e2
   cases x<;>simp [fits] at fx
   cases y<;>simp [fits] at fy
   have r1:=VRels.cons_cons.1 rx
   have r2:=VRels.cons_cons.1 ry
   simp only [VRel] at r1 r2
   rw [r1.1,r2.1]
   simp [scalarEq] at hs
   simp [Op.equalIn,underlying,hu,hs]
  ·rename_i k hu
   simp at h;subst h
   have hgf:TI.isAgg P t=some false:=by simp [TI.isAgg,hu]
   obtain⟨x,rfl,fx⟩:=fits_one fx
   obtain⟨y,rfl,fy⟩:=fits_one fy
   have hs:=flatEq_one hz
   have e1:=tyv_scalar hgf tx
   have e2:=tyv_scalar hgf ty
   subst e1;subst e2
   cases x<;>simp [fits] at fx
   cases y<;>simp [fits] at fy
   have r1:=VRels.cons_cons.1 rx
   have r2:=VRels.cons_cons.1 ry
   simp only [VRel] at r1 r2
   rw [r1.1,r2.1]
   simp only [scalarEq] at hs
   split at hs
   ·rename_i hk
    rw [kindEq_iff] at hk
    subst hk
    simp at hs
    simp [Op.equalIn,underlying,hu,hs]
   ·simp at hs
  ·rename_i hu
   simp at h;subst h
   have hgf:TI.isAgg P t=some false:=by simp [TI.isAgg,hu]
   obtain⟨x,rfl,fx⟩:=fits_one fx
   obtain⟨y,rfl,fy⟩:=fits_one fy
   have hs:=flatEq_one hz
   have e1:=tyv_scalar hgf tx
   have e2:=tyv_scalar hgf ty
   subst e1;subst e2
   cases x<;>simp [fits] at fx
   cases y<;>simp [fits] at fy
   have r1:=VRels.cons_cons.1 rx
   have r2:=VRels.cons_cons.1 ry
   simp only [VRel] at r1 r2
   obtain⟨⟨c1,r1⟩,_⟩:=r1
   obtain⟨⟨c2,r2⟩,_⟩:=r2
   rw [r1,r2,run_equalIn_string w d t _ _ hu,str_toList,str_toList,str_beq c1 c2]
   simp only [scalarEq,Option.some.injEq] at hs
   rw [hs]
  ·rename_i fs hu
   split at h
   ·simp at h
   ·rename_i hst
    have hgt:TI.isAgg P t=some true:=by simp [TI.isAgg,hu]
    rw [tyv_agg hgt tx,tyv_agg hgt ty,run_equalIn_struct w d t _ _ (by rw [hu];simp [Program.fieldsOf,hu]) (by simpa using hst)]
    have hfo:P.fieldsOf t=fs:=by simp [Program.fieldsOf,hu]
    rw [hfo]
    have lx:=rx.length
    have ly:=ry.length
    have fxl:=fits_length fx
    have fyl:=fits_length fy
    exact eq_flats f fs.toList 0 sh h d (by omega) φ xs ys z cx cy w (by omega) (by omega) fx fy hz (by rw [List.drop_zero,List.take_of_length_le (by omega)];exact rx) (by rw [List.drop_zero,List.take_of_length_le (by omega)];exact ry)
  ·rename_i n e hu
   split at h
   ·rename_i l s' hl hs
    split at h
    ·rename_i hsl
     simp at h;subst h
     have hgt:TI.isAgg P t=some true:=by simp [TI.isAgg,hu]
     obtain⟨i,hi,hs'⟩:∃ i,P.info? e=some i/\i.size=s':=by simpa [TI.size] using hs
     obtain⟨g',hg',hg1'⟩:=flatTy_agg hl
     rw [tyv_agg hgt tx,tyv_agg hgt ty,run_equalIn_array w d _ _ hu hi,List.range_eq_range']
     have lx:=rx.length
     have ly:=ry.length
     have fxl:=fits_length fx
     have fyl:=fits_length fy
     have hfl:(List.replicate n l).flatten.length=n*l.length:=by simp
     exact eq_items hi (by omega) hg' hg1' (eq_flat f e l hl d (by omega)) n 0 φ xs ys z cx cy w (by rw [Nat.zero_add];omega) (by omega) fx fy hz
      (by rw [Nat.zero_mul,List.drop_zero,List.take_of_length_le (by omega)];exact rx) (by rw [Nat.zero_mul,List.drop_zero,List.take_of_length_le (by omega)];exact ry)
    ·simp at h
   ·simp at h
  ·simp at h
theorem eq_flats:(f:Nat)->(fs:List Field)->(at_:Nat)->(sh:List SK)->flatFs P f fs at_=some sh->∀ d,f<=d ->
  ∀ (φ:Phi) (xs ys:List AV) (z:Bool) (cx cy:List Value) (w:World),at_+sh.length<=cx.length->cx.length=cy.length->fits sh xs=true->fits sh ys=true->flatEq xs ys=some z->VRels φ xs ((cx.drop at_).take sh.length)->VRels φ ys ((cy.drop at_).take sh.length) ->
   (Op.eqFields d cx.toArray cy.toArray fs).run P w=.ok z w
 | f,[],at_,sh,h=>by
  simp [flatFs] at h;subst h
  intro d _ φ xs ys z cx cy w _ _ fx fy hz _ _
  have:xs=[]:=by have:=fits_length fx;simpa using this
  subst this
  have:ys=[]:=by have:=fits_length fy;simpa using this
  subst this
  simp [flatEq] at hz
  subst hz
  simp [Op.eqFields]
 | 0,x::xs,at_,sh,h=>by simp [flatFs] at h
 | f+1,x::fs,at_,sh,h=>by
  unfold flatFs at h
  split at h
  ·rename_i l s' hl hs
   split at h
   ·rename_i hc
    obtain⟨hc1,hc2,hc3⟩:=hc
    split at h
    ·rename_i r hr
     simp at h;subst h
     intro d hd φ xs ys z cx cy w h1 h2 fx fy hz rx ry
     obtain⟨i,hi,hs'⟩:∃ i,P.info? x.type=some i/\i.size=s':=by simpa [TI.size] using hs
     obtain⟨g',hg',hg1'⟩:=flatTy_agg hl
     obtain⟨z1,z2,hz1,hz2,rfl⟩:=flatEq_split fx fy hz
     obtain⟨fx1,fx2⟩:=fits_append fx
     obtain⟨fy1,fy2⟩:=fits_append fy
     simp only [List.length_append] at h1 rx ry
     obtain⟨vx,px,tx⟩:=part_tyv (P:=P) (l:=cx) (off:=at_) w hi hg' (by omega) (fun h=>by have:=hg1' h;omega)
     obtain⟨vy,py,ty⟩:=part_tyv (P:=P) (l:=cy) (off:=at_) w hi hg' (by omega) (fun h=>by have:=hg1' h;omega)
     have his:i.size=l.length:=by omega
     rw [his] at tx ty
     have rx1:=rx.take l.length
     have ry1:=ry.take l.length
     rw [List.take_take,Nat.min_eq_left (by omega)] at rx1 ry1
     have rx2:=rx.drop l.length
     have ry2:=ry.drop l.length
     rw [List.drop_take,List.drop_drop,Nat.add_sub_cancel_left] at rx2 ry2
     have r1:=eq_flat f x.type l hl d (by omega) φ _ _ z1 _ _ vx vy w fx1 fy1 hz1 rx1 ry1 tx ty
     have r2:=eq_flats f fs (at_+s') r hr d (by omega) φ _ _ z2 cx cy w (by omega) h2 fx2 fy2 hz2 (by rw [hc1];exact rx2) (by rw [hc1];exact ry2)
     simp only [Op.eqFields,hc3,ne_eq,not_false_eq_true,if_true,Sem.run_bind,hc2,px,py,Result.andThen_ok,r1]
     cases z1<;>simp [r2]
    ·simp at h
   ·simp at h
  ·simp at h
end
section
variable (w:World) (d:Nat) {t e:TypeId}
theorem eqn_ptr_nn (hu:P.underlying t=some (.pointer e)):(Op.equalIn (d+1) t (.pointer none) (.pointer none)).run P w=.ok true w:=by simp [Op.equalIn,underlying,hu]
theorem eqn_ptr_ns (hu:P.underlying t=some (.pointer e)) (a:Addr):(Op.equalIn (d+1) t (.pointer none) (.pointer (some a))).run P w=.ok false w:=by simp [Op.equalIn,underlying,hu]
theorem eqn_ptr_sn (hu:P.underlying t=some (.pointer e)) (a:Addr):(Op.equalIn (d+1) t (.pointer (some a)) (.pointer none)).run P w=.ok false w:=by simp [Op.equalIn,underlying,hu]
theorem eqn_ptr_ss (hu:P.underlying t=some (.pointer e)) {i:TypeInfo} (hi:P.info? e=some i) {m:Nat} (hs:i.size=m+1) (b p q:Nat) :
  (Op.equalIn (d+1) t (.pointer (some ⟨b,p,none⟩)) (.pointer (some ⟨b,q,none⟩))).run P w=.ok (Nat.beq p q) w:=by
 simp [Op.equalIn,underlying,hu,sizeOf,typeInfo,hi,hs,sameAddr]
 rw [Bool.eq_iff_iff];simp [Nat.beq_eq]
theorem eqn_sl_nn (hu:P.underlying t=some (.slice e)):(Op.equalIn (d+1) t (.slice none 0 0) (.slice none 0 0)).run P w=.ok true w:=by simp [Op.equalIn,underlying,hu]
theorem eqn_sl_ns (hu:P.underlying t=some (.slice e)) (a:Addr) (l c:Nat):(Op.equalIn (d+1) t (.slice none 0 0) (.slice (some a) l c)).run P w=.ok false w:=by simp [Op.equalIn,underlying,hu]
theorem eqn_sl_sn (hu:P.underlying t=some (.slice e)) (a:Addr) (l c:Nat):(Op.equalIn (d+1) t (.slice (some a) l c) (.slice none 0 0)).run P w=.ok false w:=by simp [Op.equalIn,underlying,hu]
theorem eqn_mp_nn {k:TypeId} (hu:P.underlying t=some (.map k e)):(Op.equalIn (d+1) t (.map none) (.map none)).run P w=.ok true w:=by simp [Op.equalIn,underlying,hu]
theorem eqn_mp_ns {k:TypeId} (hu:P.underlying t=some (.map k e)) (a:Nat):(Op.equalIn (d+1) t (.map none) (.map (some a))).run P w=.ok false w:=by simp [Op.equalIn,underlying,hu]
theorem eqn_mp_sn {k:TypeId} (hu:P.underlying t=some (.map k e)) (a:Nat):(Op.equalIn (d+1) t (.map (some a)) (.map none)).run P w=.ok false w:=by simp [Op.equalIn,underlying,hu]
theorem eqn_fn_nn {a b:Array TypeId} {v:Bool} (hu:P.underlying t=some (.func a b v)):(Op.equalIn (d+1) t .nilFunc .nilFunc).run P w=.ok true w:=by simp [Op.equalIn,underlying,hu]
theorem eqn_fn_ns {a b:Array TypeId} {v:Bool} (hu:P.underlying t=some (.func a b v)) (f:Fn) (x y:Array Value):(Op.equalIn (d+1) t .nilFunc (.func f x y)).run P w=.ok false w:=by simp [Op.equalIn,underlying,hu]
theorem eqn_fn_sn {a b:Array TypeId} {v:Bool} (hu:P.underlying t=some (.func a b v)) (f:Fn) (x y:Array Value):(Op.equalIn (d+1) t (.func f x y) .nilFunc).run P w=.ok false w:=by simp [Op.equalIn,underlying,hu]
theorem eqn_if_nn {ms:Array (String × TypeId)} (hu:P.underlying t=some (.interface ms)):(Op.equalIn (d+1) t .nilIface .nilIface).run P w=.ok true w:=by simp [Op.equalIn,underlying,hu]
theorem eqn_if_ns {ms:Array (String × TypeId)} (hu:P.underlying t=some (.interface ms)) (u:TypeId) (x:Value):(Op.equalIn (d+1) t .nilIface (.iface u x)).run P w=.ok false w:=by simp [Op.equalIn,underlying,hu]
theorem eqn_if_sn {ms:Array (String × TypeId)} (hu:P.underlying t=some (.interface ms)) (u:TypeId) (x:Value):(Op.equalIn (d+1) t (.iface u x) .nilIface).run P w=.ok false w:=by simp [Op.equalIn,underlying,hu]
theorem eqn_if_ne {ms:Array (String × TypeId)} (hu:P.underlying t=some (.interface ms)) {u v:TypeId} (hne:u≠v) (x y:Value):(Op.equalIn (d+1) t (.iface u x) (.iface v y)).run P w=.ok false w:=by simp [Op.equalIn,underlying,hu,hne]
theorem eqn_if_int {ms:Array (String × TypeId)} (hu:P.underlying t=some (.interface ms)) {u:TypeId} (hc:cmpI P u=true) (k:IntKind) (x y:Int):(Op.equalIn (d+1+1) t (.iface u (.int k x)) (.iface u (.int k y))).run P w=.ok (x == y) w:=by
 unfold cmpI at hc
 split at hc
 ·rename_i k' i h1 h2
  have e1:(Op.equalIn (d+1) u (.int k x) (.int k y)).run P w=.ok (x == y) w:=by simp [Op.equalIn,underlying,h1]
  rw [show Op.equalIn (d+1+1) t (.iface u (.int k x)) (.iface u (.int k y))=(underlying t >>= _) from rfl]
  simp [underlying,hu,typeInfo,h2,hc,e1]
 ·simp at hc
theorem eqGuard_nil {op:BinOp} {x y:Operand} (h:isConstX x=true\/isConstX y=true):(eqGuard op t x y .nilIface .nilIface).run P w=.ok () w:=by
 rcases h with h|h
 ·cases x<;>simp [isConstX] at h
  cases op<;>simp [eqGuard]
 ·cases y<;>simp [isConstX] at h
  cases op<;>cases x<;>simp [eqGuard]
end
set_option maxHeartbeats 2000000 in
theorem eql_run {φ:Phi} {t:TypeId} {x y:Operand} {ρ:Operand->Value} {a b:AV} {z:Bool} (w:World) (he:eqlB (ekOf P t x y) a b=some z) (ra:VRel φ a (ρ x)) (rb:VRel φ b (ρ y)) (op:BinOp) :
  (eqGuard op t x y (ρ x) (ρ y)).run P w=.ok () w/\(binOp .eql t (ρ x) (ρ y)).run P w=.ok (.bool z) w/\(binOp .neq t (ρ x) (ρ y)).run P w=.ok (.bool !z) w:=by
 have fin:∀ {c d:Value},ρ x=c->ρ y=d->(eqGuard op t x y c d).run P w=.ok () w->(binOp .eql t c d=(do pure (.bool (<- Op.equal t c d))))->(binOp .neq t c d=(do pure (.bool (!(<- Op.equal t c d)))))->(Op.equalIn (9999+1) t c d).run P w=.ok z w ->
   (eqGuard op t x y (ρ x) (ρ y)).run P w=.ok () w/\(binOp .eql t (ρ x) (ρ y)).run P w=.ok (.bool z) w/\(binOp .neq t (ρ x) (ρ y)).run P w=.ok (.bool !z) w:=by
  intro c d e1 e2 hg h1 h2 h3
  have h3':(Op.equal t c d).run P w=.ok z w:=h3
  rw [e1,e2,h1,h2]
  exact⟨hg,by simp [h3'],by simp [h3']⟩
 unfold ekOf at he
 split at he
 ·rename_i k hu
  cases a<;>cases b<;>simp [eqlB] at he
  ·rename_i k1 a1 k2 a2
   obtain⟨hk,rfl⟩:=he
   rw [kindEq_iff] at hk;subst hk
   simp only [VRel] at ra rb
   rw [ra,rb]
   refine⟨by cases op<;>simp [eqGuard],?_,?_⟩
   ·simp [binOp,Op.intCmp]
   ·simp [binOp,Op.intCmp,bne]
  ·simp only [VRel] at ra rb
   obtain⟨c1,ra⟩:=ra
   obtain⟨c2,rb⟩:=rb
   rw [ra,rb,<- he]
   have hb:=str_beq c1 c2
   refine⟨by cases op<;>simp [eqGuard],?_,?_⟩
   ·simp only [binOp,Op.stringOp,str_toList,hb,Sem.run_pure]
   ·simp only [binOp,Op.stringOp,str_toList,hb,Sem.run_pure]
 ·rename_i hu
  cases a<;>cases b<;>simp [eqlB] at he
  ·rename_i k1 a1 k2 a2
   obtain⟨hk,rfl⟩:=he
   rw [kindEq_iff] at hk;subst hk
   simp only [VRel] at ra rb
   rw [ra,rb]
   refine⟨by cases op<;>simp [eqGuard],?_,?_⟩
   ·simp [binOp,Op.intCmp]
   ·simp [binOp,Op.intCmp,bne]
  ·simp only [VRel] at ra rb
   obtain⟨c1,ra⟩:=ra
   obtain⟨c2,rb⟩:=rb
   rw [ra,rb,<- he]
   have hb:=str_beq c1 c2
   refine⟨by cases op<;>simp [eqGuard],?_,?_⟩
   ·simp only [binOp,Op.stringOp,str_toList,hb,Sem.run_pure]
   ·simp only [binOp,Op.stringOp,str_toList,hb,Sem.run_pure]
 ·rename_i hu
  cases a<;>cases b<;>simp [eqlB] at he
  simp only [VRel] at ra rb
  exact fin ra rb (by cases op<;>simp [eqGuard]) rfl rfl (by rw [run_equalIn_bool w _ _ _ _ hu,<- he])
 ·rename_i e hu
  split at he
  ·rename_i m hs
   obtain⟨i,hi,hs'⟩:∃ i,P.info? e=some i/\i.size=m+1:=by simpa [TI.size] using hs
   cases a<;>cases b<;>simp [eqlB] at he
   ·rename_i a1 o1 b1 o2
    obtain⟨hab,rfl⟩:=he
    simp only [VRel] at ra rb
    obtain⟨p,hp,ra⟩:=ra
    obtain⟨q,hq,rb⟩:=rb
    subst hab
    rw [hp] at hq;simp at hq;subst hq
    refine fin ra rb (by cases op<;>simp [eqGuard]) rfl rfl ((eqn_ptr_ss w 9999 hu hi hs' _ _ _).trans ?_)
    congr 1
    rw [Bool.eq_iff_iff,Nat.beq_eq,Nat.beq_eq];omega
   ·subst he
    simp only [VRel] at ra rb
    obtain⟨p,hp,ra⟩:=ra
    exact fin ra rb (by cases op<;>simp [eqGuard]) rfl rfl (by first|exact eqn_ptr_nn w 9999 hu|exact eqn_ptr_ns w 9999 hu _|exact eqn_ptr_sn w 9999 hu _)
   ·subst he
    simp only [VRel] at ra rb
    obtain⟨p,hp,rb⟩:=rb
    exact fin ra rb (by cases op<;>simp [eqGuard]) rfl rfl (by first|exact eqn_ptr_nn w 9999 hu|exact eqn_ptr_ns w 9999 hu _|exact eqn_ptr_sn w 9999 hu _)
   ·subst he
    simp only [VRel] at ra rb
    exact fin ra rb (by cases op<;>simp [eqGuard]) rfl rfl (by first|exact eqn_ptr_nn w 9999 hu|exact eqn_ptr_ns w 9999 hu _|exact eqn_ptr_sn w 9999 hu _)
  ·cases a<;>cases b<;>simp [eqlB] at he
 ·rename_i e hu
  cases a<;>cases b<;>simp [eqlB] at he<;>subst he<;>simp only [VRel] at ra rb
  ·obtain⟨p,hp,ra,_⟩:=ra
   exact fin ra rb (by cases op<;>simp [eqGuard]) rfl rfl (by first|exact eqn_sl_nn w 9999 hu|exact eqn_sl_ns w 9999 hu _ _ _|exact eqn_sl_sn w 9999 hu _ _ _)
  ·obtain⟨x,l,c,ra⟩:∃ x l c,_=Value.slice (some x) l c:=by rcases ra with ⟨p,c,hp,ra,_⟩ |⟨_,_,_,_,ra⟩<;>exact⟨_,_,_,ra⟩
   exact fin ra rb (by cases op<;>simp [eqGuard]) rfl rfl (by first|exact eqn_sl_nn w 9999 hu|exact eqn_sl_ns w 9999 hu _ _ _|exact eqn_sl_sn w 9999 hu _ _ _)
  ·obtain⟨p,hp,rb,_⟩:=rb
   exact fin ra rb (by cases op<;>simp [eqGuard]) rfl rfl (by first|exact eqn_sl_nn w 9999 hu|exact eqn_sl_ns w 9999 hu _ _ _|exact eqn_sl_sn w 9999 hu _ _ _)
  ·obtain⟨x,l,c,rb⟩:∃ x l c,_=Value.slice (some x) l c:=by rcases rb with ⟨p,c,hp,rb,_⟩ |⟨_,_,_,_,rb⟩<;>exact⟨_,_,_,rb⟩
   exact fin ra rb (by cases op<;>simp [eqGuard]) rfl rfl (by first|exact eqn_sl_nn w 9999 hu|exact eqn_sl_ns w 9999 hu _ _ _|exact eqn_sl_sn w 9999 hu _ _ _)
  ·exact fin ra rb (by cases op<;>simp [eqGuard]) rfl rfl (by first|exact eqn_sl_nn w 9999 hu|exact eqn_sl_ns w 9999 hu _ _ _|exact eqn_sl_sn w 9999 hu _ _ _)
 ·rename_i k e hu
  cases a<;>cases b<;>simp [eqlB] at he<;>subst he<;>simp only [VRel] at ra rb
  ·obtain⟨p,hp,ra⟩:=ra
   exact fin ra rb (by cases op<;>simp [eqGuard]) rfl rfl (by first|exact eqn_mp_nn w 9999 hu|exact eqn_mp_ns w 9999 hu _|exact eqn_mp_sn w 9999 hu _)
  ·obtain⟨p,hp,rb⟩:=rb
   exact fin ra rb (by cases op<;>simp [eqGuard]) rfl rfl (by first|exact eqn_mp_nn w 9999 hu|exact eqn_mp_ns w 9999 hu _|exact eqn_mp_sn w 9999 hu _)
  ·exact fin ra rb (by cases op<;>simp [eqGuard]) rfl rfl (by first|exact eqn_mp_nn w 9999 hu|exact eqn_mp_ns w 9999 hu _|exact eqn_mp_sn w 9999 hu _)
 ·rename_i hu
  cases a<;>cases b<;>simp [eqlB] at he<;>subst he<;>simp only [VRel] at ra rb
  ·obtain⟨p,q,ra,_⟩:=ra
   exact fin ra rb (by cases op<;>simp [eqGuard]) rfl rfl (by first|exact eqn_fn_nn w 9999 hu|exact eqn_fn_ns w 9999 hu _ _ _|exact eqn_fn_sn w 9999 hu _ _ _)
  ·obtain⟨p,q,rb,_⟩:=rb
   exact fin ra rb (by cases op<;>simp [eqGuard]) rfl rfl (by first|exact eqn_fn_nn w 9999 hu|exact eqn_fn_ns w 9999 hu _ _ _|exact eqn_fn_sn w 9999 hu _ _ _)
  ·exact fin ra rb (by cases op<;>simp [eqGuard]) rfl rfl (by first|exact eqn_fn_nn w 9999 hu|exact eqn_fn_ns w 9999 hu _ _ _|exact eqn_fn_sn w 9999 hu _ _ _)
 ·rename_i ms hu
  cases a<;>cases b<;>simp [eqlB] at he
  ·rename_i t1 x1 t2 y1
   simp only [VRel] at ra rb
   obtain⟨cx,ra,r1⟩:=ra
   obtain⟨cy,rb,r2⟩:=rb
   by_cases htu:t1=t2
   ·subst htu
    rw [if_pos rfl] at he
    by_cases hcm:cmpI P t1=true
    ·rw [if_pos hcm] at he
     cases x1<;>cases y1<;>simp [intEq] at he
     obtain⟨hk,rfl⟩:=he
     rw [kindEq_iff] at hk;subst hk
     simp only [VRel] at r1 r2
     subst r1 r2
     exact fin ra rb (by cases op<;>simp [eqGuard]) rfl rfl (eqn_if_int w 9998 hu hcm _ _ _)
    ·rw [if_neg hcm] at he;simp at he
   ·rw [if_neg htu] at he
    simp only [Option.some.injEq] at he
    subst he
    exact fin ra rb (by cases op<;>simp [eqGuard]) rfl rfl (eqn_if_ne w 9999 hu htu _ _)
  ·subst he
   simp only [VRel] at ra rb
   obtain⟨y',ra,_⟩:=ra
   exact fin ra rb (by cases op<;>simp [eqGuard]) rfl rfl (by first|exact eqn_if_nn w 9999 hu|exact eqn_if_ns w 9999 hu _ _|exact eqn_if_sn w 9999 hu _ _)
  ·subst he
   simp only [VRel] at ra rb
   obtain⟨y',rb,_⟩:=rb
   exact fin ra rb (by cases op<;>simp [eqGuard]) rfl rfl (by first|exact eqn_if_nn w 9999 hu|exact eqn_if_ns w 9999 hu _ _|exact eqn_if_sn w 9999 hu _ _)
  ·obtain⟨hc,rfl⟩:=he
   simp only [VRel] at ra rb
   exact fin ra rb (eqGuard_nil w hc) rfl rfl (eqn_if_nn w 9999 hu)
 ·rename_i fs hu
  split at he
  ·cases a<;>cases b<;>simp [eqlB] at he
  ·rename_i hgd
   split at he
   ·rename_i sh hsh
    cases a<;>cases b<;>simp [eqlB] at he
    obtain⟨⟨f1,f2⟩,he⟩:=he
    simp only [VRel] at ra rb
    obtain⟨cx,ra,r1,_⟩:=ra
    obtain⟨cy,rb,r2,_⟩:=rb
    have hgt:TI.isAgg P t=some true:=by simp [TI.isAgg,hu]
    exact fin ra rb (run_eqGuard_agg w op t x y cx cy (by simpa using hgd)) rfl rfl (eq_flat 40 t sh hsh (9999+1) (by omega) φ _ _ z cx.toList cy.toList _ _ w f1 f2 he r1 r2 (.inl ⟨hgt,by simp⟩) (.inl ⟨hgt,by simp⟩))
   ·cases a<;>cases b<;>simp [eqlB] at he
 ·rename_i m e hu
  split at he
  ·cases a<;>cases b<;>simp [eqlB] at he
  ·rename_i hgd
   split at he
   ·rename_i sh hsh
    cases a<;>cases b<;>simp [eqlB] at he
    obtain⟨⟨f1,f2⟩,he⟩:=he
    simp only [VRel] at ra rb
    obtain⟨cx,ra,r1,_⟩:=ra
    obtain⟨cy,rb,r2,_⟩:=rb
    have hgt:TI.isAgg P t=some true:=by simp [TI.isAgg,hu]
    exact fin ra rb (run_eqGuard_agg w op t x y cx cy (by simpa using hgd)) rfl rfl (eq_flat 40 t sh hsh (9999+1) (by omega) φ _ _ z cx.toList cy.toList _ _ w f1 f2 he r1 r2 (.inl ⟨hgt,by simp⟩) (.inl ⟨hgt,by simp⟩))
   ·cases a<;>cases b<;>simp [eqlB] at he
 ·cases a<;>cases b<;>simp [eqlB] at he
theorem eql_pure {o:Oper} {vs:List AV} {h:Hp} {n:Nat} {K:KS} {t u:TypeId} {x y:Operand} {ng:Bool} (hop:o.op=.binOp (if ng then .neq else .eql) t x y u) (hx:execV (.eql ng (ekOf P t x y)) vs h n K=true):PureTo P o (.eql ng (ekOf P t x y)) [x,y] vs:=by
 obtain⟨a,b,rfl,hx1⟩:=un2_iff.1 (hx:un2 _ vs=true)
 cases hf:eqlB (ekOf P t x y) a b with
 | none=>rw [hf] at hx1;exact Bool.noConfusion (hx1:false=true)
 | some z =>
  refine⟨.bool (z != ng),fun h n K=>?_,fun φ ρ w _ hr=>?_⟩
  ·show optB (eqlB (ekOf P t x y) a b) (fun z=>forceB (z != ng) fun z=>K.v (.bool z) h n)=_
   rw [hf]
   show forceB z (fun z=>forceB (z != ng) fun z=>K.v (.bool z) h n)=_
   rw [forceB_eq,forceB_eq]
  ·obtain⟨r1,r2⟩:=rel2 hr
   refine⟨.bool (z != ng),?_,by simp [VRel]⟩
   cases ng with
   | false =>
    obtain⟨hg,h1,h2⟩:=eql_run (P:=P) w hf r1 r2 .eql
    refine binop_run hop hg ?_
    simpa using h1
   | true =>
    obtain⟨hg,h1,h2⟩:=eql_run (P:=P) w hf r1 r2 .neq
    refine binop_run hop hg ?_
    simpa using h2
end
theorem noTup_ne {z:AV} (h:z.noTup=true):∀ vs,z≠.tup vs:=fun vs e=>by subst e;simp [AV.noTup] at h
set_option maxHeartbeats 1000000 in
theorem pure_sim {P:Program} {N:FuncId->Option Ext} {o:Oper} {oc:OC} {xs:List Operand} {vs:List AV} {h:Hp} {n:Nat} {K:KS}
  (hc:compOp P N o=some (oc,xs)) (hq:quiet oc=.pure) (hx:execV oc vs h n K=true):PureTo P o oc xs vs:=by
 have his:=compOp_is hc
 generalize hop:o.op=op at his
 cases his<;>simp [quiet] at hq
 case move=>exact mov_pure hx fun ρ w _=>by simp [execOp,hop]
 case assign=>exact mov_pure hx fun ρ w _=>by simp [execOp,hop]
 case pick=>exact pick_pure hop hx
 case buildS hz ht hp hn =>
  simp only [Bool.and_eq_true,List.all_eq_true] at hn
  exact buildS_pure hop hz ht hp hn.1 (noTup_ne hn.2) hx
 case buildA hz ht hs hn=>exact buildA_pure hop hz ht hs (noTup_ne hn) hx
 case nilCheck=>exact nilchk_pure hop hx
 case shift ho=>exact shift_pure hop ho hx
 case eql=>exact eql_pure (ng:=false) hop hx
 case neq=>exact eql_pure (ng:=true) hop hx
 case icmp ho=>exact icmp_pure hop ho hx
 case add=>exact add_pure hop hx
 case sub=>exact sub_pure hop hx
 case mul=>exact mul_pure hop hx
 case quo=>exact quo_pure hop hx
 case rem=>exact rem_pure hop hx
 case bits ho=>exact bits_pure hop ho hx
 case concat=>exact concat_pure hop hx
 case scmp ho=>exact scmp_pure hop ho hx
 case not=>exact not_pure hop hx
 case neg=>exact neg_pure hop hx
 case inv=>exact inv_pure hop hx
 case convInt hs ht=>exact convInt_pure hop hs ht hx
 case convSS s t x hs ht =>
  obtain⟨x0,vs,rfl,hx1⟩:=consK_iff.1 (hx:List.casesOn (motive:=fun _=>Bool) vs false _=true)
  obtain⟨l,c,rfl,hx2⟩:=ifStr_iff.1 hx1
  obtain⟨a,b,m,hb,hx3,hk⟩:=bounds3_val hx2
  have hvs:vs=[]/\a=0/\b=l:=by
   obtain⟨_,_,_,rfl,h1,h2,h3⟩:=hb
   rcases h1 with ⟨_,rfl,rfl⟩ |⟨h',_⟩
   ·rcases h2 with ⟨_,rfl,rfl⟩ |⟨h',_⟩
    ·rcases h3 with ⟨_,rfl,rfl⟩ |⟨h',_⟩
     ·simp
     ·simp at h'
    ·simp at h'
   ·simp at h'
  obtain⟨rfl,rfl,rfl⟩:=hvs
  refine⟨.str (b - 0) (strSub c 0 b),fun h n K=>?_,fun φ ρ w _ hr=>?_⟩
  ·show bounds3 false false false [] b b (fun a b _=>force (Nat.sub b a) fun l'=>force (strSub c a b) fun c'=>K.v (.str l' c') h n)=_
   rw [hk,force_eq,force_eq];rfl
  ·have r:=rel1 hr
   simp only [VRel] at r
   obtain⟨hc',r⟩:=r
   refine⟨ρ x,?_,?_⟩
   ·cases hd:P.underlying s with
    | none=>rw [hd] at hs;simp at hs
    | some d=>rw [hd] at hs;simp at hs;subst hs;simp [execOp,hop,convert,underlying,hd,ht,r]
   ·simp only [VRel,Nat.sub_zero]
    refine⟨by have:=strSub_lt c 0 b;simpa using this,?_⟩
    rw [r]
    have e:strSub c 0 b=c:=by rw [strSub_eq];simpa using Nat.mod_eq_of_lt hc'
    rw [e]
 case mkIfc ht hd=>exact mkIfc_pure hop ht hd hx
 case mkFn=>exact mkFn_pure hop hx
 case sliceStr ht=>exact sliceStr_pure hop ht hx
 case sliceArr ht hs hm=>exact sliceArr_pure hop (.inl ht) hs hm hx
 case slicePArr ht ha hs hm=>exact sliceArr_pure hop (.inr ⟨_,ht,ha⟩) hs hm hx
 case fieldA ht hf hs h0=>exact fieldA_pure hop ht hf hs h0 hx
 case field ht hf hs hg=>exact field_pure hop ht hf hs hg hx
 case idxArrA ht hs=>exact idxArrA_pure hop ht hs hx
 case idxSlA ht hs=>exact idxSlA_pure hop ht hs hx
 case idxArr ht hs hg=>exact idxArr_pure hop ht hs hg hx
 case idxStr ht=>exact idxStr_pure hop ht hx
 case extract=>exact extract_pure hop hx
 case assert ht hd hz=>exact assert_pure hop ht hd hz hx
 case lenArr c x t n' e hc' ha hat ht =>
  have ha':c.args=#[x]:=by rw [<- Array.toArray_toList (xs:=c.args),ha]
  have hat':c.argTypes=#[t]:=by rw [<- Array.toArray_toList (xs:=c.argTypes),hat]
  exact mov_pure hx fun ρ w hρ=>by
   rw [hρ]
   simp [execOp,hop,resolve,hc',ha',hat',invoke,builtin,Builtin.len_,underlying,ht,goInt]
 case cap hc' ha hat ht=>exact cap_pure hop hc' ha hat ht hx
 case min c x y hc' ha=>exact minmax_pure hop ha (fun _ _ _=>rfl) (.inl ⟨hc',rfl⟩) hx
 case max c x y hc' ha=>exact minmax_pure hop ha (fun _ _ _=>rfl) (.inr ⟨hc',rfl⟩) hx
 case lenStr hc' ha hat ht=>exact lenStr_pure hop hc' ha hat ht str_size hx
 case lenSl hc' ha hat ht=>exact lenSl_pure hop hc' ha hat ht hx
 case usld hc' ha=>exact usld_pure hop hc' ha hx
structure Ctx where
 P:Program
 N:FuncId->Option Ext
 w0:World
def CRel (φ:Phi) (vs:List AV) (off:Nat) (c:Array Value):Prop:=∀ (i:Nat) (v:AV),vs[i]?=some v->v.scalar=true/\∃ x,c[off+i]?=some x/\VRel φ v x
def ERel (φ:Phi):List (AV × AV × Nat)->List MapEntry->Prop
 | [],es=>es=[]
 | x::r,es=>∃ e es',es=e::es'/\VRel φ x.1 e.key/\VRel φ x.2.1 e.val/\e.born=x.2.2/\ERel φ r es'
def RRel (φ:Phi) (t:Tr) (tmps:Array Value):Prop:=∀ (i:Nat) (v:AV),i < 256->reg t i=some v->∃ c,tmps[i]?=some c/\VRel φ v c
def Valid (h:Hp) (a f:Nat):Prop:=∃ lo la,hb h f=some (.fam lo la)/\lo<=a
def IsLast (h:Hp) (a f:Nat):Prop:=∃ lo,hb h f=some (.fam lo a)
structure LoopRel (X:Ctx) (φ:Phi) (st:LoopState) (pend:Option CC) (fn:FuncId) (regs:Tr) (ps:List Path) (asg body:CC) (d:Nat) (L:Loop):Prop where
 state:L.state=st
 pending:(pend=none/\L.pending=none)\/(pend=some .ret/\L.pending=some .ret)\/∃ id,pend=some (.exit id)/\L.pending=some (.exit id)
 same:L.fn=fn
 code:∃ F,X.P.funcs[fn]?=some F/\F.ntmps<=256/\L.tmps.size=F.ntmps/\tpaths F.ntmps L.params.toList=some ps/\asg=compC X.P X.N F.ntmps L.assign/\body=compC X.P X.N F.ntmps L.body
 rr:RRel φ regs L.tmps
 defers:∃ p,φ d=some p/\L.defers=p.blk
def FrzOk (p:Pl) (z lo hi:Nat):Prop:=(∀ j,p.off+z<=j->j < p.size->¬ (lo<=j/\j < hi))/\(z≠1->lo=hi\/hi<=p.off+z)
def BRel (X:Ctx) (φ:Phi) (h:Hp) (a:Nat) (b:AB) (p:Pl) (o:Obj):Prop :=
 match b with
 | .cell vs e ro=>∃ c fr,o=.cells c e fr/\c.size=p.size/\p.off=0/\vs.length=p.size/\CRel φ vs 0 c/\(ro=false->fr=(0,0)/\X.w0.heap.size<=p.blk)
 | .row vs e f z=>∃ c lo hi,o=.cells c e (lo,hi)/\c.size=p.size/\p.off+vs.length<=p.size/\(Valid h a f->CRel φ vs p.off c)/\(IsLast h a f->FrzOk p z lo hi)/\X.w0.heap.size<=p.blk
 | .map es clock=>∃ ces,o=.map ces clock/\ERel φ es ces.toList/\X.w0.heap.size<=p.blk
 | .miter m since seen last=>∃ m',o=.mapIter m' since seen.toArray last/\(X.w0.heap.size<=p.blk/\p.off=0)/\((m=none/\m'=none)\/∃ x q,m=some x/\φ x=some q/\m'=some q.blk)
 | .loop st pend fn regs ps asg body d=>∃ L,o=.loop L/\X.w0.heap.size<=p.blk/\LoopRel X φ st pend fn regs ps asg body d L
 | .dfr b=>o=.deferred (if b then some [] else none)/\X.w0.heap.size<=p.blk
 | .fam ..=>False
 | .inp vs=>∃ c e fr,o=.cells c e fr/\c.size=p.size/\p.off+vs.length<=p.size/\CRel φ vs p.off c
structure W (X:Ctx) (φ:Phi) (h:Hp) (n:Nat) (w:World):Prop where
 dom:∀ a p,φ a=some p->a < n/\∃ b o,hb h a=some b/\w.heap[p.blk]?=some o/\BRel X φ h a b p o
 sep:∀ a a' p p',φ a=some p->φ a'=some p'->a≠a'->p.blk=p'.blk ->
  (∃ vs e f z vs' e' z',hb h a=some (.row vs e f z)/\hb h a'=some (.row vs' e' f z')/\(a < a'->p.off+vs.length<=p'.off+vs'.length))\/p.blk < X.w0.heap.size
 fam:∀ a p vs e f z,φ a=some p->hb h a=some (.row vs e f z)->∃ lo la,hb h f=some (.fam lo la)/\a<=la/\f < n
 future:∀ a,n<=a->True->hb h a=none
 old:∀ b,b < X.w0.heap.size->w.heap[b]?=X.w0.heap[b]?
 size:X.w0.heap.size<=w.heap.size
 top:True
 os:w.os=X.w0.os
 output:w.output=X.w0.output
 tape:w.tape=X.w0.tape
 glob:∀ g,X.N (1000000+g)≠none->∃ sz,φ g=some ⟨g,0,sz⟩
theorem glob_mono {N:FuncId->Option Ext} {φ φ':Phi} (hg:∀ g,N (1000000+g)≠none->∃ sz,φ g=some ⟨g,0,sz⟩) (hle:φ.le φ'):∀ g,N (1000000+g)≠none->∃ sz,φ' g=some ⟨g,0,sz⟩ :=
 fun g h=>let ⟨sz,e⟩:=hg g h;⟨sz,hle _ _ e⟩
structure Grow (φ:Phi) (h:Hp) (n:Nat) (φ':Phi) (h':Hp) (n':Nat):Prop where
 le:n<=n'
 phi:φ.le φ'
 keeps:∀ a,a < n->φ a=none->(∀ lo la,hb h a≠some (.fam lo la))->φ' a=none/\hb h' a=hb h a
theorem Grow.refl (φ:Phi) (h:Hp) (n:Nat):Grow φ h n φ h n:=⟨Nat.le_refl _,Phi.le_refl _,fun _ _ hn _=>⟨hn,rfl⟩⟩
theorem Grow.trans {φ φ' φ'':Phi} {h h' h'':Hp} {n n' n'':Nat} (g:Grow φ h n φ' h' n') (g':Grow φ' h' n' φ'' h'' n''):Grow φ h n φ'' h'' n'' :=
 ⟨Nat.le_trans g.le g'.le,Phi.le_trans g.phi g'.phi,fun a ha hn hf=>by
  obtain⟨h1,h2⟩:=g.keeps a ha hn hf
  obtain⟨h3,h4⟩:=g'.keeps a (Nat.lt_of_lt_of_le ha g.le) h1 (fun lo la=>by rw [h2];exact hf lo la)
  exact⟨h3,h4.trans h2⟩⟩
theorem CRel.mono {φ φ':Phi} (h:φ.le φ') {vs:List AV} {off:Nat} {c:Array Value} (r:CRel φ vs off c):CRel φ' vs off c:=fun i v hv=>by
 obtain⟨h1,x,h2,h3⟩:=r i v hv
 exact⟨h1,x,h2,VRel.mono h _ _ h3⟩
theorem RRel.mono {φ φ':Phi} (h:φ.le φ') {t:Tr} {tmps:Array Value} (r:RRel φ t tmps):RRel φ' t tmps:=fun i v hi hv=>by
 obtain⟨x,h2,h3⟩:=r i v hi hv
 exact⟨x,h2,VRel.mono h _ _ h3⟩
theorem ERel.mono {φ φ':Phi} (h:φ.le φ'):∀ {es:List (AV × AV × Nat)} {ces:List MapEntry},ERel φ es ces->ERel φ' es ces
 | [],_,r=>r
 | x::es,ces,r=>by
  obtain⟨e,es',rfl,h1,h2,h3,h4⟩:=r
  exact⟨e,es',rfl,VRel.mono h _ _ h1,VRel.mono h _ _ h2,h3,ERel.mono h h4⟩
theorem LoopRel.mono {X:Ctx} {φ φ':Phi} (h:φ.le φ') {st pend fn regs ps asg body d L} (r:LoopRel X φ st pend fn regs ps asg body d L):LoopRel X φ' st pend fn regs ps asg body d L :=
 ⟨r.state,r.pending,r.same,r.code,r.rr.mono h,by obtain⟨p,hp,e⟩:=r.defers;exact⟨p,h _ _ hp,e⟩⟩
theorem BRel.mono {X:Ctx} {φ φ':Phi} {h h':Hp} {a:Nat} {b:AB} {p:Pl} {o:Obj} (hφ:φ.le φ') (hv:∀ vs e f z,b=.row vs e f z->(Valid h' a f->Valid h a f)/\(IsLast h' a f->IsLast h a f)) (r:BRel X φ h a b p o):BRel X φ' h' a b p o:=by
 cases b with
 | cell vs e ro=>obtain⟨c,fr,h1,h2,h3,h4,h5,h6⟩:=r;exact⟨c,fr,h1,h2,h3,h4,h5.mono hφ,h6⟩
 | row vs e f z=>obtain⟨c,lo,hi,h1,h2,h3,h4,h5,h6⟩:=r;exact⟨c,lo,hi,h1,h2,h3,fun v=>(h4 ((hv _ _ _ _ rfl).1 v)).mono hφ,fun l=>h5 ((hv _ _ _ _ rfl).2 l),h6⟩
 | map es clock=>obtain⟨ces,h1,h2,h3⟩:=r;exact⟨ces,h1,h2.mono hφ,h3⟩
 | miter m since seen last =>
  obtain⟨m',h1,h2,h3⟩:=r
  refine⟨m',h1,h2,?_⟩
  rcases h3 with h3 |⟨x,q,e1,e2,e3⟩
  ·exact .inl h3
  ·exact .inr ⟨x,q,e1,hφ _ _ e2,e3⟩
 | loop st pend fn regs ps asg body d=>obtain⟨L,h1,h2,h3⟩:=r;exact⟨L,h1,h2,h3.mono hφ⟩
 | dfr b=>exact r
 | fam lo la=>exact r
 | inp vs=>obtain⟨c,e,fr,h1,h2,h3,h4⟩:=r;exact⟨c,e,fr,h1,h2,h3,h4.mono hφ⟩
section
variable {X:Ctx} {φ:Phi} {h:Hp} {n:Nat} {w:World}
theorem W.draw (hw:W X φ h n w) (m:Nat):W X φ h n { w with drawn:=m }:=⟨hw.dom,hw.sep,hw.fam,hw.future,hw.old,hw.size,hw.top,hw.os,hw.output,hw.tape,hw.glob⟩
theorem W.blk_lt (hw:W X φ h n w) {a:Nat} {p:Pl} (ha:φ a=some p):p.blk < w.heap.size:=by
 obtain⟨_,b,o,_,h2,_⟩:=hw.dom a p ha
 rw [Array.getElem?_eq_some_iff] at h2
 exact h2.1
theorem push_get {α:Type} {xs:Array α} {x:α} {i:Nat} (h:i < xs.size):(xs.push x)[i]?=xs[i]?:=by
 rw [Array.getElem?_push,if_neg (by omega)]
def Phi.put (φ:Phi) (n:Nat) (p:Pl):Phi:=fun a=>if a=n then some p else φ a
theorem Phi.put_self (φ:Phi) (n:Nat) (p:Pl):φ.put n p n=some p:=by simp [Phi.put]
theorem Phi.put_ne (φ:Phi) {n a:Nat} (p:Pl) (h:a≠n):φ.put n p a=φ a:=by simp [Phi.put,h]
theorem W.le_put (hw:W X φ h n w) {m:Nat} (hm:n<=m) (p:Pl):φ.le (φ.put m p):=fun a q e=>by
 have:=(hw.dom a q e).1
 rw [Phi.put_ne _ _ (by omega),e]
theorem W.phi_none (hw:W X φ h n w) {a:Nat} (ha:n<=a):φ a=none:=by
 cases e:φ a with
 | none=>rfl
 | some p=>have:=(hw.dom a p e).1;omega
theorem W.new (hw:W X φ h n w) {b:AB} {o:Obj} {sz:Nat} (hn:True) (hnr:∀ vs e f z,b≠.row vs e f z)
  (hb':BRel X (φ.put n ⟨w.heap.size,0,sz⟩) (hput n b h) n b ⟨w.heap.size,0,sz⟩ o) :
  W X (φ.put n ⟨w.heap.size,0,sz⟩) (hput n b h) (n+1) { w with heap:=w.heap.push o } /\
  Grow φ h n (φ.put n ⟨w.heap.size,0,sz⟩) (hput n b h) (n+1):=by
 have hle:=hw.le_put (Nat.le_refl n) ⟨w.heap.size,0,sz⟩
 have hlt:∀ {a},a < n->hb (hput n b h) a=hb h a:=fun {a} ha=>by
  rw [hb_hput _ _ hn trivial,if_neg (by omega)]
 have hN:hb (hput n b h) n=some b:=by rw [hb_hput _ _ hn hn,if_pos rfl]
 refine⟨⟨?_,?_,?_,?_,?_,?_,hn,hw.os,hw.output,hw.tape,glob_mono hw.glob hle⟩,⟨Nat.le_succ _,hle,?_⟩⟩
 ·intro a p ha
  by_cases e:a=n
  ·subst e
   rw [Phi.put_self] at ha
   simp at ha;subst ha
   exact⟨by omega,b,o,hN,by simp,hb'⟩
  ·rw [Phi.put_ne _ _ e] at ha
   obtain⟨h1,b1,o1,h2,h3,h4⟩:=hw.dom a p ha
   refine⟨by omega,b1,o1,by rw [hlt h1];exact h2,by rw [push_get (hw.blk_lt ha)];exact h3,h4.mono hle ?_⟩
   rintro vs e' f z rfl
   obtain⟨lo',la',hf',_,hfn⟩:=hw.fam a p vs e' f z ha h2
   unfold Valid IsLast
   rw [hlt hfn]
   exact⟨id,id⟩
 ·intro a a' p p' ha ha' hne hblk
  by_cases e:a=n
  ·subst e
   rw [Phi.put_self] at ha
   rw [Phi.put_ne _ _ (Ne.symm hne)] at ha'
   simp at ha;subst ha
   have:=hw.blk_lt ha'
   simp at hblk;omega
  ·rw [Phi.put_ne _ _ e] at ha
   by_cases e':a'=n
   ·subst e'
    rw [Phi.put_self] at ha'
    simp at ha';subst ha'
    have:=hw.blk_lt ha
    simp at hblk;omega
   ·rw [Phi.put_ne _ _ e'] at ha'
    rcases hw.sep a a' p p' ha ha' hne hblk with ⟨vs,e1,f,z,vs',e2,z',h1,h2,h3⟩|h0
    ·exact .inl ⟨vs,e1,f,z,vs',e2,z',by rw [hlt (hw.dom a p ha).1];exact h1,by rw [hlt (hw.dom a' p' ha').1];exact h2,h3⟩
    ·exact .inr h0
 ·intro a p vs e f z ha hr
  by_cases ea:a=n
  ·subst ea
   rw [hN] at hr
   simp at hr
   exact absurd hr (hnr _ _ _ _)
  ·rw [Phi.put_ne _ _ ea] at ha
   rw [hlt (hw.dom a p ha).1] at hr
   obtain⟨lo,la,h1,h2,h3⟩:=hw.fam a p vs e f z ha hr
   exact⟨lo,la,by rw [hlt h3];exact h1,h2,by omega⟩
 ·intro a h1 h2
  rw [hb_hput _ _ hn h2,if_neg (by omega)]
  exact hw.future a (by omega) h2
 ·intro b1 hb1
  have:=hw.size
  rw [push_get (by omega)]
  exact hw.old b1 hb1
 ·have:=hw.size
  simp;omega
 ·intro a ha hn' hf
  exact⟨by rw [Phi.put_ne _ _ (by omega)];exact hn',hlt ha⟩
def ReadableIs (h:Hp) (a:Nat) (vs:List AV):Prop:=(∃ e ro,hb h a=some (.cell vs e ro))\/(∃ e f z,hb h a=some (.row vs e f z)/\Valid h a f)\/hb h a=some (.inp vs)
theorem readable_val {h:Hp} {a:Nat} {k:List AV->Bool} (hr:readable h a k=true):∃ vs,ReadableIs h a vs/\k vs=true/\∀ k,readable h a k=k vs:=by
 obtain⟨b,hb1,hk⟩:=blkK_iff.1 (hr:blkK h a _=true)
 have blk_eq:∀ {a b} (k:AB->Bool),hb h a=some b->blkK h a k=k b:=fun {a b} k e=>by
  rw [Bool.eq_iff_iff,blkK_iff,e];simp
 cases b with
 | cell vs e ro=>exact⟨vs,.inl ⟨e,ro,hb1⟩,hk,fun k=>by unfold readable;rw [blk_eq _ hb1]⟩
 | row vs e f z =>
  obtain⟨g,hg,hk1⟩:=blkK_iff.1 (hk:blkK h f _=true)
  cases g with
  | fam lo la =>
   obtain⟨h1,h2⟩:=guardB_iff.1 (hk1:guardB (Nat.ble lo a) (k vs)=true)
   refine⟨vs,.inr (.inl ⟨e,f,z,hb1,lo,la,hg,Nat.le_of_ble_eq_true h1⟩),h2,fun k=>?_⟩
   unfold readable
   rw [blk_eq _ hb1]
   show blkK h f _=_
   rw [blk_eq _ hg]
   show guardB (Nat.ble lo a) (k vs)=_
   rw [h1];rfl
  | _=>exact Bool.noConfusion (hk1:false=true)
 | inp vs=>exact⟨vs,.inr (.inr hb1),hk,fun k=>by unfold readable;rw [blk_eq _ hb1]⟩
 | _=>exact Bool.noConfusion (hk:false=true)
theorem W.read (hw:W X φ h n w) {a:Nat} {p:Pl} {vs:List AV} (ha:φ a=some p) (hr:ReadableIs h a vs) :
  ∃ c e fr,w.heap[p.blk]?=some (.cells c e fr)/\CRel φ vs p.off c/\c.size=p.size/\p.off+vs.length<=p.size:=by
 obtain⟨_,b,o,h1,h2,h3⟩:=hw.dom a p ha
 rcases hr with ⟨e,ro,hr⟩ |⟨e,f,z,hr,hv⟩|hr
 ·rw [hr] at h1;simp at h1;subst h1
  obtain⟨c,fr,rfl,e1,e2,e3,e4,_⟩:=h3
  exact⟨c,e,fr,h2,by rw [e2];exact e4,e1,by omega⟩
 ·rw [hr] at h1;simp at h1;subst h1
  obtain⟨c,lo,hi,rfl,e1,e2,e3,_⟩:=h3
  exact⟨c,e,(lo,hi),h2,e3 hv,e1,e2⟩
 ·rw [hr] at h1;simp at h1;subst h1
  obtain⟨c,e,fr,rfl,e1,e2,e3⟩:=h3
  exact⟨c,e,fr,h2,e3,e1,e2⟩
theorem cell_at {w:World} {b q:Nat} {c:Array Value} {e:TypeId} {fr:Nat × Nat} (h:w.heap[b]?=some (.cells c e fr)):w.cell? ⟨b,q,none⟩=c[q]?:=by
 simp [World.cell?,h]
theorem load_run {P:Program} {w:World} {b q:Nat} {c:Array Value} {e:TypeId} {fr:Nat × Nat} {x:Value} (h:w.heap[b]?=some (.cells c e fr)) (hx:c[q]?=some x):(load ⟨b,q,none⟩).run P w=.ok x w:=by
 simp [cell_at h,hx]
theorem loadCells_run {P:Program} {w:World} {b q:Nat} {c:Array Value} {e:TypeId} {fr:Nat × Nat} (h:w.heap[b]?=some (.cells c e fr)):∀ (m i:Nat) (acc:Array Value),q+i+m<=c.size ->
  (loadCellsFrom ⟨b,q,none⟩ i m acc).run P w=.ok (acc++((c.toList.drop (q+i)).take m).toArray) w:=by
 intro m
 induction m with
 | zero=>intro i acc _;simp [loadCellsFrom]
 | succ m ih =>
  intro i acc hl
  have hx:c[q+i]?=some c[q+i]:=by simp
  simp only [loadCellsFrom,addr_add,Sem.run_bind,load_run h hx,Result.andThen_ok]
  rw [ih (i+1) _ (by omega)]
  congr 1
  have:(c.toList.drop (q+i))=c[q+i]::c.toList.drop (q+(i+1)):=by
   rw [List.drop_eq_getElem_cons (by simp;omega)];simp;rfl
  rw [this,List.take_succ_cons]
  simp
theorem CRel.vrels {φ:Phi} {vs:List AV} {off:Nat} {c:Array Value} (r:CRel φ vs off c) (q m:Nat) (hl:q+m<=vs.length) :
  VRels φ ((vs.drop q).take m) ((c.toList.drop (off+q)).take m)/\((vs.drop q).take m).all AV.scalar=true:=by
 refine⟨VRels.of_get ?_ ?_,?_⟩
 ·simp only [List.length_take,List.length_drop]
  have:off+vs.length<=c.toList.length\/vs.length=0:=by
   by_cases h0:vs.length=0
   ·exact .inr h0
   ·have:=r (vs.length - 1) vs[vs.length - 1] (by simp)
    obtain⟨_,x,hx,_⟩:=this
    rw [Array.getElem?_eq_some_iff] at hx
    obtain⟨hx,_⟩:=hx
    left;simp;omega
  rcases this with h|h<;>omega
 ·intro i v hv
  rw [List.getElem?_take] at hv
  split at hv
  ·rename_i hi
   rw [List.getElem?_drop] at hv
   obtain⟨_,x,hx,hvx⟩:=r (q+i) v hv
   refine⟨x,?_,hvx⟩
   rw [List.getElem?_take,if_pos hi,List.getElem?_drop]
   rw [show off+q+i=off+(q+i) by omega]
   simpa using hx
  ·simp at hv
 ·rw [List.all_eq_true]
  intro v hv
  have hv':=List.mem_of_mem_drop (List.mem_of_mem_take hv)
  obtain⟨i,hi,e⟩:=List.getElem_of_mem hv'
  exact (r i v (by simp [<- e])).1
theorem loadN_val {h:Hp} {a q m:Nat} {k:List AV->Bool} (hk:loadN h a q m k=true):∃ vs,ReadableIs h a vs/\(m=0\/q+m<=vs.length)/\k ((vs.drop q).take m)=true/\∀ k,loadN h a q m k=k ((vs.drop q).take m):=by
 obtain⟨vs,hr,hk1,heq⟩:=readable_val (hk:readable h a _=true)
 rw [dropK_eq,takeK_iff] at hk1
 refine⟨vs,hr,?_,hk1.2,fun k=>?_⟩
 ·have:=hk1.1
  simp at this
  omega
 ·unfold loadN
  rw [heq,dropK_eq,Bool.eq_iff_iff,takeK_iff]
  simp
  intro _;have:=hk1.1;simpa using this
theorem W.loadN (hw:W X φ h n w) {a q m:Nat} {p:Pl} {vs:List AV} (ha:φ a=some p) (hr:ReadableIs h a vs) (hl:m=0\/q+m<=vs.length) :
  ∃ cs,(loadCells ⟨p.blk,p.off+q,none⟩ m).run X.P w=.ok cs w/\VRels φ ((vs.drop q).take m) cs.toList/\((vs.drop q).take m).all AV.scalar=true:=by
 rcases hl with rfl|hl
 ·exact⟨#[],by simp [loadCells,loadCellsFrom],by simp [VRels],by simp⟩
 obtain⟨c,e,fr,h1,h2,h3,h4⟩:=hw.read ha hr
 obtain⟨r1,r2⟩:=h2.vrels q m hl
 refine⟨((c.toList.drop (p.off+q)).take m).toArray,?_,by simpa using r1,r2⟩
 unfold loadCells
 rw [loadCells_run h1 m 0 #[] (by omega)]
 simp
theorem frozen_at {w:World} {b q:Nat} {c:Array Value} {e:TypeId} {lo hi:Nat} (h:w.heap[b]?=some (.cells c e (lo,hi))):w.frozen? ⟨b,q,none⟩=(decide (lo<=q)&&decide (q < hi)):=by
 simp [World.frozen?,h]
theorem setCell_heap {w:World} {b q:Nat} {v:Value} {c:Array Value} {e:TypeId} {fr:Nat × Nat} (h:w.heap[b]?=some (.cells c e fr)) :
  w.setCell ⟨b,q,none⟩ v={ w with heap:=w.heap.setIfInBounds b (.cells (c.setIfInBounds q v) e fr) }:=by
 unfold World.setCell
 congr 1
 rw [Array.getElem?_eq_some_iff] at h
 obtain⟨hlt,h⟩:=h
 apply Array.ext
 ·simp
 ·intro i h1 h2
  simp only [Array.getElem_modify]
  split
  ·rename_i e'
   subst e'
   simp [h]
  ·rename_i e'
   rw [Array.getElem_setIfInBounds,if_neg e']
def overC (c:Array Value) (q:Nat) (new:List Value):Array Value:=(splice q new c.toList).toArray
theorem storeCells_run {P:Program}:∀ (new:List Value) (w:World) (b q i:Nat) (c:Array Value) (e:TypeId) (lo hi:Nat),w.heap[b]?=some (.cells c e (lo,hi))->q+i+new.length<=c.size->(∀ v ∈ new,v.oneCell'=true) ->
  (∀ j,q+i<=j->j < q+i+new.length->¬ (lo<=j/\j < hi)) ->
  (storeCells ⟨b,q,none⟩ new i).run P w=.ok () { w with heap:=w.heap.setIfInBounds b (.cells (overC c (q+i) new) e (lo,hi)) }:=by
 intro new
 induction new with
 | nil =>
  intro w b q i c e lo hi h hl _ _
  have hb:(w.heap.setIfInBounds b (.cells (overC c (q+i) []) e (lo,hi)))=w.heap:=by
   rw [Array.getElem?_eq_some_iff] at h
   obtain⟨hlt,h⟩:=h
   apply Array.ext
   ·simp
   ·intro j h1 h2
    rw [Array.getElem_setIfInBounds]
    split
    ·rename_i e';subst e';rw [h];simp [overC,splice]
    ·rfl
  simp [storeCells,hb]
 | cons v new ih =>
  intro w b q i c e lo hi h hl h1 hf
  simp only [List.length_cons] at hl hf
  have hx:w.cell? ⟨b,q+i,none⟩=some c[q+i]:=by rw [cell_at h];simp
  have hfz:w.frozen? ⟨b,q+i,none⟩=false:=by
   rw [frozen_at h]
   have:=hf (q+i) (Nat.le_refl _) (by omega)
   simpa using this
  have hst:(store ⟨b,q+i,none⟩ v).run P w=.ok () (w.setCell ⟨b,q+i,none⟩ v):=by
   rw [run_store _ _ _ _ _ (h1 v (by simp)),hx,hfz];rfl
  simp only [storeCells,addr_add,Sem.run_bind,hst,Result.andThen_ok]
  rw [setCell_heap h]
  have hb':({ w with heap:=w.heap.setIfInBounds b (.cells (c.setIfInBounds (q+i) v) e (lo,hi)) }:World).heap[b]?=some (.cells (c.setIfInBounds (q+i) v) e (lo,hi)):=by
   rw [Array.getElem?_eq_some_iff] at h
   obtain⟨hlt,_⟩:=h
   simp [hlt]
  rw [ih _ b q (i+1) _ e lo hi hb' (by simp;omega) (fun x hx=>h1 x (by simp [hx])) (fun j ha hb=>hf j (by omega) (by omega))]
  congr 2
  have hov:overC (c.setIfInBounds (q+i) v) (q+(i+1)) new=overC c (q+i) (v::new):=by
   unfold overC
   congr 1
   apply List.ext_getElem?
   intro k
   rw [splice_get (by simp;omega),splice_get (by simp;omega)]
   simp only [List.length_cons,Array.toList_setIfInBounds,List.getElem?_set]
   by_cases k1:k=q+i
   ·subst k1
    rw [if_neg (by omega),if_pos (by omega)]
    simp;omega
   ·by_cases k2:q+(i+1)<=k/\k < q+(i+1)+new.length
    ·rw [if_pos k2,if_pos (by omega),show k - (q+i)=(k - (q+(i+1)))+1 by omega];simp
    ·rw [if_neg k2,if_neg (by omega),if_neg (by omega)]
  rw [hov]
  simp
theorem set_get_ne {w:World} {b b':Nat} {o:Obj} (h:b'≠b):(w.heap.setIfInBounds b o)[b']?=w.heap[b']?:=by
 rw [Array.getElem?_setIfInBounds,if_neg (fun e=>h e.symm)]
theorem set_get_self {w:World} {b:Nat} {o o':Obj} (h:w.heap[b]?=some o'):(w.heap.setIfInBounds b o)[b]?=some o:=by
 rw [Array.getElem?_eq_some_iff] at h
 obtain⟨hlt,_⟩:=h
 simp [hlt]
theorem W.turn (hw:W X φ h n w) {a:Nat} {p:Pl} {b b':AB} {o':Obj} (ha:φ a=some p) (hb0:hb h a=some b) (hr:∀ vs e f z,b≠.row vs e f z) (hr':∀ vs e f z,b'≠.row vs e f z)
  (hH:X.w0.heap.size<=p.blk) (hnew:BRel X φ (hput a b' h) a b' p o') :
  W X φ (hput a b' h) n { w with heap:=w.heap.setIfInBounds p.blk o' }/\Grow φ h n φ (hput a b' h) n:=by
 have hat:True:=trivial
 have hne:∀ {x},True->x≠a->hb (hput a b' h) x=hb h x:=fun hx hxa=>by rw [hb_hput _ _ hat hx,if_neg hxa]
 have hself:hb (hput a b' h) a=some b':=by rw [hb_hput _ _ hat hat,if_pos rfl]
 have hlt:∀ {x q},φ x=some q->True:=fun _=>trivial
 have hsepa:∀ {x q},φ x=some q->x≠a->q.blk≠p.blk:=fun hx hxa e=>by
  rcases hw.sep _ a _ p hx ha hxa e with ⟨vs,e1,f,z,vs',e2,z',h1,h2,_⟩|h0
  ·rw [hb0] at h2;simp at h2
   exact hr _ _ _ _ h2
  ·omega
 refine⟨⟨?_,?_,?_,?_,?_,?_,hw.top,hw.os,hw.output,hw.tape,hw.glob⟩,⟨Nat.le_refl _,Phi.le_refl _,?_⟩⟩
 ·intro x q hx
  obtain⟨h1,b1,o1,h2,h3,h4⟩:=hw.dom x q hx
  by_cases e:x=a
  ·subst e
   rw [ha] at hx;simp at hx;subst hx
   exact⟨h1,b',o',hself,set_get_self h3,hnew⟩
  ·refine⟨h1,b1,o1,by rw [hne (hlt hx) e];exact h2,by rw [set_get_ne (hsepa hx e)];exact h3,h4.mono (Phi.le_refl _) ?_⟩
   rintro vs e' f z rfl
   obtain⟨lo',la',hf',_,hfn⟩:=hw.fam x q vs e' f z hx h2
   have hfa:f≠a:=fun e=>by subst e;rw [hb0] at hf';simp at hf';subst hf';have:=(hw.dom _ _ ha);obtain⟨_,b2,o2,g1,g2,g3⟩:=this;rw [hb0] at g1;simp at g1;subst g1;exact g3
   unfold Valid IsLast
   rw [hne trivial hfa]
   exact⟨id,id⟩
 ·intro x x' q q' hx hx' hxx hblk
  by_cases e:x=a
  ·subst e
   rw [ha] at hx;simp at hx;subst hx
   exact absurd hblk.symm (hsepa hx' (Ne.symm hxx))
  ·by_cases e':x'=a
   ·subst e'
    rw [ha] at hx';simp at hx';subst hx'
    exact absurd hblk (hsepa hx e)
   ·rcases hw.sep x x' q q' hx hx' hxx hblk with ⟨vs,e1,f,z,vs',e2,z',h1,h2,h3⟩|h0
    ·exact .inl ⟨vs,e1,f,z,vs',e2,z',by rw [hne (hlt hx) e];exact h1,by rw [hne (hlt hx') e'];exact h2,h3⟩
    ·exact .inr h0
 ·intro x q vs e f z hx hrow
  by_cases ea:x=a
  ·subst ea;rw [hself] at hrow;simp at hrow;exact absurd hrow (hr' _ _ _ _)
  ·rw [hne (hlt hx) ea] at hrow
   obtain⟨lo,la,h1,h2,h3⟩:=hw.fam x q vs e f z hx hrow
   have hfa:f≠a:=fun e=>by subst e;rw [hb0] at h1;simp at h1;subst h1;obtain⟨_,b2,o2,g1,g2,g3⟩:=hw.dom _ _ ha;rw [hb0] at g1;simp at g1;subst g1;exact g3
   exact⟨lo,la,by rw [hne trivial hfa];exact h1,h2,h3⟩
 ·intro x h1 h2
  have:=(hw.dom a p ha).1
  rw [hne h2 (by omega)]
  exact hw.future x h1 h2
 ·intro b1 hb1
  rw [set_get_ne (by omega)]
  exact hw.old b1 hb1
 ·have:=hw.size;simpa using this
 ·intro x h1 h2 h3
  refine⟨h2,hne trivial (fun e=>?_)⟩
  subst e;rw [ha] at h2;simp at h2
theorem W.fam_none (hw:W X φ h n w) {f lo la:Nat} (hf:hb h f=some (.fam lo la)):φ f=none:=by
 cases e:φ f with
 | none=>rfl
 | some p =>
  obtain⟨_,b,o,h1,h2,h3⟩:=hw.dom f p e
  rw [hf] at h1;simp at h1;subst h1
  exact h3.elim
theorem W.turnRow (hw:W X φ h n w) {a f lo:Nat} {p:Pl} {vs vs':List AV} {e:TypeId} {z z':Nat} {c':Array Value} {l' u':Nat} (ha:φ a=some p) (hr:hb h a=some (.row vs e f z)) (hf:hb h f=some (.fam lo a))
  (hlen:vs'.length=vs.length) (hsz:c'.size=p.size) (hcr:CRel φ vs' p.off c') (hfz:FrzOk p z' l' u') (lo':Nat) (hlo:lo'=a\/(lo'=lo/\lo<=a/\∃ l u,w.heap[p.blk]?=some (.cells c' e (l,u)))) :
  W X φ (hput f (.fam lo' a) (hput a (.row vs' e f z') h)) n { w with heap:=w.heap.setIfInBounds p.blk (.cells c' e (l',u')) }/\Grow φ h n φ (hput f (.fam lo' a) (hput a (.row vs' e f z') h)) n:=by
 have han:=(hw.dom a p ha).1
 obtain⟨lo0,la0,hf0,_,hfn⟩:=hw.fam a p vs e f z ha hr
 have hat:True:=trivial
 have hft:True:=trivial
 have hfp:=hw.fam_none hf
 have haf:a≠f:=fun e=>by rw [e] at ha;rw [hfp] at ha;simp at ha
 have hbx:∀ {x},True->hb (hput f (.fam lo' a) (hput a (.row vs' e f z') h)) x=if x=f then some (.fam lo' a) else if x=a then some (.row vs' e f z') else hb h x:=fun hx=>by
  rw [hb_hput _ _ hft hx,hb_hput _ _ hat hx]
 have hlt:∀ {x q},φ x=some q->True/\x≠f:=fun hx=>by
  refine⟨trivial,fun e=>?_⟩
  rw [e,hfp] at hx;simp at hx
 have hH:X.w0.heap.size<=p.blk:=by
  obtain⟨_,b,o,h1,h2,h3⟩:=hw.dom a p ha
  rw [hr] at h1;simp at h1;subst h1
  obtain⟨c,lo,hi,_,_,_,_,_,h4⟩:=h3
  exact h4
 refine⟨⟨?_,?_,?_,?_,?_,?_,hw.top,hw.os,hw.output,hw.tape,hw.glob⟩,⟨Nat.le_refl _,Phi.le_refl _,?_⟩⟩
 ·intro x q hx
  obtain⟨h1,b1,o1,h2,h3,h4⟩:=hw.dom x q hx
  obtain⟨hxt,hxf⟩:=hlt hx
  by_cases ex:x=a
  ·subst ex
   rw [ha] at hx;simp at hx;subst hx
   refine⟨h1,.row vs' e f z',.cells c' e (l',u'),by rw [hbx hxt,if_neg hxf,if_pos rfl],set_get_self h3,c',l',u',rfl,hsz,?_,fun _=>hcr,fun _=>hfz,hH⟩
   rw [hr] at h2;simp at h2;subst h2
   obtain⟨c,lo,hi,_,_,h5,_⟩:=h4
   omega
  ·have hbx':hb (hput f (.fam lo' a) (hput a (.row vs' e f z') h)) x=some b1:=by rw [hbx hxt,if_neg hxf,if_neg ex];exact h2
   by_cases eb:q.blk=p.blk
   ·obtain⟨vs1,e1,f1,z1,vs2,e2,z2,g1,g2,g3⟩:=(hw.sep x a q p hx ha ex eb).resolve_right (by omega)
    rw [hr] at g2;simp at g2
    obtain⟨_,_,rfl,_⟩:=g2
    rw [h2] at g1;simp at g1;subst g1
    obtain⟨lo2,la2,hf2,hla,_⟩:=hw.fam x q vs1 e1 f z1 hx h2
    rw [hf] at hf2;simp at hf2
    obtain⟨rfl,rfl⟩:=hf2
    have hxa:x < a:=by omega
    obtain⟨_,bb,oo,k1,k2,k3⟩:=hw.dom a p ha
    rw [hr] at k1;simp at k1;subst k1
    obtain⟨ca,la1,ha1,rfl,ka,kb,kc,kd,ke⟩:=k3
    rw [eb,k2] at h3;simp at h3;subst h3
    obtain⟨c,l0,u0,hce,hcs,hcl,hcv,hcz,hcH⟩:=h4
    simp at hce
    obtain⟨rfl,rfl,rfl,rfl⟩:=hce
    refine⟨h1,_,.cells c' e (l',u'),hbx',by rw [eb];exact set_get_self k2,c',l',u',rfl,by omega,hcl,fun hv=>?_,fun hl=>?_,hcH⟩
    ·obtain⟨l3,u3,hf3,hv3⟩:=hv
     rw [hbx hft,if_pos rfl] at hf3
     simp at hf3
     obtain⟨rfl,rfl⟩:=hf3
     rcases hlo with rfl |⟨rfl,hle,l,u,hc⟩
     ·omega
     ·rw [k2] at hc
      simp at hc
      obtain⟨rfl,_,_⟩:=hc
      exact hcv ⟨_,_,hf,hv3⟩
    ·obtain⟨l3,hf3⟩:=hl
     rw [hbx hft,if_pos rfl] at hf3
     simp at hf3
     omega
   ·refine⟨h1,b1,o1,hbx',by rw [set_get_ne eb];exact h3,h4.mono (Phi.le_refl _) ?_⟩
    rintro vs1 e1 f1 z1 rfl
    obtain⟨lo2,la2,hf2,hla,hfn2⟩:=hw.fam x q vs1 e1 f1 z1 hx h2
    have hf1t:True:=trivial
    by_cases ef:f1=f
    ·subst ef
     rw [hf] at hf2;simp at hf2
     obtain⟨rfl,rfl⟩:=hf2
     have hxa:x < a:=by omega
     refine⟨?_,?_⟩
     ·rintro⟨l3,u3,hf3,hv3⟩
      rw [hbx hft,if_pos rfl] at hf3
      simp at hf3
      obtain⟨rfl,rfl⟩:=hf3
      rcases hlo with rfl |⟨rfl,hle,_⟩
      ·omega
      ·exact⟨_,_,hf,hv3⟩
     ·rintro⟨l3,hf3⟩
      rw [hbx hft,if_pos rfl] at hf3
      simp at hf3
      omega
    ·have hfa1:f1≠a:=fun e=>by rw [e] at hf2;rw [hr] at hf2;simp at hf2
     unfold Valid IsLast
     rw [hbx hf1t,if_neg ef,if_neg hfa1]
     exact⟨id,id⟩
 ·intro x x' q q' hx hx' hxx hblk
  rcases hw.sep x x' q q' hx hx' hxx hblk with ⟨vs1,e1,f1,z1,vs2,e2,z2,g1,g2,g3⟩|h0
  case inr=>exact .inr h0
  refine .inl ?_
  obtain⟨hxt,hxf⟩:=hlt hx
  obtain⟨hxt',hxf'⟩:=hlt hx'
  rw [hbx hxt,if_neg hxf,hbx hxt',if_neg hxf']
  by_cases ex:x=a
  ·subst ex
   rw [hr] at g1;simp at g1
   obtain⟨rfl,rfl,rfl,rfl⟩:=g1
   rw [if_pos rfl,if_neg (Ne.symm hxx)]
   exact⟨_,_,_,_,_,_,_,rfl,g2,by rw [hlen];exact g3⟩
  ·rw [if_neg ex]
   by_cases ex':x'=a
   ·subst ex'
    rw [hr] at g2;simp at g2
    obtain⟨rfl,rfl,rfl,rfl⟩:=g2
    rw [if_pos rfl]
    exact⟨_,_,_,_,_,_,_,g1,rfl,by rw [hlen];exact g3⟩
   ·rw [if_neg ex']
    exact⟨_,_,_,_,_,_,_,g1,g2,g3⟩
 ·intro x q vs1 e1 f1 z1 hx hrow
  obtain⟨hxt,hxf⟩:=hlt hx
  rw [hbx hxt,if_neg hxf] at hrow
  by_cases ex:x=a
  ·subst ex
   rw [if_pos rfl] at hrow
   simp at hrow
   obtain⟨rfl,rfl,rfl,rfl⟩:=hrow
   exact⟨lo',x,by rw [hbx hft,if_pos rfl],Nat.le_refl _,hfn⟩
  ·rw [if_neg ex] at hrow
   obtain⟨lo2,la2,hf2,hla,hfn2⟩:=hw.fam x q vs1 e1 f1 z1 hx hrow
   by_cases ef:f1=f
   ·subst ef
    rw [hf] at hf2;simp at hf2
    obtain⟨rfl,rfl⟩:=hf2
    exact⟨lo',_,by rw [hbx hft,if_pos rfl],hla,hfn⟩
   ·have hfa1:f1≠a:=fun e=>by rw [e] at hf2;rw [hr] at hf2;simp at hf2
    exact⟨lo2,la2,by rw [hbx trivial,if_neg ef,if_neg hfa1];exact hf2,hla,hfn2⟩
 ·intro x h1 h2
  rw [hbx h2,if_neg (by omega),if_neg (by omega)]
  exact hw.future x h1 h2
 ·intro b1 hb1
  rw [set_get_ne (by omega)]
  exact hw.old b1 hb1
 ·have:=hw.size;simpa using this
 ·intro x h1 h2 h3
  have hxf:x≠f:=fun e=>by rw [e] at h3;exact h3 _ _ hf
  have hxa:x≠a:=fun e=>by rw [e,ha] at h2;simp at h2
  exact⟨h2,by rw [hbx trivial,if_neg hxf,if_neg hxa]⟩
theorem W.newFam (hw:W X φ h n w) (hn:True) (lo la:Nat):W X φ (hput n (.fam lo la) h) (n+1) w/\Grow φ h n φ (hput n (.fam lo la) h) (n+1):=by
 have hlt:∀ {a},a < n->hb (hput n (.fam lo la) h) a=hb h a:=fun {a} ha=>by
  rw [hb_hput _ _ hn trivial,if_neg (by omega)]
 refine⟨⟨?_,?_,?_,?_,hw.old,hw.size,hn,hw.os,hw.output,hw.tape,hw.glob⟩,⟨Nat.le_succ _,Phi.le_refl _,fun a ha hp _=>⟨hp,hlt ha⟩⟩⟩
 ·intro a p ha
  obtain⟨h1,b,o,h2,h3,h4⟩:=hw.dom a p ha
  refine⟨by omega,b,o,by rw [hlt h1];exact h2,h3,h4.mono (Phi.le_refl _) ?_⟩
  rintro vs e f z rfl
  obtain⟨lo',la',hf',_,hfn⟩:=hw.fam a p vs e f z ha h2
  unfold Valid IsLast
  rw [hlt hfn]
  exact⟨id,id⟩
 ·intro a a' p p' ha ha' hne hblk
  rcases hw.sep a a' p p' ha ha' hne hblk with ⟨vs,e1,f,z,vs',e2,z',h1,h2,h3⟩|h0
  ·exact .inl ⟨vs,e1,f,z,vs',e2,z',by rw [hlt (hw.dom a p ha).1];exact h1,by rw [hlt (hw.dom a' p' ha').1];exact h2,h3⟩
  ·exact .inr h0
 ·intro a p vs e f z ha hr
  rw [hlt (hw.dom a p ha).1] at hr
  obtain⟨lo,la,h1,h2,h3⟩:=hw.fam a p vs e f z ha hr
  exact⟨lo,la,by rw [hlt h3];exact h1,h2,by omega⟩
 ·intro a h1 h2
  rw [hb_hput _ _ hn h2,if_neg (by omega)]
  exact hw.future a (by omega) h2
theorem W.newRow (hw:W X φ h n w) (hn:True) {f lo la:Nat} {cs:List AV} {e:TypeId} {z:Nat} {p':Pl} {c':Array Value} {l' u':Nat} {w':World} (hf:hb h f=some (.fam lo la)) (hfn:f < n) (hlan:la < n\/∀ a p vs e z,φ a=some p->hb h a≠some (.row vs e f z))
  (hw':w'.heap[p'.blk]?=some (.cells c' e (l',u'))) (hsz:c'.size=p'.size) (hlen:p'.off+cs.length<=p'.size) (hcr:CRel (φ.put n p') cs p'.off c') (hfz:FrzOk p' z l' u') (hH:X.w0.heap.size<=p'.blk)
  (hother:∀ x q,φ x=some q->q.blk≠p'.blk->w'.heap[q.blk]?=w.heap[q.blk]?)
  (hshare:∀ x q,φ x=some q->q.blk=p'.blk->∃ vs1 z1 c,hb h x=some (.row vs1 e f z1)/\w.heap[q.blk]?=some (.cells c e (l',u'))/\c.size=c'.size/\q.off+vs1.length<=p'.off+cs.length/\∀ j,j < q.off+vs1.length->c'[j]?=c[j]?)
  (hold:∀ b,b < X.w0.heap.size->w'.heap[b]?=w.heap[b]?) (hsize:w.heap.size<=w'.heap.size) (hos:w'.os=w.os) (hout:w'.output=w.output) (htape:w'.tape=w.tape) :
  W X (φ.put n p') (hput n (.row cs e f z) (hput f (.fam lo n) h)) (n+1) w'/\Grow φ h n (φ.put n p') (hput n (.row cs e f z) (hput f (.fam lo n) h)) (n+1):=by
 have hle:=hw.le_put (Nat.le_refl n) p'
 have hft:True:=trivial
 have hfp:=hw.fam_none hf
 have hbx:∀ {x},True->hb (hput n (.row cs e f z) (hput f (.fam lo n) h)) x=if x=n then some (.row cs e f z) else if x=f then some (.fam lo n) else hb h x:=fun hx=>by
  rw [hb_hput _ _ hn hx,hb_hput _ _ hft hx]
 have hlt:∀ {x q},φ x=some q->x < n/\True/\x≠f:=fun hx=>by
  have:=(hw.dom _ _ hx).1
  exact⟨this,trivial,fun e=>by rw [e,hfp] at hx;simp at hx⟩
 have hbo:∀ {x q},φ x=some q->hb (hput n (.row cs e f z) (hput f (.fam lo n) h)) x=hb h x:=fun hx=>by
  obtain⟨h1,h2,h3⟩:=hlt hx
  rw [hbx h2,if_neg (by omega),if_neg h3]
 refine⟨⟨?_,?_,?_,?_,?_,?_,hn,by rw [hos];exact hw.os,by rw [hout];exact hw.output,by rw [htape];exact hw.tape,glob_mono hw.glob hle⟩,⟨Nat.le_succ _,hle,?_⟩⟩
 ·intro x q hx
  by_cases ex:x=n
  ·subst ex
   rw [Phi.put_self] at hx;simp at hx;subst hx
   exact⟨by omega,.row cs e f z,.cells c' e (l',u'),by rw [hbx hn,if_pos rfl],hw',c',l',u',rfl,hsz,hlen,fun _=>hcr,fun _=>hfz,hH⟩
  ·rw [Phi.put_ne _ _ ex] at hx
   obtain⟨h1,b1,o1,h2,h3,h4⟩:=hw.dom x q hx
   by_cases eb:q.blk=p'.blk
   ·obtain⟨vs1,z1,c,g1,g2,g3,g4,g5⟩:=hshare x q hx eb
    rw [h2] at g1;simp at g1;subst g1
    rw [h3] at g2;simp at g2;subst g2
    obtain⟨c0,l0,u0,hce,k1,k2,k3,k4,k5⟩:=h4
    simp at hce
    obtain⟨rfl,rfl,rfl⟩:=hce
    refine⟨by omega,.row vs1 e f z1,.cells c' e (l',u'),by rw [hbo hx];exact h2,by rw [eb];exact hw',c',l',u',rfl,by omega,k2,fun hv=>?_,fun hl=>?_,k5⟩
    ·obtain⟨l3,u3,hf3,hv3⟩:=hv
     rw [hbx hft,if_neg (by omega),if_pos rfl] at hf3
     simp at hf3
     obtain⟨rfl,rfl⟩:=hf3
     have hcx:=(k3 ⟨_,_,hf,hv3⟩).mono hle
     intro i v hi
     obtain⟨s1,y,hy,hvy⟩:=hcx i v hi
     refine⟨s1,y,?_,hvy⟩
     have hil:i < vs1.length:=by
      rw [List.getElem?_eq_some_iff] at hi;exact hi.1
     rw [g5 _ (by omega)];exact hy
    ·obtain⟨l3,hf3⟩:=hl
     rw [hbx hft,if_neg (by omega),if_pos rfl] at hf3
     simp at hf3
     omega
   ·refine⟨by omega,b1,o1,by rw [hbo hx];exact h2,by rw [hother x q hx eb];exact h3,h4.mono hle ?_⟩
    rintro vs1 e1 f1 z1 rfl
    obtain⟨lo2,la2,hf2,hla,hfn2⟩:=hw.fam x q vs1 e1 f1 z1 hx h2
    by_cases ef:f1=f
    ·subst ef
     rw [hf] at hf2;simp at hf2
     obtain⟨rfl,rfl⟩:=hf2
     refine⟨?_,?_⟩
     ·rintro⟨l3,u3,hf3,hv3⟩
      rw [hbx hft,if_neg (by omega),if_pos rfl] at hf3
      simp at hf3
      obtain⟨rfl,rfl⟩:=hf3
      exact⟨_,_,hf,hv3⟩
     ·rintro⟨l3,hf3⟩
      rw [hbx hft,if_neg (by omega),if_pos rfl] at hf3
      simp at hf3
      omega
    ·unfold Valid IsLast
     rw [hbx trivial,if_neg (by omega),if_neg ef]
     exact⟨id,id⟩
 ·intro x x' q q' hx hx' hxx hblk
  by_cases ex:x=n
  ·subst ex
   rw [Phi.put_self] at hx;simp at hx;subst hx
   rw [Phi.put_ne _ _ (Ne.symm hxx)] at hx'
   obtain⟨vs1,z1,c,g1,g2,g3,g4,g5⟩:=hshare x' q' hx' hblk.symm
   have hlt':=hlt hx'
   exact .inl ⟨cs,e,f,z,vs1,e,z1,by rw [hbx hn,if_pos rfl],by rw [hbo hx'];exact g1,fun hc=>by omega⟩
  ·rw [Phi.put_ne _ _ ex] at hx
   by_cases ex':x'=n
   ·subst ex'
    rw [Phi.put_self] at hx';simp at hx';subst hx'
    obtain⟨vs1,z1,c,g1,g2,g3,g4,g5⟩:=hshare x q hx hblk
    exact .inl ⟨vs1,e,f,z1,cs,e,z,by rw [hbo hx];exact g1,by rw [hbx hn,if_pos rfl],fun _=>g4⟩
   ·rw [Phi.put_ne _ _ ex'] at hx'
    rcases hw.sep x x' q q' hx hx' hxx hblk with ⟨vs1,e1,f1,z1,vs2,e2,z2,g1,g2,g3⟩|h0
    ·exact .inl ⟨vs1,e1,f1,z1,vs2,e2,z2,by rw [hbo hx];exact g1,by rw [hbo hx'];exact g2,g3⟩
    ·exact .inr h0
 ·intro x q vs1 e1 f1 z1 hx hrow
  by_cases ex:x=n
  ·subst ex
   rw [hbx hn,if_pos rfl] at hrow
   simp at hrow
   obtain⟨rfl,rfl,rfl,rfl⟩:=hrow
   exact⟨lo,x,by rw [hbx hft,if_neg (by omega),if_pos rfl],Nat.le_refl _,by omega⟩
  ·rw [Phi.put_ne _ _ ex] at hx
   rw [hbo hx] at hrow
   obtain⟨lo2,la2,hf2,hla,hfn2⟩:=hw.fam x q vs1 e1 f1 z1 hx hrow
   have:=(hlt hx).1
   by_cases ef:f1=f
   ·subst ef
    exact⟨lo,n,by rw [hbx hft,if_neg (by omega),if_pos rfl],by omega,by omega⟩
   ·exact⟨lo2,la2,by rw [hbx trivial,if_neg (by omega),if_neg ef];exact hf2,hla,by omega⟩
 ·intro x h1 h2
  rw [hbx h2,if_neg (by omega),if_neg (by omega)]
  exact hw.future x (by omega) h2
 ·intro b1 hb1
  rw [hold b1 hb1]
  exact hw.old b1 hb1
 ·have:=hw.size;omega
 ·intro x h1 h2 h3
  have hxf:x≠f:=fun e=>by rw [e] at h3;exact h3 _ _ hf
  exact⟨by rw [Phi.put_ne _ _ (by omega)];exact h2,by rw [hbx trivial,if_neg (by omega),if_neg hxf]⟩
theorem W.ghost (hw:W X φ h n w) (hn:True) (b0:AB):W X φ (hput n b0 h) (n+1) w/\Grow φ h n φ (hput n b0 h) (n+1):=by
 have hlt:∀ {a},a < n->hb (hput n b0 h) a=hb h a:=fun {a} ha=>by
  rw [hb_hput _ _ hn trivial,if_neg (by omega)]
 refine⟨⟨?_,?_,?_,?_,hw.old,hw.size,hn,hw.os,hw.output,hw.tape,hw.glob⟩,⟨Nat.le_succ _,Phi.le_refl _,fun a ha hp _=>⟨hp,hlt ha⟩⟩⟩
 ·intro a p ha
  obtain⟨h1,b,o,h2,h3,h4⟩:=hw.dom a p ha
  refine⟨by omega,b,o,by rw [hlt h1];exact h2,h3,h4.mono (Phi.le_refl _) ?_⟩
  rintro vs e f z rfl
  obtain⟨lo',la',hf',_,hfn⟩:=hw.fam a p vs e f z ha h2
  unfold Valid IsLast
  rw [hlt hfn]
  exact⟨id,id⟩
 ·intro a a' p p' ha ha' hne hblk
  rcases hw.sep a a' p p' ha ha' hne hblk with ⟨vs,e1,f,z,vs',e2,z',h1,h2,h3⟩|h0
  ·exact .inl ⟨vs,e1,f,z,vs',e2,z',by rw [hlt (hw.dom a p ha).1];exact h1,by rw [hlt (hw.dom a' p' ha').1];exact h2,h3⟩
  ·exact .inr h0
 ·intro a p vs e f z ha hr
  rw [hlt (hw.dom a p ha).1] at hr
  obtain⟨lo,la,h1,h2,h3⟩:=hw.fam a p vs e f z ha hr
  exact⟨lo,la,by rw [hlt h3];exact h1,h2,by omega⟩
 ·intro a h1 h2
  rw [hb_hput _ _ hn h2,if_neg (by omega)]
  exact hw.future a (by omega) h2
theorem W.late (hw:W X φ h n w) {a:Nat} {b:AB} {o:Obj} {p:Pl} (han:a < n) (ha:φ a=none) (hb0:hb h a=some b) (hnr:∀ vs e f z,b≠.row vs e f z) (hpb:p.blk=w.heap.size)
  (hb':BRel X (φ.put a p) h a b p o):W X (φ.put a p) h n { w with heap:=w.heap.push o }/\φ.le (φ.put a p):=by
 have hle:φ.le (φ.put a p):=fun x q e=>by
  rw [Phi.put_ne _ _ (fun ex=>by rw [ex,ha] at e;simp at e),e]
 refine⟨⟨?_,?_,?_,hw.future,?_,?_,hw.top,hw.os,hw.output,hw.tape,glob_mono hw.glob hle⟩,hle⟩
 ·intro x q hx
  by_cases e:x=a
  ·subst e
   rw [Phi.put_self] at hx
   simp at hx;subst hx
   exact⟨han,b,o,hb0,by rw [hpb];simp,hb'⟩
  ·rw [Phi.put_ne _ _ e] at hx
   obtain⟨h1,b1,o1,h2,h3,h4⟩:=hw.dom x q hx
   exact⟨h1,b1,o1,h2,by rw [push_get (hw.blk_lt hx)];exact h3,h4.mono hle (fun _ _ _ _ _=>⟨id,id⟩)⟩
 ·intro x x' q q' hx hx' hne hblk
  by_cases e:x=a
  ·subst e
   rw [Phi.put_self] at hx
   rw [Phi.put_ne _ _ (Ne.symm hne)] at hx'
   simp at hx;subst hx
   have:=hw.blk_lt hx'
   omega
  ·rw [Phi.put_ne _ _ e] at hx
   by_cases e':x'=a
   ·subst e'
    rw [Phi.put_self] at hx'
    simp at hx';subst hx'
    have:=hw.blk_lt hx
    omega
   ·rw [Phi.put_ne _ _ e'] at hx'
    exact hw.sep x x' q q' hx hx' hne hblk
 ·intro x q vs e f z hx hr
  by_cases ex:x=a
  ·subst ex
   rw [hb0] at hr
   simp at hr
   exact absurd hr (hnr _ _ _ _)
  ·rw [Phi.put_ne _ _ ex] at hx
   exact hw.fam x q vs e f z hx hr
 ·intro b1 hb1
  have:=hw.size
  rw [push_get (by omega)]
  exact hw.old b1 hb1
 ·have:=hw.size
  simp;omega
end
end Go.Ev
namespace Go.Ev
def ReadTo (X:Ctx) (o:Oper) (oc:OC) (xs:List Operand) (vs:List AV) (h:Hp) (v:AV):Prop :=
 (∀ n K,execV oc vs h n K=K.v v h n) /\
  ∀ (φ:Phi) (n:Nat) (w:World) (ρ:Operand->Value),W X φ h n w->(∀ v,ρ (.const v)=v)->VRels φ vs (xs.map ρ)->∃ c,(execOp ρ o).run X.P w=.ok (.value c) w/\VRel φ v c
section
variable {X:Ctx} {o:Oper} {vs:List AV} {h:Hp} {n:Nat} {K:KS}
theorem loadC_read {t:TypeId} {x:Operand} (hop:o.op=.load t x) (hg:TI.isAgg X.P t=some false) (hx:execV .loadC vs h n K=true):∃ v,ReadTo X o .loadC [x] vs h v:=by
 obtain⟨a,rfl,hx1⟩:=un1_iff.1 (hx:un1 _ vs=true)
 obtain⟨a,q,rfl,hx2⟩:=ifPtr_iff.1 hx1
 obtain⟨cs,hr,hl,hk,heq⟩:=loadN_val hx2
 obtain⟨v,hv,_⟩:=one_iff.1 hk
 refine⟨v,fun n K=>?_,fun φ n w ρ hw _ hr'=>?_⟩
 ·show loadN h a q 1 (fun l=>one l fun v=>K.v v h n)=_
  rw [heq,hv];rfl
 ·have r:=rel1 hr'
  simp only [VRel] at r
  obtain⟨p,hp,r⟩:=r
  obtain⟨c,e,fr,h1,h2,h3,h4⟩:=hw.read hp hr
  have hv0:cs[q]?=some v:=by
   have:((cs.drop q).take 1)[0]?=some v:=by rw [hv];rfl
   simpa using this
  obtain⟨_,y,hy,hvy⟩:=h2 q v hv0
  have hload:=load_run (P:=X.P) (q:=p.off+q) h1 hy
  refine⟨y,?_,hvy⟩
  simp only [execOp,hop,Sem.run_bind,Instr.loadAt,r,Instr.sureAddr,Sem.run_pure,Result.andThen_ok,loadVar,isAgg_run w hg,Bool.false_eq_true,if_false,hload]
theorem loadA_read {t:TypeId} {x:Operand} {m:Nat} (hop:o.op=.load t x) (hg:TI.isAgg X.P t=some true) (hs:TI.size X.P t=some m) (hx:execV (.loadA m) vs h n K=true):∃ v,ReadTo X o (.loadA m) [x] vs h v:=by
 obtain⟨a,rfl,hx1⟩:=un1_iff.1 (hx:un1 _ vs=true)
 obtain⟨a,q,rfl,hx2⟩:=ifPtr_iff.1 hx1
 obtain⟨cs,hr,hl,hk,heq⟩:=loadN_val hx2
 refine⟨.agg ((cs.drop q).take m),fun n K=>?_,fun φ n w ρ hw _ hr'=>?_⟩
 ·show loadN h a q m (fun l=>K.v (.agg l) h n)=_
  rw [heq]
 ·have r:=rel1 hr'
  simp only [VRel] at r
  obtain⟨p,hp,r⟩:=r
  obtain⟨ccs,hload,hv,hsc⟩:=hw.loadN hp hr hl
  obtain⟨i',hi,hs'⟩:∃ i',X.P.info? t=some i'/\i'.size=m:=by simpa [TI.size] using hs
  refine⟨.agg ccs,?_,by simp only [VRel];exact⟨_,rfl,hv,hsc⟩⟩
  have hsz:(sizeOf t).run X.P w=.ok m w:=by simp [sizeOf,typeInfo,hi,hs']
  simp only [execOp,hop,Sem.run_bind,Instr.loadAt,r,Instr.sureAddr,Sem.run_pure,Result.andThen_ok,loadVar,isAgg_run w hg,if_true,hsz,hload]
theorem getObj_run {P:Program} {w:World} {b:Nat} {ob:Obj} (h:w.heap[b]?=some ob) (hc:∀ c e fr,ob≠.cells c e fr):(getObj b).run P w=.ok ob w:=by
 cases ob<;>first |(exact absurd rfl (hc _ _ _)) |(unfold getObj;simp only [Sem.run,h])
theorem ERel.length {φ:Phi}:∀ {es:List (AV × AV × Nat)} {ces:List MapEntry},ERel φ es ces->es.length=ces.length
 | [],_,r=>by rw [show _=[] from r];rfl
 | x::es,ces,r=>by obtain⟨e,es',rfl,_,_,_,h4⟩:=r;simp [ERel.length h4]
theorem W.map {φ:Phi} {w:World} {a:Nat} {p:Pl} {es:List (AV × AV × Nat)} {clock:Nat} (hw:W X φ h n w) (ha:φ a=some p) (hb0:hb h a=some (.map es clock)) :
  ∃ ces,w.heap[p.blk]?=some (.map ces clock)/\ERel φ es ces.toList/\X.w0.heap.size<=p.blk:=by
 obtain⟨_,b,ob,h1,h2,h3⟩:=hw.dom a p ha
 rw [hb0] at h1;simp at h1;subst h1
 obtain⟨ces,rfl,r,hH⟩:=h3
 exact⟨ces,h2,r,hH⟩
theorem blkK_eq {h:Hp} {a:Nat} {b:AB} (k:AB->Bool) (e:hb h a=some b):blkK h a k=k b:=by
 rw [Bool.eq_iff_iff,blkK_iff,e];simp
theorem lenMap_read {c:Call} {x:Operand} {t k e:TypeId} (hop:o.op=.call c) (hc:c.callee=.builtin .len) (ha:c.args.toList=[x]) (hat:c.argTypes.toList=[t]) (ht:X.P.underlying t=some (.map k e))
  (hx:execV .lenMap vs h n K=true):∃ v,ReadTo X o .lenMap [x] vs h v:=by
 obtain⟨a,rfl,hx1⟩:=un1_iff.1 (hx:un1 _ vs=true)
 have ha':c.args=#[x]:=by rw [<- Array.toArray_toList (xs:=c.args),ha]
 have hat':c.argTypes=#[t]:=by rw [<- Array.toArray_toList (xs:=c.argTypes),hat]
 rcases ifMap_iff.1 hx1 with ⟨rfl,_⟩ |⟨m,rfl,hx2⟩
 ·refine⟨.int .i64 0,fun n K=>rfl,fun φ n w ρ hw _ hr=>⟨.int .i64 0,?_,by simp [VRel]⟩⟩
  have r:=rel1 hr
  simp only [VRel] at r
  simp [execOp,hop,resolve,hc,ha',hat',invoke,builtin,Builtin.len_,underlying,ht,r,goInt]
 ·obtain⟨b,hb0,hx3⟩:=blkK_iff.1 hx2
  obtain⟨es,clock,rfl,hx4⟩:=ifMapB_iff.1 hx3
  refine⟨.int .i64 es.length,fun n K=>?_,fun φ n w ρ hw _ hr=>⟨.int .i64 es.length,?_,by simp [VRel]⟩⟩
  ·show blkK h m (fun b=>ifMapB b fun es _=>lenK es fun l=>K.v (.int .i64 (.ofNat l)) h n)=_
   rw [blkK_eq _ hb0]
   show lenK es (fun l=>K.v (.int .i64 (.ofNat l)) h n)=_
   rw [lenK_eq];rfl
  ·have r:=rel1 hr
   simp only [VRel] at r
   obtain⟨p,hp,r⟩:=r
   obtain⟨ces,h1,h2,_⟩:=hw.map hp hb0
   have hlen:=h2.length
   simp [execOp,hop,resolve,hc,ha',hat',invoke,builtin,Builtin.len_,underlying,ht,r,goInt,getObj_run h1 (by simp)]
   simp at hlen;rw [hlen]
theorem isU8_iff {k:IntKind}:isU8 k=true ↔ k=.u8:=by cases k<;>simp [isU8]<;>decide
theorem codeK_cons (v:AV) (vs:List AV) (k:Nat->Bool):codeK (v::vs) k=ifInt v (fun kd n=>guardB (isU8 kd) (natI n fun m=>guardB (Nat.blt m 256) (codeK vs fun c=>force (Nat.add m (Nat.mul 256 c)) k))):=rfl
theorem codeK_val:∀ {vs:List AV} {k:Nat->Bool},codeK vs k=true->∃ c,k c=true/\(∀ k,codeK vs k=k c)/\c < 256 ^ vs.length/\∃ ns:List Nat,vs=ns.map (fun (m:Nat)=>.int .u8 (m:Int))/\(∀ m ∈ ns,m < 256)/\bytesOf vs.length c=ns.map UInt8.ofNat:=by
 intro vs
 induction vs with
 | nil=>intro k h;exact⟨0,h,fun _=>rfl,by simp,[],rfl,by simp,rfl⟩
 | cons v vs ih =>
  intro k h
  rw [codeK_cons] at h
  obtain⟨kd,z,rfl,h1⟩:=ifInt_iff.1 h
  obtain⟨h2,h3⟩:=guardB_iff.1 h1
  rw [isU8_iff] at h2
  subst h2
  obtain⟨m,rfl,h4⟩:=natI_iff.1 h3
  obtain⟨h5,h6⟩:=guardB_iff.1 h4
  have hm:m < 256:=by simpa [Nat.blt,Nat.lt_iff_add_one_le] using h5
  obtain⟨c,h7,h8,h9,ns,rfl,h10,h11⟩:=ih h6
  rw [force_eq] at h7
  refine⟨m+256*c,h7,fun k=>?_,?_,m::ns,rfl,?_,?_⟩
  ·rw [codeK_cons]
   show guardB (Nat.blt m 256) (codeK _ fun c=>force (Nat.add m (Nat.mul 256 c)) k)=_
   rw [h5,h8,force_eq];rfl
  ·simp only [List.length_cons,Nat.pow_succ]
   omega
  ·intro x hx
   rcases List.mem_cons.1 hx with rfl|hx
   ·exact hm
   ·exact h10 x hx
  ·simp only [List.length_cons,bytesOf,List.map_cons]
   rw [show (m+256*c) % 256=m by omega,show (m+256*c) / 256=c by omega]
   rw [h11]
theorem u8_rels {φ:Phi}:∀ {ns:List Nat} {cs:List Value},VRels φ (ns.map (fun (m:Nat)=>AV.int .u8 (m:Int))) cs->cs=(ns.map (fun (m:Nat)=>(m:Int))).map (Value.int .u8)
 | [],cs,h=>by simpa [VRels] using h
 | m::ns,cs,h=>by
  obtain⟨c,r,rfl,h1,h2⟩:=VRels.cons_iff.1 h
  rw [int_rel] at h1
  rw [u8_rels h2,h1];simp
theorem push_fold:∀ (ns:List Nat) (acc:List UInt8),((ns.map (fun (m:Nat)=>(m:Int))).foldl (fun (r:ByteArray) n=>r.push (UInt8.ofNat n.toNat)) ⟨acc.toArray⟩)=⟨(acc++ns.map UInt8.ofNat).toArray⟩
 | [],acc=>by simp
 | m::ns,acc=>by
  simp only [List.map_cons,List.foldl_cons]
  have:(⟨acc.toArray⟩:ByteArray).push (UInt8.ofNat ((m:Int).toNat))=⟨(acc++[UInt8.ofNat m]).toArray⟩:=by
   simp [ByteArray.push]
  rw [this,push_fold ns]
  simp
theorem convBS_read {s t e:TypeId} {x:Operand} (hop:o.op=.convert s t x) (hs:X.P.underlying s=some (.slice e)) (ht:X.P.underlying t=some .string) (he:X.P.underlying e=some (.int .u8)) (hx:execV .convBS vs h n K=true):∃ v,ReadTo X o .convBS [x] vs h v:=by
 obtain⟨a,rfl,hx1⟩:=un1_iff.1 (hx:un1 _ vs=true)
 have main:∀ (a q l:Nat) (x0:AV),(∀ n K,execV .convBS [x0] h n K=loadN h a q l fun vs=>codeK vs fun c=>K.v (.str l c) h n)->(∀ φ c,VRel φ x0 c->(∃ p cp,φ a=some p/\c=.slice (some ⟨p.blk,p.off+q,none⟩) l cp)\/(l=0/\∃ x cp,c=.slice (some x) 0 cp)) ->
   (loadN h a q l fun vs=>codeK vs fun c=>K.v (.str l c) h n)=true->∃ v,ReadTo X o .convBS [x] [x0] h v:=by
  intro a q l x0 hex hval hk
  obtain⟨cs,hr,hl,hk1,heq⟩:=loadN_val hk
  obtain⟨c,hk2,hcode,hlt,ns,hns,hsm,hby⟩:=codeK_val hk1
  have hlen:((cs.drop q).take l).length=l:=by
   rcases hl with rfl|hl
   ·simp
   ·simp;omega
  rw [hlen] at hlt hby
  refine⟨.str l c,fun n K=>by rw [hex,heq,hcode],fun φ n w ρ hw _ hr'=>?_⟩
  refine⟨.string ⟨(bytesOf l c).toArray⟩,?_,by simp only [VRel];exact⟨hlt,trivial⟩⟩
  obtain⟨ad,cp,r,hload'⟩:∃ ad cp,ρ x=.slice (some ad) l cp/\(loadCells ad l).run X.P w=.ok ((ns.map (fun (m:Nat)=>(m:Int))).map (Value.int .u8)).toArray w:=by
   rcases hval φ _ (rel1 hr') with ⟨p,cp,hp,r⟩ |⟨rfl,ad,cp,r⟩
   ·obtain⟨ccs,hload,hv,_⟩:=hw.loadN hp hr hl
    rw [hns] at hv
    have hcc:=u8_rels hv
    exact⟨_,cp,r,by rw [hload,<- hcc]⟩
   ·refine⟨ad,cp,r,?_⟩
    rw [List.take_zero] at hns
    have hn0:ns=[]:=by simpa using hns.symm
    subst hn0
    rfl
  have hb:=run_bytesToString (P:=X.P) w ad l cp _ hload'
  have hpf:=push_fold ns []
  have hemp:(ByteArray.empty)=⟨([]:List UInt8).toArray⟩:=rfl
  rw [hemp,hpf] at hb
  simp only [List.nil_append,<- hby] at hb
  have hcv:=run_convert_bytes_string (P:=X.P) w s t e (some ad) l cp hs he ht
  simp only [execOp,hop,Sem.run_bind,r,hcv,hb,Result.andThen_ok,Sem.run_pure]
 rcases ifSl_iff.1 hx1 with ⟨rfl,hf⟩ |⟨a,q,l,m,rfl,hx2⟩ |⟨a,q,l,m,rfl,hx2⟩
 ·refine⟨.str 0 0,fun n K=>rfl,fun φ n w ρ hw _ hr=>⟨.string ⟨(bytesOf 0 0).toArray⟩,?_,by simp only [VRel];exact⟨by simp,trivial⟩⟩⟩
  have r:=rel1 hr
  simp only [VRel] at r
  have hcv:=run_convert_bytes_string (P:=X.P) w s t e none 0 0 hs he ht
  simp only [execOp,hop,Sem.run_bind,r,hcv,Conv.bytesToString,Sem.run_pure,Result.andThen_ok]
  rfl
 ·exact main a q l _ (fun _ _=>rfl) (fun φ c hv=>by simp only [VRel] at hv;obtain⟨p,hp,r,_⟩:=hv;exact .inl ⟨p,_,hp,r⟩) hx2
 ·exact main a q l _ (fun _ _=>rfl) (fun φ c hv=>by simp only [VRel] at hv;exact hv.elim (fun⟨p,cp,hp,r,_⟩=>.inl ⟨p,_,hp,r⟩) (fun⟨_,h0,x,c,r⟩=>.inr ⟨h0,x,c,r⟩)) hx2
end
section
variable {P:Program}
theorem forIn_ok {α:Type} {w:World} {f:α->PUnit->Sem (ForInStep PUnit)}:∀ (l:List α),(∀ x ∈ l,(f x ⟨⟩).run P w=.ok (.yield ⟨⟩) w)->(forIn l PUnit.unit f).run P w=.ok ⟨⟩ w
 | [],_=>by simp
 | x::l,h=>by
  simp only [List.forIn_cons,Sem.run_bind,h x (by simp),Result.andThen_ok]
  exact forIn_ok l fun y hy=>h y (by simp [hy])
def CheckFlat (P:Program) (t:TypeId) (sh:List SK) (d:Nat):Prop :=
 ∀ (emp:Bool) (φ:Phi) (xs:List AV) (cx:List Value) (v:Value) (w:World),fits sh xs=true->VRels φ xs cx->TyV P t cx v->(Instr.checkKey emp d t v).run P w=.ok () w
theorem fits_flatten {l:List SK}:∀ (n i:Nat) (xs:List AV),i < n->fits (List.replicate n l).flatten xs=true->fits l ((xs.drop (i*l.length)).take l.length)=true
 | 0,i,xs,h,_=>by omega
 | n+1,i,xs,h,hf=>by
  rw [List.replicate_succ,List.flatten_cons] at hf
  obtain⟨h1,h2⟩:=fits_append hf
  cases i with
  | zero=>simpa using h1
  | succ i =>
   have:=fits_flatten n i _ (by omega) h2
   rw [List.drop_drop] at this
   rw [Nat.add_mul,Nat.one_mul,Nat.add_comm];exact this
mutual
theorem check_flat:(f:Nat)->(t:TypeId)->(sh:List SK)->flatTy P f t=some sh->∀ d,f<=d->CheckFlat P t sh d
 | 0,t,sh,h=>by simp [flatTy] at h
 | f+1,t,sh,h=>by
  intro d hd
  obtain⟨d,rfl⟩:∃ d',d=d'+1:=⟨d - 1,by omega⟩
  intro emp φ xs cx v w fx rx tx
  have lx:=rx.length
  have fxl:=fits_length fx
  unfold flatTy at h
  split at h
  ·rename_i hu
   simp [Instr.checkKey,underlying,hu]
  ·rename_i k hu
   simp [Instr.checkKey,underlying,hu]
  ·rename_i hu
   simp [Instr.checkKey,underlying,hu]
  ·rename_i fs hu
   split at h
   ·simp at h
   ·rename_i hst
    have hgt:TI.isAgg P t=some true:=by simp [TI.isAgg,hu]
    rw [tyv_agg hgt tx]
    have hund:(underlying t).run P w=.ok (.struct fs) w:=by simp [underlying,hu]
    simp only [Instr.checkKey,Sem.run_bind,hund,Result.andThen_ok]
    rw [<- Array.forIn_toList]
    have hfor:=check_flats f fs.toList 0 sh h d (by omega) emp φ xs cx w (by omega) fx (by rw [List.drop_zero,List.take_of_length_le (by omega)];exact rx)
    rw [hfor];rfl
  ·rename_i m e hu
   split at h
   ·rename_i l s' hl hs
    split at h
    ·rename_i hsl
     simp at h;subst h
     have hgt:TI.isAgg P t=some true:=by simp [TI.isAgg,hu]
     obtain⟨i,hi,hs'⟩:∃ i,P.info? e=some i/\i.size=s':=by simpa [TI.size] using hs
     obtain⟨g',hg',hg1'⟩:=flatTy_agg hl
     rw [tyv_agg hgt tx]
     have hund:(underlying t).run P w=.ok (.array m e) w:=by simp [underlying,hu]
     simp only [Instr.checkKey,Sem.run_bind,hund,Result.andThen_ok]
     simp only [Std.Legacy.Range.forIn_eq_forIn_range',Std.Legacy.Range.size,Nat.sub_zero,Nat.add_one_sub_one,Nat.div_one]
     suffices hfor:(forIn (List.range' 0 m) PUnit.unit fun i (_:PUnit)=>(do
       let s <- sizeOf e
       let x <- part e cx.toArray (i*s)
       Instr.checkKey emp d e x
       pure (ForInStep.yield PUnit.unit):Sem (ForInStep PUnit))).run P w=.ok ⟨⟩ w by
      rw [hfor];rfl
     refine forIn_ok _ fun j hj=>?_
     have hjm:j < m:=by have:=List.mem_range'.1 hj;omega
     have hfl:(List.replicate m l).flatten.length=m*l.length:=by simp
     have hjl:j*l.length+l.length<=cx.length:=by
      have:(j+1)*l.length<=m*l.length:=Nat.mul_le_mul_right _ hjm
      rw [Nat.add_mul,Nat.one_mul] at this
      omega
     have his:i.size=l.length:=by omega
     obtain⟨vx,px,tvx⟩:=part_tyv (P:=P) (l:=cx) (off:=j*l.length) w hi hg' (by omega) (fun h=>by have:=hg1' h;omega)
     rw [his] at tvx
     have hsz:(sizeOf e).run P w=.ok l.length w:=by simp [sizeOf,typeInfo,hi,his]
     have hck:=check_flat f e l hl d (by omega) emp φ _ _ vx w (fits_flatten m j xs hjm fx) ((rx.drop (j*l.length)).take l.length) tvx
     simp only [Sem.run_bind,hsz,Result.andThen_ok,px,hck,Sem.run_pure]
    ·simp at h
   ·simp at h
  ·simp at h
theorem check_flats:(f:Nat)->(fs:List Field)->(at_:Nat)->(sh:List SK)->flatFs P f fs at_=some sh->∀ d,f<=d ->
  ∀ (emp:Bool) (φ:Phi) (xs:List AV) (cx:List Value) (w:World),at_+sh.length<=cx.length->fits sh xs=true->VRels φ xs ((cx.drop at_).take sh.length) ->
   (forIn fs PUnit.unit (fun (f:Field) (_:PUnit)=>(do
    if f.name≠ "_" then
     let x <- part f.type cx.toArray f.offset
     Instr.checkKey emp d f.type x
     pure (ForInStep.yield PUnit.unit)
    else pure (ForInStep.yield PUnit.unit):Sem (ForInStep PUnit)))).run P w=.ok ⟨⟩ w
 | f,[],at_,sh,h=>by
  intro d _ emp φ xs cx w _ _ _
  simp
 | 0,x::xs,at_,sh,h=>by simp [flatFs] at h
 | f+1,x::fs,at_,sh,h=>by
  unfold flatFs at h
  split at h
  ·rename_i l s' hl hs
   split at h
   ·rename_i hc
    obtain⟨hc1,hc2,hc3⟩:=hc
    split at h
    ·rename_i r hr
     simp at h;subst h
     intro d hd emp φ xs cx w h1 fx rx
     obtain⟨i,hi,hs'⟩:∃ i,P.info? x.type=some i/\i.size=s':=by simpa [TI.size] using hs
     obtain⟨g',hg',hg1'⟩:=flatTy_agg hl
     obtain⟨fx1,fx2⟩:=fits_append fx
     simp only [List.length_append] at h1 rx
     obtain⟨vx,px,tx⟩:=part_tyv (P:=P) (l:=cx) (off:=at_) w hi hg' (by omega) (fun h=>by have:=hg1' h;omega)
     have his:i.size=l.length:=by omega
     rw [his] at tx
     have rx1:=rx.take l.length
     rw [List.take_take,Nat.min_eq_left (by omega)] at rx1
     have rx2:=rx.drop l.length
     rw [List.drop_take,List.drop_drop,Nat.add_sub_cancel_left] at rx2
     have r1:=check_flat f x.type l hl d (by omega) emp φ _ _ vx w fx1 rx1 tx
     have r2:=check_flats f fs (at_+s') r hr d (by omega) emp φ _ cx w (by omega) fx2 (by rw [hc1];exact rx2)
     simp only [List.forIn_cons,Sem.run_bind,hc3,ne_eq,not_false_eq_true,if_true,hc2,px,r1,Result.andThen_ok,Sem.run_pure]
     exact r2
    ·simp at h
   ·simp at h
  ·simp at h
end
theorem key_tyv {φ:Phi} {kt:TypeId} {sh:List SK} {g:Bool} {a:AV} {c:Value} (hg:TI.isAgg P kt=some g) (hk:keyOk sh g a=true) (hr:VRel φ a c) :
  ∃ xs cx,fits sh xs=true/\VRels φ xs cx/\TyV P kt cx c/\((g=true/\a=.agg xs)\/(g=false/\xs=[a])):=by
 cases g with
 | true =>
  cases a<;>simp [keyOk] at hk
  rename_i xs
  simp only [VRel] at hr
  obtain⟨y,rfl,r1,_⟩:=hr
  exact⟨xs,y.toList,hk,r1,.inl ⟨hg,by simp⟩,.inl ⟨rfl,rfl⟩⟩
 | false =>
  have hk':fits sh [a]=true:=by cases a<;>simpa [keyOk] using hk
  exact⟨[a],[c],hk',VRels.one.2 ⟨c,rfl,hr⟩,.inr ⟨hg,rfl⟩,.inr ⟨rfl,rfl⟩⟩
theorem keyEq_flat {sh:List SK} {g:Bool} {a b:AV} {z:Bool} {xs ys:List AV} (hx:(g=true/\a=.agg xs)\/(g=false/\xs=[a])) (hy:(g=true/\b=.agg ys)\/(g=false/\ys=[b])) (hfx:fits sh xs=true) (h:keyEq sh g a b=some z):flatEq xs ys=some z:=by
 unfold keyEq at h
 split at h
 ·rename_i hok
  rcases hx with ⟨rfl,rfl⟩ |⟨rfl,rfl⟩
  ·rcases hy with ⟨_,rfl⟩ |⟨h',_⟩
   ·simpa using h
   ·simp at h'
  ·rcases hy with ⟨h',_⟩ |⟨_,rfl⟩
   ·simp at h'
   ·have:scalarEq a b=some z:=by
     cases a<;>cases b<;>simp at h ⊢<;>first|exact h |(simp [keyOk] at hok;cases sh with|nil=>simp [fits] at hfx|cons s ss=>cases s<;>simp [fits] at hfx)
    simp [flatEq,this]
 ·simp at h
theorem keyEq_ok {sh:List SK} {g:Bool} {a b:AV} {z:Bool} (h:keyEq sh g a b=some z):keyOk sh g b=true:=by
 unfold keyEq at h
 split at h
 ·assumption
 ·simp at h
theorem keyEq_run {φ:Phi} {kt:TypeId} {sh:List SK} {g:Bool} {a b:AV} {c d:Value} {z:Bool} (w:World) (hf:flatTy P 40 kt=some sh) (hg:TI.isAgg P kt=some g) (hk:keyOk sh g a=true) (h:keyEq sh g a b=some z) (ra:VRel φ a c) (rb:VRel φ b d) :
  (Op.equal kt c d).run P w=.ok z w:=by
 obtain⟨xs,cx,fx,rx,tx,ex⟩:=key_tyv (P:=P) hg hk ra
 obtain⟨ys,cy,fy,ry,ty,ey⟩:=key_tyv (P:=P) hg (keyEq_ok h) rb
 exact eq_flat 40 kt sh hf 10000 (by omega) φ xs ys z cx cy c d w fx fy (keyEq_flat ex ey fx h) rx ry tx ty
def FindRel (φ:Phi) (es:List (AV × AV × Nat)) (off:Nat) (sh:List SK) (g:Bool) (key:AV):Option (Nat × AV)->Option (Nat × Value)->Prop
 | none,r=>r=none
 | some (i,v),r=>∃ c,r=some (i,c)/\VRel φ v c/\∃ j k b,i=off+j/\es[j]?=some (k,v,b)/\keyEq sh g key k=some true
theorem FindRel.shift {φ:Phi} {es:List (AV × AV × Nat)} {e:AV × AV × Nat} {off:Nat} {sh:List SK} {g:Bool} {key:AV} {r:Option (Nat × AV)} {r':Option (Nat × Value)} (h:FindRel φ es (off+1) sh g key r r'):FindRel φ (e::es) off sh g key r r':=by
 cases r with
 | none=>exact h
 | some x =>
  obtain⟨i,v⟩:=x
  obtain⟨c,h1,h2,j,k,b,h3,h4,h5⟩:=h
  exact⟨c,h1,h2,j+1,k,b,by omega,by simpa using h4,h5⟩
theorem asking_run {φ:Phi} {kt:TypeId} {sh:List SK} {g:Bool} {key:AV} {c:Value} (w:World) (hf:flatTy P 40 kt=some sh) (hg:TI.isAgg P kt=some g) (hk:keyOk sh g key=true) (rk:VRel φ key c) :
  ∀ (es:List (AV × AV × Nat)) (ces:List MapEntry) (i:Nat) (r:Option (Nat × AV)),ERel φ es ces->findE sh g key es i=some r->∃ r',(Instr.findAsking kt c ces i).run P w=.ok r' w/\FindRel φ es i sh g key r r':=by
 intro es
 induction es with
 | nil =>
  intro ces i r he hr
  rw [show ces=[] from he]
  simp [findE] at hr
  subst hr
  exact⟨none,by simp [Instr.findAsking],rfl⟩
 | cons e es ih =>
  intro ces i r he hr
  obtain⟨ce,ces',rfl,h1,h2,h3,h4⟩:=he
  unfold findE at hr
  cases hz:keyEq sh g key e.1 with
  | none=>simp [hz] at hr
  | some z =>
   have heq:=keyEq_run (P:=P) w hf hg hk hz rk h1
   cases z with
   | true =>
    simp [hz] at hr
    subst hr
    exact⟨some (i,ce.val),by simp [Instr.findAsking,heq],ce.val,rfl,h2,0,e.1,e.2.2,rfl,by simp,hz⟩
   | false =>
    simp [hz] at hr
    obtain⟨r',hr1,hr2⟩:=ih ces' (i+1) r h4 hr
    exact⟨r',by simp [Instr.findAsking,heq,hr1],hr2.shift⟩
theorem now_run {φ:Phi} {kt:TypeId} {sh:List SK} {key:AV} {c:Value} {d:TypeDesc} (hd:P.underlying kt=some d) (hf:flatTy P 40 kt=some sh) (hg:TI.isAgg P kt=some false) (hk:keyOk sh false key=true) (rk:VRel φ key c) :
  ∀ (es:List (AV × AV × Nat)) (ces:List MapEntry) (i:Nat) (r:Option (Nat × AV)),ERel φ es ces->findE sh false key es i=some r->∃ r',Instr.findNow d c ces i=some r'/\FindRel φ es i sh false key r r':=by
 have hsame:∀ {b:AV} {cb:Value} {z:Bool},keyEq sh false key b=some z->VRel φ b cb->Instr.sameNow d c cb=some z:=by
  intro b cb z hz rb
  have hkb:=keyEq_ok hz
  have hsc:scalarEq key b=some z:=by
   have:=keyEq_flat (.inr ⟨rfl,rfl⟩) (.inr ⟨rfl,rfl⟩) (by cases key<;>simpa [keyOk] using hk) hz
   exact flatEq_one this
  have hk1:fits sh [key]=true:=by cases key<;>simpa [keyOk] using hk
  have hk2:fits sh [b]=true:=by cases b<;>simpa [keyOk] using hkb
  unfold flatTy at hf
  rw [hd] at hf
  simp only at hf
  cases d<;>simp at hf<;>first |(subst hf)|skip
  ·cases key<;>simp [fits] at hk1
   cases b<;>simp [fits] at hk2
   simp only [VRel] at rk rb
   subst rk;subst rb
   simp [scalarEq] at hsc
   simp [Instr.sameNow,hsc]
  ·cases key<;>simp [fits] at hk1
   cases b<;>simp [fits] at hk2
   simp only [VRel] at rk rb
   subst rk;subst rb
   simp only [scalarEq] at hsc
   split at hsc
   ·rename_i hkk
    rw [kindEq_iff] at hkk
    subst hkk
    simp at hsc
    simp [Instr.sameNow,hsc]
   ·simp at hsc
  ·cases key<;>simp [fits] at hk1
   cases b<;>simp [fits] at hk2
   simp only [VRel] at rk rb
   obtain⟨c1,rfl⟩:=rk
   obtain⟨c2,rfl⟩:=rb
   simp only [scalarEq,Option.some.injEq] at hsc
   simp only [Instr.sameNow,beq_toListBytes,str_toList,str_beq c1 c2,hsc]
  ·simp [TI.isAgg,hd] at hg
  ·simp [TI.isAgg,hd] at hg
 intro es
 induction es with
 | nil =>
  intro ces i r he hr
  rw [show ces=[] from he]
  simp [findE] at hr
  subst hr
  exact⟨none,by simp [Instr.findNow],rfl⟩
 | cons e es ih =>
  intro ces i r he hr
  obtain⟨ce,ces',rfl,h1,h2,h3,h4⟩:=he
  unfold findE at hr
  cases hz:keyEq sh false key e.1 with
  | none=>simp [hz] at hr
  | some z =>
   have heq:=hsame hz h1
   cases z with
   | true =>
    simp [hz] at hr
    subst hr
    exact⟨some (i,ce.val),by simp [Instr.findNow,heq],ce.val,rfl,h2,0,e.1,e.2.2,rfl,by simp,hz⟩
   | false =>
    simp [hz] at hr
    obtain⟨r',hr1,hr2⟩:=ih ces' (i+1) r h4 hr
    exact⟨r',by simp [Instr.findNow,heq,hr1],hr2.shift⟩
theorem findKey_run {φ:Phi} {kt:TypeId} {sh:List SK} {g:Bool} {key:AV} {c:Value} (w:World) (hf:flatTy P 40 kt=some sh) (hg:TI.isAgg P kt=some g) (hk:keyOk sh g key=true) (rk:VRel φ key c)
  (es:List (AV × AV × Nat)) (ces:List MapEntry) (r:Option (Nat × AV)) (he:ERel φ es ces) (hr:findE sh g key es 0=some r):∃ r',(Instr.findKey kt c ces).run P w=.ok r' w/\FindRel φ es 0 sh g key r r':=by
 have hg':=hg
 simp only [TI.isAgg,Option.map_eq_some_iff] at hg'
 obtain⟨d,hd,hgd⟩:=hg'
 have hund:(underlying kt).run P w=.ok d w:=by simp [underlying,hd]
 cases g with
 | false =>
  obtain⟨r',h1,h2⟩:=now_run hd hf hg hk rk es ces 0 r he hr
  exact⟨r',by simp [Instr.findKey,hund,h1],h2⟩
 | true =>
  cases es with
  | nil =>
   rw [show ces=[] from he]
   simp [findE] at hr
   subst hr
   exact⟨none,by simp [Instr.findKey,hund,Instr.findNow],rfl⟩
  | cons e es =>
   obtain⟨r',h1,h2⟩:=asking_run w hf hg hk rk (e::es) ces 0 r he hr
   obtain⟨ce,ces',rfl,_⟩:=he
   have hnow:Instr.findNow d c (ce::ces') 0=none:=by
    cases d<;>simp at hgd<;>simp [Instr.findNow,Instr.sameNow]
   exact⟨r',by simp [Instr.findKey,hund,hnow,h1],h2⟩
end
section
variable {X:Ctx} {o:Oper} {vs:List AV} {h:Hp} {n:Nat} {K:KS}
def foundV (z:AV) (ok:Bool) (r:Option (Nat × AV)):AV:=match r,ok with
 | none,false=>z
 | none,true=>.tup [z,.bool false]
 | some (_,v),false=>v
 | some (_,v),true=>.tup [v,.bool true]
theorem foundK_eq (z:AV) (ok:Bool) (r:Option (Nat × AV)) (k:AV->Bool):foundK z ok r k=k (foundV z ok r):=by
 rcases r with _ |⟨i,v⟩<;>cases ok<;>rfl
theorem lookup_read {t kt e:TypeId} {m k:Operand} {ok g:Bool} {z:AV} {sh:List SK} (hop:o.op=.lookup t m k ok) (ht:X.P.underlying t=some (.map kt e)) (hz:TI.zero X.P e=some z) (hf:flatTy X.P 40 kt=some sh) (hg:TI.isAgg X.P kt=some g)
  (hx:execV (.lookup sh g z ok) vs h n K=true):∃ v,ReadTo X o (.lookup sh g z ok) [m,k] vs h v:=by
 obtain⟨mv,key,rfl,hx1⟩:=un2_iff.1 (hx:un2 _ vs=true)
 obtain⟨hk,hx2⟩:=guardB_iff.1 hx1
 have fin:∀ {φ:Phi} {w:World} {ρ:Operand->Value} {es:List (AV × AV × Nat)} {ces:Array MapEntry} {r:Option (Nat × AV)},VRel φ key (ρ k)->ERel φ es ces.toList->findE sh g key es 0=some r ->
   ((ρ m=.map none/\ces=#[])\/∃ b clock,ρ m=.map (some b)/\w.heap[b]?=some (.map ces clock)) ->
   ∃ c,(execOp ρ o).run X.P w=.ok (.value c) w/\VRel φ (foundV z ok r) c:=by
  intro φ w ρ es ces r rk he hr hes
  obtain⟨xs,cx,fx,rx,tx,_⟩:=key_tyv (P:=X.P) hg hk rk
  have hck:=check_flat 40 kt sh hf 10000 (by omega) ces.isEmpty φ xs cx (ρ k) w fx rx tx
  obtain⟨r',hr1,hr2⟩:=findKey_run (P:=X.P) w hf hg hk rk es ces.toList r he hr
  obtain⟨cz,hcz,hrz⟩:=zero_rel (P:=X.P) (φ:=φ) w hz
  have hund:(underlying t).run X.P w=.ok (.map kt e) w:=by simp [underlying,ht]
  cases r with
  | none =>
   rw [show r'=none from hr2] at hr1
   refine⟨if ok then .tuple #[cz,.bool false] else cz,?_,?_⟩
   ·have hl:(Instr.lookup t (ρ m) (ρ k) ok).run X.P w=.ok (if ok then .tuple #[cz,.bool false] else cz) w:=by
     unfold Instr.lookup
     rw [Sem.run_bind,hund,Result.andThen_ok]
     rcases hes with ⟨em,rfl⟩ |⟨b,clock,em,hob⟩
     ·simp only [em,Sem.run_bind,Sem.run_pure,Result.andThen_ok,hck,hr1,hcz]
     ·simp only [em,Sem.run_bind,getObj_run hob (by simp),Sem.run_pure,Result.andThen_ok,hck,hr1,hcz]
    simp only [execOp,hop,Sem.run_bind,hl,Result.andThen_ok,Sem.run_pure]
   ·cases ok with
    | false=>exact hrz
    | true=>simp only [foundV,VRel,if_true];exact⟨_,rfl,VRels.two.2 ⟨_,_,rfl,hrz,by simp [VRel]⟩⟩
  | some iv =>
   obtain⟨i,v⟩:=iv
   obtain⟨c,rfl,hv,_⟩:=hr2
   refine⟨if ok then .tuple #[c,.bool true] else c,?_,?_⟩
   ·have hl:(Instr.lookup t (ρ m) (ρ k) ok).run X.P w=.ok (if ok then .tuple #[c,.bool true] else c) w:=by
     unfold Instr.lookup
     rw [Sem.run_bind,hund,Result.andThen_ok]
     rcases hes with ⟨em,rfl⟩ |⟨b,clock,em,hob⟩
     ·simp only [em,Sem.run_bind,Sem.run_pure,Result.andThen_ok,hck,hr1]
     ·simp only [em,Sem.run_bind,getObj_run hob (by simp),Sem.run_pure,Result.andThen_ok,hck,hr1]
    simp only [execOp,hop,Sem.run_bind,hl,Result.andThen_ok,Sem.run_pure]
   ·cases ok with
    | false=>exact hv
    | true=>simp only [foundV,VRel,if_true];exact⟨_,rfl,VRels.two.2 ⟨_,_,rfl,hv,by simp [VRel]⟩⟩
 rcases ifMap_iff.1 hx2 with ⟨rfl,hx3⟩ |⟨a,rfl,hx3⟩
 ·refine⟨foundV z ok none,fun n K=>?_,fun φ n w ρ hw _ hr=>?_⟩
  ·show guardB (keyOk sh g key) (foundK z ok none fun v=>K.v v h n)=_
   rw [hk,foundK_eq];rfl
  ·obtain⟨r1,r2⟩:=rel2 hr
   simp only [VRel] at r1
   exact fin (es:=[]) (ces:=#[]) r2 rfl rfl (.inl ⟨r1,rfl⟩)
 ·obtain⟨b,hb0,hx4⟩:=blkK_iff.1 hx3
  obtain⟨es,clock,rfl,hx5⟩:=ifMapB_iff.1 hx4
  cases hfe:findE sh g key es 0 with
  | none=>rw [hfe] at hx5;exact Bool.noConfusion (hx5:false=true)
  | some r =>
   refine⟨foundV z ok r,fun n K=>?_,fun φ n w ρ hw _ hr=>?_⟩
   ·show guardB (keyOk sh g key) (blkK h a fun b=>ifMapB b fun es _=>Option.casesOn (findE sh g key es 0) false fun r=>foundK z ok r fun v=>K.v v h n)=_
    rw [hk,blkK_eq _ hb0]
    show Option.casesOn (motive:=fun _=>Bool) (findE sh g key es 0) false (fun r=>foundK z ok r fun v=>K.v v h n)=_
    rw [hfe]
    exact foundK_eq z ok r _
   ·obtain⟨r1,r2⟩:=rel2 hr
    simp only [VRel] at r1
    obtain⟨p,hp,r1⟩:=r1
    obtain⟨ces,h1,h2,_⟩:=hw.map hp hb0
    exact fin r2 h2 hfe (.inr ⟨_,_,r1,h1⟩)
theorem bounds_le {lo hi mx:Bool} {vs:List AV} {len cap l b m:Nat} (hb:BoundsAre lo hi mx vs len cap l b m) (hmx:¬ (mx=true/\hi=false)) (hlc:len<=cap):l<=b/\b<=m/\m<=cap:=by
 obtain⟨_,_,_,_,h1,h2,h3⟩:=hb
 have hm:m<=cap:=by rcases h1 with ⟨_,_,rfl⟩ |⟨_,_,_,h⟩<;>omega
 have hbm:b<=m:=by
  rcases h2 with ⟨hf,_,rfl⟩ |⟨_,_,_,h⟩
  ·rcases h1 with ⟨_,_,rfl⟩ |⟨h',_⟩
   ·exact hlc
   ·exact absurd ⟨h',hf⟩ hmx
  ·omega
 exact⟨by rcases h3 with ⟨_,_,rfl⟩ |⟨_,_,_,h⟩<;>omega,hbm,hm⟩
theorem sliceSl_run {t e:TypeId} {s:Nat} {x:Operand} {lo hi mx:Option Operand} {ρ:Operand->Value} {w:World} {a:Option Addr} {l c l' b' m':Nat} (hop:o.op=.slice t x lo hi mx) (ht:X.P.underlying t=some (.slice e)) (hs:TI.size X.P e=some s)
  (hr:ρ x=.slice a l c) (hb:(Instr.sliceBounds true l c (lo.map ρ) (hi.map ρ) (mx.map ρ)).run X.P w=.ok (l',b',m') w) :
  (execOp ρ o).run X.P w=.ok (.value (.slice (if m'=l' then a else a.map (·.add (l'*s))) (b' - l') (m' - l'))) w:=by
 obtain⟨i',hi',hs'⟩:∃ i',X.P.info? e=some i'/\i'.size=s:=by simpa [TI.size] using hs
 simp [execOp,hop,Instr.sliceAt,Instr.slice,underlying,ht,hr,hb,sizeOf,typeInfo,hi',hs']
theorem sliceSl_read {t e:TypeId} {s:Nat} {x:Operand} {lo hi mx:Option Operand} (hop:o.op=.slice t x lo hi mx) (ht:X.P.underlying t=some (.slice e)) (hs:TI.size X.P e=some s) (hmx:¬ (mx.isSome=true/\hi.isSome=false))
  (hx:execV (.sliceSl s lo.isSome hi.isSome mx.isSome) vs h n K=true):∃ v,ReadTo X o (.sliceSl s lo.isSome hi.isSome mx.isSome) (x::(optL mx++optL hi++optL lo)) vs h v:=by
 obtain⟨x0,vs,rfl,hx1⟩:=consK_iff.1 (hx:List.casesOn (motive:=fun _=>Bool) vs false _=true)
 rcases ifSl_iff.1 hx1 with ⟨rfl,hx2⟩ |⟨a,q,l,c,rfl,hx2⟩ |⟨a,q,l,c,rfl,hx2⟩
 ·obtain⟨l',b',m',hb,hx3,hk⟩:=bounds3_val hx2
  obtain⟨g1,g2,g3⟩:=bounds_le hb hmx (Nat.le_refl _)
  refine⟨.nils,fun n K=>hk fun _ _ _=>K.v .nils h n,fun φ n w ρ hw _ hr=>⟨.slice none 0 0,?_,by simp [VRel]⟩⟩
  obtain⟨c0,r0,e0,r1,r2⟩:=VRels.cons_iff.1 hr
  simp only [List.map_cons,List.cons.injEq] at e0
  obtain⟨rfl,rfl⟩:=e0
  simp only [VRel] at r1
  have hrun:=sliceBounds_run (P:=X.P) (isSlice:=true) (capW:=0) (mW:=m') w r2 hb (fun hf=>⟨g3,by omega⟩) (fun hf=>⟨Nat.le_refl _,rfl⟩) (fun hf=>by cases hh:hi.isSome with|true=>rfl|false=>exact absurd ⟨hf,hh⟩ hmx)
  have:=sliceSl_run hop ht hs r1 hrun
  rw [this]
  have e1:m'=l':=by omega
  have e2:b' - l'=0:=by omega
  have e3:m' - l'=0:=by omega
  simp [e1,show b' - l'=0 from by omega]
 ·obtain⟨l',b',m',hb,hx3,hk⟩:=bounds3_val hx2
  refine⟨.slc a (if m'=l' then q else q+l'*s) (b' - l') (m' - l'),fun n K=>?_,fun φ n w ρ hw _ hr=>?_⟩
  ·show bounds3 lo.isSome hi.isSome mx.isSome vs l c (fun lo hi m=>movedK q lo m s fun o'=>force (Nat.sub hi lo) fun l'=>force (Nat.sub m lo) fun c'=>K.v (.slc a o' l' c') h n)=_
   rw [hk,movedK_eq,force_eq,force_eq];rfl
  ·obtain⟨c0,r0,e0,r1,r2⟩:=VRels.cons_iff.1 hr
   simp only [List.map_cons,List.cons.injEq] at e0
   obtain⟨rfl,rfl⟩:=e0
   simp only [VRel] at r1
   obtain⟨p,hp,r1,hlc⟩:=r1
   obtain⟨g1,g2,g3⟩:=bounds_le hb hmx hlc
   have hrun:=sliceBounds_run (P:=X.P) (isSlice:=true) (capW:=c) (mW:=m') w r2 hb (fun hf=>⟨g3,by
    obtain⟨_,_,_,_,h1,_⟩:=hb
    rcases h1 with ⟨_,_,rfl⟩ |⟨h',_⟩
    ·rfl
    ·rw [hf] at h';simp at h'⟩) (fun hf=>⟨Nat.le_refl _,rfl⟩) (fun hf=>by cases hh:hi.isSome with|true=>rfl|false=>exact absurd ⟨hf,hh⟩ hmx)
   have hrr:=sliceSl_run hop ht hs r1 hrun
   refine⟨_,hrr,?_⟩
   simp only [VRel]
   refine⟨p,hp,?_,by omega⟩
   by_cases e1:m'=l'
   ·simp [e1]
   ·simp [e1,addr_add];omega
 ·obtain⟨h1,hx3⟩:=guardB_iff.1 hx2
  obtain⟨h2,hx4⟩:=guardB_iff.1 hx3
  have he:c=s:=Nat.eq_of_beq_eq_true h1
  have hs0:0 < s:=by simpa [Nat.blt,Nat.lt_iff_add_one_le] using h2
  subst he
  obtain⟨cs,hrd,hx5,hreq⟩:=readable_val hx4
  rw [lenK_eq,force_eq,show (cs.length.sub q).div c=(cs.length - q) / c from rfl] at hx5
  have hpre:∀ n (K:KS),execV (.sliceSl c lo.isSome hi.isSome mx.isSome) (.gsl a q l c::vs) h n K=Bool.rec (motive:=fun _=>Bool)
    (bounds3 lo.isSome hi.isSome false vs l ((cs.length - q) / c) fun lo hi _=>Bool.rec (motive:=fun _=>Bool)
     (guardB (Nat.beq lo 0) (K.v (.gsl a q hi c) h n))
     (force (Nat.add q (Nat.mul lo c)) fun o'=>force (Nat.sub hi lo) fun l'=>K.v (.gsl a o' l' c) h n) (Nat.blt lo ((cs.length - q) / c)))
    (bounds3 lo.isSome hi.isSome true vs l ((cs.length - q) / c) fun lo hi m=>movedK q lo m c fun o'=>force (Nat.sub hi lo) fun l'=>force (Nat.sub m lo) fun c'=>K.v (.slc a o' l' c') h n) mx.isSome:=by
   intro n K
   show guardB (Nat.beq c c) (guardB (Nat.blt 0 c) (readable h a _))=_
   rw [h1,h2,hreq,lenK_eq,force_eq];rfl
  have hkn:∀ {φ:Phi} {w:World} {n:Nat} {p:Pl} {cp:Nat},W X φ h n w->φ a=some p->p.off+q+cp*c=p.size->(cs.length - q) / c<=cp:=by
   intro φ w n p cp hw hp hcp
   obtain⟨cc,e',fr,k1,k2,k3,k4⟩:=hw.read hp hrd
   have:(cs.length - q) / c*c<=cs.length - q:=Nat.div_mul_le_self _ _
   have h3:(cs.length - q) / c*c<=cp*c:=by omega
   exact Nat.le_of_mul_le_mul_right h3 hs0
  cases hmb:mx.isSome with
  | true =>
   rw [hmb] at hpre hx5
   obtain⟨l',b',m',hb,hx6,hk⟩:=bounds3_val (hx5:bounds3 lo.isSome hi.isSome true vs l ((cs.length - q) / c) _=true)
   refine⟨.slc a (if m'=l' then q else q+l'*c) (b' - l') (m' - l'),fun n K=>?_,fun φ n w ρ hw _ hr=>?_⟩
   ·rw [hpre]
    show bounds3 lo.isSome hi.isSome true vs l ((cs.length - q) / c) _=_
    rw [hk,movedK_eq,force_eq,force_eq];rfl
   ·obtain⟨c0,r0,e0,r1,r2⟩:=VRels.cons_iff.1 hr
    simp only [List.map_cons,List.cons.injEq] at e0
    obtain⟨rfl,rfl⟩:=e0
    simp only [VRel] at r1
    obtain⟨p,cp,hp,r1,hcp,hlc⟩ |⟨rfl,_⟩:=r1
    rotate_left
    ·omega
    have hkn':=hkn hw hp hcp
    have hhi:hi.isSome=true:=by cases hh:hi.isSome with|true=>rfl|false=>exact absurd ⟨hmb,hh⟩ hmx
    have hmk:l'<=b'/\b'<=m'/\m'<=(cs.length - q) / c:=by
     obtain⟨_,_,_,_,k1,k2,k3⟩:=hb
     rcases k1 with ⟨h',_⟩ |⟨_,_,_,k1⟩
     ·simp at h'
     ·rcases k2 with ⟨h',_⟩ |⟨_,_,_,k2⟩
      ·rw [hhi] at h';simp at h'
      ·exact⟨by rcases k3 with ⟨_,_,rfl⟩ |⟨_,_,_,k3⟩<;>omega,k2,k1⟩
    have hrun:=sliceBounds_run (P:=X.P) (isSlice:=true) (capW:=cp) (mW:=m') (lo:=lo) (hi:=hi) (mx:=mx) (cap:=(cs.length - q) / c) w r2 (by rw [hmb];exact hb) (fun hf=>by rw [hmb] at hf;simp at hf) (fun hf=>⟨hkn',rfl⟩) (fun _=>hhi)
    have hrr:=sliceSl_run hop ht hs r1 hrun
    refine⟨_,hrr,?_⟩
    simp only [VRel]
    refine⟨p,hp,?_,by omega⟩
    by_cases e1:m'=l'
    ·simp [e1]
    ·simp [e1,addr_add];omega
  | false =>
   rw [hmb] at hpre hx5
   obtain⟨l',b',m',hb,hx6,hk⟩:=bounds3_val (hx5:bounds3 lo.isSome hi.isSome false vs l ((cs.length - q) / c) _=true)
   have hm':m'=(cs.length - q) / c:=by
    obtain⟨_,_,_,_,k1,_⟩:=hb
    rcases k1 with ⟨_,_,k1⟩ |⟨h',_⟩
    ·exact k1
    ·simp at h'
   have hrunW:∀ {φ:Phi} {w:World} {ρ:Operand->Value} {p:Pl} {cp:Nat},VRels φ vs ((optL mx++optL hi++optL lo).map ρ)->(cs.length - q) / c<=cp->(Instr.sliceBounds true l cp (lo.map ρ) (hi.map ρ) (mx.map ρ)).run X.P w=.ok (l',b',cp) w:=by
    intro φ w ρ p cp r2 hkn'
    exact sliceBounds_run (P:=X.P) (isSlice:=true) (capW:=cp) (mW:=cp) (lo:=lo) (hi:=hi) (mx:=mx) (cap:=(cs.length - q) / c) w r2 (by rw [hmb];exact hb) (fun hf=>⟨by omega,rfl⟩) (fun hf=>by rw [hmb] at hf;simp at hf) (fun hf=>by rw [hmb] at hf;simp at hf)
   cases hbl:Nat.blt l' ((cs.length - q) / c) with
   | true =>
    have hlt:l' <(cs.length - q) / c:=by simpa [Nat.blt,Nat.lt_iff_add_one_le] using hbl
    refine⟨.gsl a (q+l'*c) (b' - l') c,fun n K=>?_,fun φ n w ρ hw _ hr=>?_⟩
    ·rw [hpre]
     show bounds3 lo.isSome hi.isSome false vs l ((cs.length - q) / c) _=_
     rw [hk,hbl]
     show force (Nat.add q (Nat.mul l' c)) (fun o'=>force (Nat.sub b' l') fun l'=>K.v (.gsl a o' l' c) h n)=_
     rw [force_eq,force_eq];rfl
    ·obtain⟨c0,r0,e0,r1,r2⟩:=VRels.cons_iff.1 hr
     simp only [List.map_cons,List.cons.injEq] at e0
     obtain⟨rfl,rfl⟩:=e0
     simp only [VRel] at r1
     obtain⟨p,cp,hp,r1,hcp,hlc⟩ |⟨rfl,_⟩:=r1
     rotate_left
     ·omega
     have hkn':=hkn hw hp hcp
     have hbc:b'<=cp:=by
      obtain⟨_,_,_,_,_,k2,_⟩:=hb
      rcases k2 with ⟨_,_,rfl⟩ |⟨_,_,_,k2⟩<;>omega
     have hrr:=sliceSl_run (w:=w) hop ht hs r1 (hrunW (p:=p) r2 hkn')
     refine⟨_,hrr,?_⟩
     simp only [VRel]
     have hne:cp≠l':=by omega
     refine .inl ⟨p,cp - l',hp,by simp [hne,addr_add];omega,?_,by omega⟩
     rw [Nat.sub_mul]
     have:l'*c<=cp*c:=Nat.mul_le_mul_right _ (by omega)
     omega
   | false =>
    rw [hbl] at hx6
    obtain⟨hz,hx7⟩:=guardB_iff.1 (hx6:guardB (Nat.beq l' 0) _=true)
    have hl0:l'=0:=Nat.eq_of_beq_eq_true hz
    subst hl0
    refine⟨.gsl a q b' c,fun n K=>?_,fun φ n w ρ hw _ hr=>?_⟩
    ·rw [hpre]
     show bounds3 lo.isSome hi.isSome false vs l ((cs.length - q) / c) _=_
     rw [hk,hbl]
     rfl
    ·obtain⟨c0,r0,e0,r1,r2⟩:=VRels.cons_iff.1 hr
     simp only [List.map_cons,List.cons.injEq] at e0
     obtain⟨rfl,rfl⟩:=e0
     simp only [VRel] at r1
     obtain⟨p,cp,hp,r1,hcp,hlc⟩ |⟨rfl,_⟩:=r1
     rotate_left
     ·omega
     have hkn':=hkn hw hp hcp
     have hbc:b'<=cp:=by
      obtain⟨_,_,_,_,_,k2,_⟩:=hb
      rcases k2 with ⟨_,_,rfl⟩ |⟨_,_,_,k2⟩<;>omega
     have hrr:=sliceSl_run (w:=w) hop ht hs r1 (hrunW (p:=p) r2 hkn')
     refine⟨_,hrr,?_⟩
     simp only [VRel]
     refine .inl ⟨p,cp,hp,?_,hcp,hbc⟩
     by_cases e1:cp=0
     ·simp [e1]
     ·simp [e1,addr_add]
theorem ERel.get {φ:Phi}:∀ {es:List (AV × AV × Nat)} {ces:List MapEntry},ERel φ es ces->∀ {i:Nat} {e:AV × AV × Nat},es[i]?=some e->∃ ce,ces[i]?=some ce/\VRel φ e.1 ce.key/\VRel φ e.2.1 ce.val/\ce.born=e.2.2
 | [],_,r,i,e,he=>by simp at he
 | x::es,ces,r,i,e,he=>by
  obtain⟨ce,ces',rfl,h1,h2,h3,h4⟩:=r
  cases i with
  | zero=>simp at he;subst he;exact⟨ce,rfl,h1,h2,h3⟩
  | succ i=>simpa using ERel.get h4 (by simpa using he)
theorem ERel.find {φ:Phi} (f:Nat->Bool):∀ {es:List (AV × AV × Nat)} {ces:List MapEntry},ERel φ es ces->∀ {e:AV × AV × Nat},(es.find? fun e=>f e.2.2)=some e->∃ ce,(ces.find? fun e=>f e.born)=some ce/\VRel φ e.1 ce.key/\VRel φ e.2.1 ce.val
 | [],_,r,e,he=>by simp at he
 | x::es,ces,r,e,he=>by
  obtain⟨ce,ces',rfl,h1,h2,h3,h4⟩:=r
  rw [List.find?_cons] at he ⊢
  rw [h3]
  cases hf:f x.2.2 with
  | true=>rw [hf] at he;simp at he;subst he;exact⟨ce,rfl,h1,h2⟩
  | false=>rw [hf] at he;exact ERel.find f h4 he
theorem entry_read {x:Operand} (hop:o.op=.entry x) (hx:execV .entry vs h n K=true):∃ v,ReadTo X o .entry [x] vs h v:=by
 have blk_eq:∀ {a b} (k:AB->Bool),hb h a=some b->blkK h a k=k b:=fun {a b} k e=>by
  rw [Bool.eq_iff_iff,blkK_iff,e];simp
 obtain⟨v,rfl,hx1⟩:=un1_iff.1 (hx:un1 _ vs=true)
 obtain⟨a,q,rfl,hx2⟩:=ifPtr_iff.1 hx1
 obtain⟨hq,hx3⟩:=guardB_iff.1 hx2
 obtain rfl:q=0:=Nat.eq_of_beq_eq_true hq
 obtain⟨b,hb0,hx4⟩:=blkK_iff.1 hx3
 obtain⟨mm,since,seen,last,rfl,hx5⟩:=ifMiter_iff.1 hx4
 cases mm with
 | none=>exact Bool.noConfusion (hx5:false=true)
 | some m =>
  obtain⟨bm,hbm,hx6⟩:=blkK_iff.1 (hx5:blkK h m _=true)
  obtain⟨es,clock,rfl,hx7⟩:=ifMapB_iff.1 hx6
  obtain⟨hcl,hx8⟩:=guardB_iff.1 hx7
  cases hst:seen.getLast? with
  | none=>rw [hst] at hx8;exact Bool.noConfusion (hx8:false=true)
  | some stamp =>
   rw [hst] at hx8
   cases hfd:es.find? fun e=>Nat.beq e.2.2 stamp with
   | none =>
    have hx9:(Option.casesOn (motive:=fun _=>Bool) (es.find? fun e=>Nat.beq e.2.2 stamp) false fun e=>K.v (.tup [e.1,e.2.1]) h n)=true:=hx8
    rw [hfd] at hx9;exact Bool.noConfusion (hx9:false=true)
   | some e =>
    refine⟨.tup [e.1,e.2.1],fun n K=>?_,fun φ n w ρ hw _ hr=>?_⟩
    ·show (blkK h a fun b=>ifMiter b fun m _ seen stepped=>Option.casesOn (motive:=fun _=>Bool) m false fun m=>blkK h m fun b=>ifMapB b fun es clock=>guardB (Nat.beq clock stepped)
      (Option.casesOn (motive:=fun _=>Bool) seen.getLast? false fun stamp=>Option.casesOn (motive:=fun _=>Bool) (es.find? fun e=>Nat.beq e.2.2 stamp) false fun e=>K.v (.tup [e.1,e.2.1]) h n))=_
     rw [blk_eq _ hb0]
     show (blkK h m fun b=>ifMapB b fun es clock=>guardB (Nat.beq clock last) (Option.casesOn (motive:=fun _=>Bool) seen.getLast? false fun stamp=>Option.casesOn (motive:=fun _=>Bool) (es.find? fun e=>Nat.beq e.2.2 stamp) false fun e=>K.v (.tup [e.1,e.2.1]) h n))=_
     rw [blk_eq _ hbm]
     show guardB (Nat.beq clock last) (Option.casesOn (motive:=fun _=>Bool) seen.getLast? false fun stamp=>Option.casesOn (motive:=fun _=>Bool) (es.find? fun e=>Nat.beq e.2.2 stamp) false fun e=>K.v (.tup [e.1,e.2.1]) h n)=_
     rw [hcl,hst]
     show (Option.casesOn (motive:=fun _=>Bool) (es.find? fun e=>Nat.beq e.2.2 stamp) false fun e=>K.v (.tup [e.1,e.2.1]) h n)=_
     rw [hfd]
    ·have r:=rel1 hr
     simp only [VRel] at r
     obtain⟨p,ha,hp⟩:=r
     obtain⟨_,b',ob,hb1,hob,hbr⟩:=hw.dom a p ha
     rw [hb0] at hb1;simp at hb1;subst hb1
     obtain⟨m',rfl,⟨hH,hp0⟩,hm⟩:=hbr
     rcases hm with ⟨e1,_⟩ |⟨m2,pm,e1,hma,rfl⟩
     ·simp at e1
     ·simp at e1;subst e1
      obtain⟨ces,hmo,her,_⟩:=hw.map hma hbm
      have hgi:=getObj_run (P:=X.P) hob (by simp)
      have hgm:=getObj_run (P:=X.P) hmo (by simp)
      have hcl':clock=last:=Nat.eq_of_beq_eq_true hcl
      subst hcl'
      obtain⟨ce,h1,h2,h3⟩:=her.find (fun b=>Nat.beq b stamp) hfd
      have hback:seen.toArray.back?=some stamp:=by simp [hst]
      have hfind:ces.find? (fun e=>e.born == stamp)=some ce:=by
       rw [<- Array.find?_toList]
       have:(fun e:MapEntry=>e.born == stamp)=fun e=>Nat.beq e.born stamp:=by
        funext e
        rw [Bool.eq_iff_iff]
        simp
       rw [this];exact h1
      refine⟨.tuple #[ce.key,ce.val],?_,by simp only [VRel];exact⟨_,rfl,VRels.cons h2 (VRels.cons h3 VRels.nil)⟩⟩
      rw [hp0] at hp
      simp only [execOp,hop,Instr.entry,hp,Sem.run_bind,hgi,hgm,Result.andThen_ok,Nat.add_zero,hback,Sem.run_pure]
      simp [hfind]
theorem read_sim {oc:OC} {xs:List Operand} (hc:compOp X.P X.N o=some (oc,xs)) (hq:quiet oc=.read) (hx:execV oc vs h n K=true):∃ v,ReadTo X o oc xs vs h v:=by
 have his:=compOp_is hc
 generalize hop:o.op=op at his
 cases his<;>simp [quiet] at hq
 case loadA hg hs=>exact loadA_read hop hg hs hx
 case loadC hg=>exact loadC_read hop hg hx
 case convBS hs ht he=>exact convBS_read hop hs ht he hx
 case sliceSl ht hs hm=>exact sliceSl_read hop ht hs hm hx
 case lookup ht hz hf hg=>exact lookup_read hop ht hz hf hg hx
 case lenMap hc' ha hat ht=>exact lenMap_read hop hc' ha hat ht hx
 case entry=>exact entry_read hop hx
end
end Go.Ev
