/- Contracts: strings.IndexByte, Index, Count, Split; primpatch.isName, isPath. -/
import Derived.Test.YtognadjclbihgaaGreatDoorE6
import Derived.Test.YtognadjclbihgaaGreatDoorFE1
import Derived.Test.YtognadjclbihgaaGreatDoorE7
import Derived.Test.YtognadjclbihgaaGreatDoorKCodeA
import Derived.Test.YtognadjclbihgaaGreatDoorKEnv
set_option linter.all false
namespace Go.Ev
set_option maxRecDepth 100000
set_option maxHeartbeats 4000000
def posOf (c:UInt8):List UInt8->Option Nat
 | []=>none
 | x::xs=>if x=c then some 0 else (posOf c xs).map (·+1)
def posI (o:Option Nat):Int:=match o with|some p=>(p:Int)|none=>-1
theorem indexB_pos (c:UInt8):∀ (bs:List UInt8) (i:Nat),indexB c.toNat bs i=(match posOf c bs with|some p=>((p+i:Nat):Int)|none=>-1)
 | [],i=>rfl
 | x::xs,i=>by
  have ih:=indexB_pos c xs (i+1)
  have ex:Nat.beq x.toNat c.toNat=decide (x=c):=by
   by_cases h:x=c
   ·subst h;simp
   ·have:x.toNat≠c.toNat:=fun e=>h (UInt8.toNat_inj.1 e)
    rw [decide_eq_false h]
    cases hq:Nat.beq x.toNat c.toNat with
    | false=>rfl
    | true=>exact absurd (Nat.eq_of_beq_eq_true hq) this
  simp only [indexB,posOf,ex]
  by_cases h:x=c
  ·simp [h]
  ·simp only [h,decide_false]
   rw [if_neg (by simp),if_neg (by simp),ih]
   cases posOf c xs with
   | none=>rfl
   | some p=>simp only [Option.map_some];congr 1;omega
theorem indexB_zero (c:UInt8) (bs:List UInt8):indexB c.toNat bs 0=posI (posOf c bs):=by
 rw [indexB_pos]
 cases posOf c bs<;>rfl
theorem posOf_lt {c:UInt8}:∀ {bs:List UInt8} {p:Nat},posOf c bs=some p->p < bs.length
 | [],p,h=>by simp [posOf] at h
 | x::xs,p,h=>by
  simp only [posOf] at h
  split at h
  ·simp at h;subst h;simp
  ·simp only [Option.map_eq_some_iff] at h
   obtain⟨q,hq,rfl⟩:=h
   have:=posOf_lt hq
   simp;omega
theorem posOf_none {c:UInt8}:∀ {bs:List UInt8},posOf c bs=none->∀ x ∈ bs,x≠c
 | [],_,x,hx=>by simp at hx
 | y::ys,h,x,hx=>by
  simp only [posOf] at h
  split at h
  ·simp at h
  ·rename_i hne
   simp only [Option.map_eq_none_iff] at h
   rcases List.mem_cons.1 hx with rfl|hx
   ·exact hne
   ·exact posOf_none h x hx
theorem countB_pos {c:UInt8}:∀ {bs:List UInt8} {p:Nat},posOf c bs=some p->countB c.toNat bs=1+countB c.toNat (bs.drop (p+1))
 | [],p,h=>by simp [posOf] at h
 | x::xs,p,h=>by
  simp only [posOf] at h
  split at h
  ·rename_i he
   simp at h;subst h
   subst he
   simp [countB]
  ·rename_i hne
   simp only [Option.map_eq_some_iff] at h
   obtain⟨q,hq,rfl⟩:=h
   have ih:=countB_pos hq
   have ex:Nat.beq x.toNat c.toNat=false:=by
    cases hq:Nat.beq x.toNat c.toNat with
    | false=>rfl
    | true=>exact absurd (UInt8.toNat_inj.1 (Nat.eq_of_beq_eq_true hq)) hne
   simp only [countB,ex,List.drop_succ_cons]
   rw [if_neg (by simp),Nat.zero_add];exact ih
theorem countB_none {c:UInt8}:∀ {bs:List UInt8},posOf c bs=none->countB c.toNat bs=0
 | [],_=>rfl
 | x::xs,h=>by
  simp only [posOf] at h
  split at h
  ·simp at h
  ·rename_i hne
   simp only [Option.map_eq_none_iff] at h
   have ih:=countB_none h
   have ex:Nat.beq x.toNat c.toNat=false:=by
    cases hq:Nat.beq x.toNat c.toNat with
    | false=>rfl
    | true=>exact absurd (UInt8.toNat_inj.1 (Nat.eq_of_beq_eq_true hq)) hne
   simp only [countB,ex]
   rw [if_neg (by simp),Nat.zero_add];exact ih
theorem countB_le (b:Nat):∀ bs:List UInt8,countB b bs<=bs.length
 | []=>Nat.le_refl _
 | x::xs=>by
  have:=countB_le b xs
  simp only [countB,List.length_cons]
  split<;>omega
theorem segs_some:∀ {bs:List UInt8} {p:Nat} (cur:List UInt8),posOf 47 bs=some p->segs cur bs=(cur++bs.take p)::segs [] (bs.drop (p+1))
 | [],p,cur,h=>by simp [posOf] at h
 | x::xs,p,cur,h=>by
  simp only [posOf] at h
  split at h
  ·rename_i he
   simp at h;subst h
   simp [segs,he]
  ·rename_i hne
   simp only [Option.map_eq_some_iff] at h
   obtain⟨q,hq,rfl⟩:=h
   have ih:=segs_some (cur++[x]) hq
   simp only [segs,if_neg hne,ih,List.take_succ_cons,List.drop_succ_cons]
   simp
theorem segs_none:∀ {bs:List UInt8} (cur:List UInt8),posOf 47 bs=none->segs cur bs=[cur++bs]
 | [],cur,_=>by simp [segs]
 | x::xs,cur,h=>by
  simp only [posOf] at h
  split at h
  ·simp at h
  ·rename_i hne
   simp only [Option.map_eq_none_iff] at h
   have ih:=segs_none (cur++[x]) h
   simp only [segs,if_neg hne,ih]
   simp
theorem segs_mem:∀ (bs cur s:List UInt8),s ∈ segs cur bs->s.length<=cur.length+bs.length
 | [],cur,s,h=>by simp [segs] at h;subst h;simp
 | x::xs,cur,s,h=>by
  simp only [segs] at h
  split at h
  ·rcases List.mem_cons.1 h with rfl|h
   ·omega
   ·have:=segs_mem xs [] s h
    simp at this ⊢;omega
  ·have:=segs_mem xs (cur++[x]) s h
   simp at this ⊢;omega
section
variable {E:Env} {Q:Post} {fn:Fr} {md:Md} {R:List (Path × AV)} {todo:List AItem} {cs:List AF} {h h' h0:Hp} {n n' n0:Nat} {os:List COp} {k k':IntKind} {p:Path} {g:Option (Path × Bool)} {X Y Z:CX} {a o:Nat} {u v:AV} {x y:Int} {bs:List UInt8}
theorem SO.indexByte (c:UInt8) (hg:wantB R g=true) (hd:Nat.beq p.len depth=true) (h1:lookX R X=some (strOf bs)) (h2:lookX R Y=some (.int .u8 (c.toNat:Int))) (hw:SO E Q fn md ((p,.int .i64 (posI (posOf c bs)))::R) os todo cs h n):SO E Q fn md R (⟨some p,g,[X,Y],.ext .indexByteStr⟩::os) todo cs h n :=
 SO.val hg hd (two h1 h2) (fun K=>by
  show guardB (isU8 .u8) (guardB (Nat.blt c.toNat 256) (forceI (indexB c.toNat (bytesOf bs.length (codeL bs)) 0) fun r=>K.v (.int .i64 r) h n))=_
  have hc:=c.toNat_lt
  rw [show isU8 .u8=true from rfl,show Nat.blt c.toNat 256=true by simp [Nat.blt];omega,guardT,guardT,forceI_eq,bytesOf_codeL,indexB_zero]) hw
theorem SO.countStr (c:UInt8) (hg:wantB R g=true) (hd:Nat.beq p.len depth=true) (h1:lookX R X=some (strOf bs)) (h2:lookX R Y=some (.int .u8 (c.toNat:Int))) (hw:SO E Q fn md ((p,.int .i64 (countB c.toNat bs:Int))::R) os todo cs h n):SO E Q fn md R (⟨some p,g,[X,Y],.ext .countStr⟩::os) todo cs h n :=
 SO.val hg hd (two h1 h2) (fun K=>by
  show guardB (isU8 .u8) (guardB (Nat.blt c.toNat 256) (force (countB c.toNat (bytesOf bs.length (codeL bs))) fun r=>K.v (.int .i64 (.ofNat r)) h n))=_
  have hc:=c.toNat_lt
  rw [show isU8 .u8=true from rfl,show Nat.blt c.toNat 256=true by simp [Nat.blt];omega,guardT,guardT,force_eq,bytesOf_codeL];rfl) hw
theorem SO.sliceFTa (j:Nat) (hg:wantB R g=true) (hd:Nat.beq p.len depth=true) (h1:lookX R X=some (strOf bs)) (h2:lookX R Y=some (.int k y)) (hy:y=(j:Int)) (hj:j<=bs.length) (hw:SO E Q fn md ((p,strOf (bs.take j))::R) os todo cs h n):SO E Q fn md R (⟨some p,g,[X,Y],.sliceStr false true⟩::os) todo cs h n:=by
 subst hy
 exact SO.sliceFT hg hd h1 h2 hj hw
theorem SO.sliceTFa (i:Nat) (hg:wantB R g=true) (hd:Nat.beq p.len depth=true) (h1:lookX R X=some (strOf bs)) (h2:lookX R Y=some (.int k y)) (hy:y=(i:Int)) (hi:i<=bs.length) (hw:SO E Q fn md ((p,strOf (bs.drop i))::R) os todo cs h n):SO E Q fn md R (⟨some p,g,[X,Y],.sliceStr true false⟩::os) todo cs h n:=by
 subst hy
 exact SO.sliceTF hg hd h1 h2 hi hw
theorem SO.minI {z:Int} (hg:wantB R g=true) (hd:Nat.beq p.len depth=true) (h1:lookX R X=some (.int k x)) (h2:lookX R Y=some (.int k y)) (hz:(if y < x then y else x)=z) (hw:SO E Q fn md ((p,.int k z)::R) os todo cs h n):SO E Q fn md R (⟨some p,g,[X,Y],.minInt⟩::os) todo cs h n :=
 SO.val hg hd (two h1 h2) (fun K=>by
  show exMin _ h n K=_
  unfold exMin
  rw [ints_two,forceI_eq,hz]) hw
theorem SO.maxI {z:Int} (hg:wantB R g=true) (hd:Nat.beq p.len depth=true) (h1:lookX R X=some (.int k x)) (h2:lookX R Y=some (.int k y)) (hz:(if y > x then y else x)=z) (hw:SO E Q fn md ((p,.int k z)::R) os todo cs h n):SO E Q fn md R (⟨some p,g,[X,Y],.maxInt⟩::os) todo cs h n :=
 SO.val hg hd (two h1 h2) (fun K=>by
  show exMax _ h n K=_
  unfold exMax
  rw [ints_two,forceI_eq,hz]) hw
theorem SO.mkSlice {e:TypeId} {z:List AV} {bytes:Nat} (l:Nat) (hg:wantB R g=true) (hd:Nat.beq p.len depth=true) (h1:lookX R X=some (.int k x)) (hx:x=(l:Int)) (hb1:l*bytes<=1073741824) (hb2:l<=1073741824)
  (hw:∀ h1,hb h1 n=some (.cell (rep z l) e false)->Gr h n h1 (n+1)->SO E Q fn md ((p,.slc n 0 l l)::R) os todo cs h1 (n+1)):SO E Q fn md R (⟨some p,g,[X,X],.mkSlice e z bytes⟩::os) todo cs h n:=by
 subst hx
 refine SO.val hg hd (two h1 h1) (fun K=>?_) (hw _ (hb_self _ _ _) ((Gr.refl h n).new _))
 show guardB (Nat.ble l l) (guardB (Nat.ble (Nat.mul l bytes) 1073741824) (guardB (Nat.ble l 1073741824) (repK z l fun cs=>newK (.cell cs e false) h n fun a h n=>K.v (.slc a 0 l l) h n)))=_
 rw [Nat.ble_eq_true_of_le (Nat.le_refl l),Nat.ble_eq_true_of_le (show Nat.mul l bytes<=1073741824 from hb1),Nat.ble_eq_true_of_le hb2,guardT,guardT,guardT,repK_eq,new_at]
end
theorem own_ge8 {h:Hp} {n0 n esz:Nat} {e:TypeId} {v:AV} {fo:Option Nat} {cells:List AV} (ho:Own h n0 n esz e v fo cells) {f:Nat} (hf:fo=some f):n0<=f:=by
 rcases ho with ⟨_,_,h1⟩ |⟨_,_,_,_,_,_,_,_,h1⟩ |⟨a,g,lo,l,_,_,_,_,h4,_,_,h7,_,h1⟩
 ·rw [h1] at hf;simp at hf
 ·rw [h1] at hf;simp at hf
 ·rw [h1] at hf;simp at hf;omega
theorem own_plain8 {h:Hp} {n0 n esz:Nat} {e:TypeId} {v:AV} {fo:Option Nat} {cells:List AV} (ho:Own h n0 n esz e v fo cells):v.cells=[v]/\∀ us,v≠.tup us:=by
 rcases ho with ⟨rfl,_⟩ |⟨_,_,_,rfl,_⟩ |⟨_,_,_,_,rfl,_⟩<;>exact⟨rfl,fun us=>by simp⟩
theorem flat_map8:∀ ds:List UInt8,(ds.map fun b=>AV.int .u8 (b.toNat:Int))=ds.flatMap byteC
 | []=>rfl
 | c::ds=>by rw [List.flatMap_cons,<- flat_map8 ds];rfl
theorem byteC_len8 (ds:List UInt8):(ds.flatMap byteC).length=ds.length:=by rw [flatMap_length (esz:=1) (fun _=>rfl)];omega
theorem rep_len8 {α:Type} (x:α):∀ l,(rep [x] l).length=l
 | 0=>rfl
 | l+1=>by simp [rep,rep_len8 x l]
theorem indexByte282 {h:Hp} {n:Nat} (bs:List UInt8) (c:UInt8):Fn E 310 [strOf bs,.int .u8 (c.toNat:Int)] h n fun r h' n'=>r=.int .i64 (posI (posOf c bs))/\h'=h/\n'=n:=by
 refine Fn.of code310 (by decide) rfl fun Q cs hq=>?_
 show SW E Q 310 [(r0,strOf bs),(r1,.int .u8 (c.toNat:Int))] _ _ _ _
 repeat' first|refine SO.indexByte c rfl rfl rfl rfl ?_|refine SW.a rfl ?_|refine SW.reg ?_|refine SO.nil ?_|refine SO.a rfl ?_
 exact SW.ret code310 ⟨_,rfl,hq _ _ _ ⟨rfl,rfl,rfl⟩⟩
theorem indexByte198 {h:Hp} {n:Nat} (bs:List UInt8) (c:UInt8):Fn E 220 [strOf bs,.int .u8 (c.toNat:Int)] h n fun r h' n'=>r=.int .i64 (posI (posOf c bs))/\h'=h/\n'=n:=by
 refine Fn.of code220 (by decide) rfl fun Q cs hq=>?_
 show SW E Q 220 [(r0,strOf bs),(r1,.int .u8 (c.toNat:Int))] _ _ _ _
 repeat' first|refine SW.a rfl ?_|refine SW.reg ?_|refine SO.nil ?_|refine SO.a rfl ?_
 refine SO.callG rfl rfl rfl (indexByte282 bs c) ?_
 rintro _ h' n' ⟨rfl,rfl,rfl⟩
 repeat' first|refine SO.nil ?_|refine SO.a rfl ?_
 exact SW.ret code220 ⟨_,rfl,hq _ _ _ ⟨rfl,rfl,rfl⟩⟩
theorem index267 {h:Hp} {n:Nat} (bs:List UInt8) (c:UInt8):Fn E 295 [strOf bs,strOf [c]] h n fun r h' n'=>r=.int .i64 (posI (posOf c bs))/\h'=h/\n'=n:=by
 refine Fn.of code295 (by decide) rfl fun Q cs hq=>?_
 show SW E Q 295 [(r0,strOf bs),(r1,strOf [c])] _ _ _ _
 have hlen:([c]:List UInt8).length=1:=rfl
 repeat' first|refine SO.strEq rfl rfl rfl rfl (fun he=>?_) (fun hne=>?_)|refine SW.a rfl ?_|refine SW.reg ?_|refine SO.nil ?_|refine SO.a rfl ?_|refine SO.cT rfl (by omega) ?_|refine SO.cF rfl (by omega) ?_|fail
 ·refine SW.ret code295 ⟨_,rfl,hq _ _ _ ⟨?_,rfl,rfl⟩⟩
  rw [<- he]
  simp [posOf,posI,packA]
 ·refine SO.idxStrAt 0 rfl rfl rfl rfl (by omega) (by simp) ?_
  refine SO.callG rfl rfl rfl (indexByte282 bs c) ?_
  rintro _ h' n' ⟨rfl,rfl,rfl⟩
  repeat' first|refine SO.nil ?_|refine SO.a rfl ?_
  exact SW.ret code295 ⟨_,rfl,hq _ _ _ ⟨rfl,rfl,rfl⟩⟩
theorem index185 {h:Hp} {n:Nat} (bs:List UInt8) (c:UInt8):Fn E 207 [strOf bs,strOf [c]] h n fun r h' n'=>r=.int .i64 (posI (posOf c bs))/\h'=h/\n'=n:=by
 refine Fn.of code207 (by decide) rfl fun Q cs hq=>?_
 show SW E Q 207 [(r0,strOf bs),(r1,strOf [c])] _ _ _ _
 repeat' first|refine SW.a rfl ?_|refine SW.reg ?_|refine SO.nil ?_|refine SO.a rfl ?_
 refine SO.callG rfl rfl rfl (index267 bs c) ?_
 rintro _ h' n' ⟨rfl,rfl,rfl⟩
 repeat' first|refine SO.nil ?_|refine SO.a rfl ?_
 exact SW.ret code207 ⟨_,rfl,hq _ _ _ ⟨rfl,rfl,rfl⟩⟩
theorem count476 {h:Hp} {n:Nat} (bs:List UInt8) (c:UInt8):Fn E 508 [strOf bs,strOf [c]] h n fun r h' n'=>r=.int .i64 (countB c.toNat bs:Int)/\h'=h/\n'=n:=by
 refine Fn.of code508 (by decide) rfl fun Q cs hq=>?_
 show SW E Q 508 [(r0,strOf bs),(r1,strOf [c])] _ _ _ _
 have hlen:([c]:List UInt8).length=1:=rfl
 repeat' first|refine SO.idxStrAt 0 rfl rfl rfl rfl (by omega) (by simp) ?_|refine SO.countStr c rfl rfl rfl rfl ?_|refine SW.a rfl ?_|refine SW.reg ?_|refine SO.nil ?_|refine SO.a rfl ?_|refine SO.cT rfl (by omega) ?_|refine SO.cF rfl (by omega) ?_|fail
 exact SW.ret code508 ⟨_,rfl,hq _ _ _ ⟨rfl,rfl,rfl⟩⟩
theorem splice_step {us:List AV} {i:Nat} (x:AV) (hi:i < us.length):(splice (0+i*1) [x] us).length=us.length/\(splice (0+i*1) [x] us).take (i+1)=us.take i++[x]:=by
 have e:0+i*1=i:=by omega
 rw [e]
 constructor
 ·simp [splice];omega
 ·rw [splice,<- List.append_assoc,List.take_append_of_le_length (by simp;omega),List.take_of_length_le (by simp;omega)]
theorem genSplit371 {h:Hp} {n:Nat} (bs:List UInt8) (hl:bs.length<=100000):Fn E 399 [strOf bs,strOf [47],.int .i64 0,.int .i64 (-1)] h n fun r h' n'=>Sl h' n' 1 r (segs [] bs).length ((segs [] bs).flatMap strC)/\Gr h n h' n':=by
 refine Fn.of code399 (by decide) rfl fun Q cs hq=>?_
 show SW E Q 399 [(r0,strOf bs),(r1,strOf [47]),(r2,.int .i64 0),(r3,.int .i64 (-1))] _ _ _ _
 have hlen:([47]:List UInt8).length=1:=rfl
 repeat' first|refine SO.strEq rfl rfl rfl rfl (fun he=>absurd he (by simp)) (fun _=>?_)|refine SW.a rfl ?_|refine SW.reg ?_|refine SO.nil ?_|refine SO.a rfl ?_|refine SO.cT rfl (by omega) ?_|refine SO.cF rfl (by omega) ?_|fail
 refine SO.callG rfl rfl rfl (count476 bs 47) ?_
 rintro _ h' n' ⟨rfl,rfl,rfl⟩
 have hcl:=countB_le (47:UInt8).toNat bs
 generalize hN:countB (47:UInt8).toNat bs=N at *
 repeat' first|refine SO.minI (z:=(N:Int)+1) rfl rfl rfl rfl (if_neg (by omega)) ?_|refine SO.mkSlice (N+1) rfl rfl rfl (by omega) (by omega) (by omega) (fun h1 hc1 hE1=>?_)|refine SW.a rfl ?_|refine SW.reg ?_|refine SO.nil ?_|refine SO.a rfl ?_|refine SO.add rfl rfl rfl rfl (by omega) ?_|refine SO.sub rfl rfl rfl rfl (by omega) ?_|fail
 have hrl:=rep_len8 (strOf []) (N+1)
 have loop:∀ (k i:Nat) (rest:List UInt8) (ds:List (List UInt8)) (g:Hp) (us:List AV),i+k=N->countB (47:UInt8).toNat rest=k->segs [] bs=ds++segs [] rest->ds.length=i->rest.length<=100000->hb g n'=some (.cell us 9 false)->us.length=N+1->us.take i=ds.flatMap strC->Gr h' n' g (n'+1) ->
   ∀ R,look R r0=some (strOf rest)->look R r1=some (strOf [47])->look R r2=some (.int .i64 0)->look R r3=some (.int .i64 (N:Int))->look R r9=some (.slc n' 0 (N+1) (N+1))->look R r10=some (.int .i64 (i:Int))->SW E Q 399 R [.code c399x17,.inLoop c399x17,.inBlock 0,.code (.seq (.reg c399x18) (.seq (.reg c399x19) .ret))] cs g (n'+1):=by
  intro k
  induction k with
  | zero =>
   intro i rest ds g us hi hc hsg hdl hrl hb0 hul htk hE R q0 q1 q2 q3 q9 q10
   have hnone:posOf 47 rest=none:=by
    cases hp:posOf 47 rest with
    | none=>rfl
    | some p=>have:=countB_pos hp;omega
   rw [segs_none [] hnone,List.nil_append] at hsg
   refine SW.sub (R':=[(r0,strOf rest),(r1,strOf [47]),(r2,.int .i64 0),(r3,.int .i64 (N:Int)),(r9,.slc n' 0 (N+1) (N+1)),(r10,.int .i64 (i:Int))]) (by simp [q0,q1,q2,q3,q9,q10]) ?_
   repeat' first|refine SO.idxW i rfl rfl rfl rfl rfl (by omega) ?_|refine SW.a rfl ?_|refine SW.reg ?_|refine SO.nil ?_|refine SO.a rfl ?_|refine SO.cF rfl (by omega) ?_|fail
   refine SO.store1 rfl rfl rfl hb0 rfl (by simp [strOf_eq]) (by omega) (fun g1 hc1' hk1=>?_)
   obtain⟨s1,s2⟩:=splice_step (us:=us) (strOf rest) (by omega:i < us.length)
   have hE1':Gr h' n' g1 (n'+1):=hE.keep (Nat.le_refl _) hk1
   have hsl:Sl g1 (n'+1) 1 (.slc n' 0 (N+1) (N+1)) (N+1) (splice (0+i*1) [strOf rest] us):=⟨by rw [s1];omega,.inr ⟨n',0,N+1,_,.inl ⟨rfl,Nat.le_refl _⟩,⟨by omega,.inl ⟨_,_,hc1'⟩⟩,by rw [s1];omega,by rw [List.drop_zero];exact List.take_of_length_le (by rw [s1];omega)⟩⟩
   obtain⟨v',k1,k2⟩:=ex_sliceSlFT (k:=.i64) hsl (.inl (by omega)) (j:=i+1) (by omega)
   repeat' first|refine SO.val (oc:=.sliceSl 1 false true false) rfl rfl (two rfl rfl) (k1 _) ?_|refine SW.a rfl ?_|refine SW.reg ?_|refine SO.nil ?_|refine SO.a rfl ?_|refine SO.add rfl rfl rfl rfl (by omega) ?_|fail
   refine SW.ret code399 ⟨_,rfl,hq _ _ _ ⟨?_,hE1'⟩⟩
   rw [show (i+1)*1=i+1 by omega,s2,htk] at k2
   rw [hsg]
   have e1:(ds++[rest]).length=i+1:=by simp [hdl]
   have e2:(ds++[rest]).flatMap strC=ds.flatMap strC++[strOf rest]:=by rw [List.flatMap_append];simp
   rw [e1,e2];exact k2
  | succ k ih =>
   intro i rest ds g us hi hc hsg hdl hrl hb0 hul htk hE R q0 q1 q2 q3 q9 q10
   obtain⟨p,hp⟩:∃ p,posOf 47 rest=some p:=by
    cases hp:posOf 47 rest with
    | none=>have:=countB_none hp;omega
    | some p=>exact⟨p,rfl⟩
   have hplt:=posOf_lt hp
   have hcp:=countB_pos hp
   rw [segs_some [] hp,List.nil_append] at hsg
   refine SW.sub (R':=[(r0,strOf rest),(r1,strOf [47]),(r2,.int .i64 0),(r3,.int .i64 (N:Int)),(r9,.slc n' 0 (N+1) (N+1)),(r10,.int .i64 (i:Int))]) (by simp [q0,q1,q2,q3,q9,q10]) ?_
   repeat' first|refine SW.a rfl ?_|refine SW.reg ?_|refine SO.nil ?_|refine SO.a rfl ?_|refine SO.cT rfl (by omega) ?_|fail
   refine SO.callG rfl rfl rfl (index185 rest 47) ?_
   rintro _ g' m' ⟨rfl,rfl,rfl⟩
   rw [hp,show posI (some p)=(p:Int) from rfl]
   repeat' first|refine SO.sliceFTa p rfl rfl rfl rfl (by omega) (by omega) ?_|refine SO.idxW i rfl rfl rfl rfl rfl (by omega) ?_|refine SW.a rfl ?_|refine SW.reg ?_|refine SO.nil ?_|refine SO.a rfl ?_|refine SO.cF rfl (by omega) ?_|refine SO.add rfl rfl rfl rfl (by omega) ?_|fail
   refine SO.store1 rfl rfl rfl hb0 rfl (by simp [strOf_eq]) (by omega) (fun g1 hc1' hk1=>?_)
   obtain⟨s1,s2⟩:=splice_step (us:=us) (strOf (rest.take p)) (by omega:i < us.length)
   repeat' first|refine SO.sliceTFa (p+1) rfl rfl rfl rfl (by omega) (by omega) ?_|refine SW.a rfl ?_|refine SW.reg ?_|refine SO.nil ?_|refine SO.a rfl ?_|refine SO.add rfl rfl rfl rfl (by omega) ?_|fail
   refine SW.again ?_
   refine ih (i+1) (rest.drop (p+1)) (ds++[rest.take p]) g1 _ (by omega) (by omega) (by rw [hsg];simp) (by simp [hdl]) (by rw [List.length_drop];omega) hc1' (by rw [s1];exact hul) ?_ (hE.keep (Nat.le_refl _) hk1) _ rfl rfl rfl rfl rfl rfl
   rw [s2,htk,List.flatMap_append];simp
 refine SW.loop ?_
 refine loop N 0 bs [] h1 _ (by omega) hN (by simp) rfl hl hc1 hrl (by simp) hE1 _ rfl rfl rfl ?_ rfl rfl
 show some (AV.int .i64 ((N:Int)+1 - 1))=some (.int .i64 (N:Int))
 congr 2;omega
theorem split261 {h:Hp} {n:Nat} (bs:List UInt8) (hl:bs.length<=100000):Fn E 285 [strOf bs,strOf [47]] h n fun r h' n'=>Sl h' n' 1 r (segs [] bs).length ((segs [] bs).flatMap strC)/\Gr h n h' n':=by
 refine Fn.of code285 (by decide) rfl fun Q cs hq=>?_
 show SW E Q 285 [(r0,strOf bs),(r1,strOf [47])] _ _ _ _
 repeat' first|refine SW.a rfl ?_|refine SW.reg ?_|refine SO.nil ?_|refine SO.a rfl ?_
 refine SO.callG rfl rfl rfl (genSplit371 bs hl) ?_
 rintro v h' n' ⟨hs,hE⟩
 repeat' first|refine SO.nil ?_|refine SO.a rfl ?_
 exact SW.ret code285 ⟨_,rfl,hq _ _ _ ⟨hs,hE⟩⟩
theorem isName262 {h:Hp} {n:Nat} (bs:List UInt8) (hl:bs.length<=4000000000000000000):Fn E 286 [strOf bs] h n fun v h' n'=>v=.bool (nameOk bs)/\h'=h/\n'=n:=by
 refine Fn.of code286 (by decide) rfl fun Q cs hq=>?_
 show SW E Q 286 [(r0,strOf bs)] _ _ _ _
 have hret:∀ (b:Bool) (R:List (Path × AV)) (todo:List AItem),b=nameOk bs->look R r2=some (.bool b)->SW E Q 286 R (.code .ret::todo) cs h n:=fun b R todo hb hR=>SW.ret code286 ⟨_,hR,hq _ _ _ ⟨by rw [hb];rfl,rfl,rfl⟩⟩
 have loop:∀ (k i:Nat),i+k=bs.length->(bs.take i).all nameByte=true->∀ R,look R r0=some (strOf bs)->look R r6=some (.int .i64 (bs.length:Int))->look R r7=some (.int .i64 i)->SW E Q 286 R [.code c286x8,.inLoop c286x8,.inBlock 0,.code (.seq (.reg c286x9) .ret)] cs h n:=by
  intro k
  induction k with
  | zero =>
   intro i hi hall R h0 h6 h7
   refine SW.sub (R':=[(r0,strOf bs),(r6,.int .i64 (bs.length:Int)),(r7,.int .i64 i)]) (by simp [h0,h6,h7]) ?_
   have hall':bs.all nameByte=true:=by rw [show i=bs.length by omega,List.take_length] at hall;exact hall
   have hpos:bs≠[]->1<=bs.length:=fun h=>List.length_pos_iff.2 h
   repeat' first|refine SW.a rfl ?_|refine SW.reg ?_|refine SO.nil ?_|refine SO.a rfl ?_|refine SO.cF rfl (by omega) ?_|refine SO.leq rfl rfl rfl rfl (fun _=>?_) (fun _=>?_)|refine SO.strNe rfl rfl rfl rfl (fun _=>?_) (fun _=>?_)
   ·rename_i a1 a2 a3 a4
    refine hret _ _ _ ?_ rfl
    have:=hpos a1
    unfold nameOk;rw [hall'];simp
    exact⟨by omega,by omega,a3,a4⟩
   ·rename_i a1 a2 a3 a4
    refine hret _ _ _ ?_ rfl
    unfold nameOk;rw [a4];simp
   ·rename_i a1 a2 a3
    refine hret _ _ _ ?_ rfl
    unfold nameOk;rw [a3];simp
   ·rename_i a1 a2
    refine hret _ _ _ ?_ rfl
    have:decide (bs.length<=40)=false:=decide_eq_false (by omega)
    unfold nameOk;rw [this];simp
   ·rename_i a1
    refine hret _ _ _ ?_ rfl
    unfold nameOk;rw [a1];simp
  | succ k ih =>
   intro i hi hall R h0 h6 h7
   refine SW.sub (R':=[(r0,strOf bs),(r6,.int .i64 (bs.length:Int)),(r7,.int .i64 i)]) (by simp [h0,h6,h7]) ?_
   have hi':i < bs.length:=by omega
   have hnext:nameByte bs[i]=true->(bs.take (i+1)).all nameByte=true:=by
    intro hb
    rw [List.take_succ_eq_append_getElem hi',List.all_append,hall]
    simp [hb]
   have hstop:nameByte bs[i]=false->false=nameOk bs:=by
    intro hb
    have:bs.all nameByte=false:=List.all_eq_false.2 ⟨bs[i],List.getElem_mem hi',by simp [hb]⟩
    unfold nameOk
    rw [this];rfl
   repeat' first|refine SW.a rfl ?_|refine SW.reg ?_|refine SO.nil ?_|refine SO.a rfl ?_|refine SO.idxStr rfl rfl rfl rfl (by omega) ?_|refine SO.cT rfl (by omega) ?_|refine SO.cF rfl (by omega) ?_|refine SO.add rfl rfl rfl rfl (by omega) ?_|refine SO.lss rfl rfl rfl rfl (fun _=>?_) (fun _=>?_)|refine SO.gtr rfl rfl rfl rfl (fun _=>?_) (fun _=>?_)|refine SO.nei rfl rfl rfl rfl (fun _=>?_) (fun _=>?_)
   all_goals (first
    |(refine SW.again (ih (i+1) (by omega) (hnext ?_) _ rfl rfl rfl);unfold nameByte;simp only [Bool.or_eq_true,decide_eq_true_eq];omega)
    |(refine hret false _ _ (hstop ?_) rfl;unfold nameByte;simp only [Bool.or_eq_false_iff,decide_eq_false_iff_not];omega))
 repeat' first|refine SW.a rfl ?_|refine SW.reg ?_|refine SO.nil ?_|refine SO.a rfl ?_
 refine SW.loop ?_
 exact loop bs.length 0 (by omega) (by simp) _ rfl rfl rfl
theorem isPath176 {h:Hp} {n:Nat} (bs:List UInt8) (hl:bs.length<=4000000000000000000):Fn E 194 [strOf bs] h n fun r h' n'=>r=.bool (pathOk bs)/\Gr h n h' n':=by
 refine Fn.of code194 (by decide) rfl fun Q cs hq=>?_
 show SW E Q 194 [(r0,strOf bs)] _ _ _ _
 have hret:∀ (b:Bool) (h1:Hp) (n1:Nat) (R:List (Path × AV)) (todo:List AItem),b=pathOk bs->Gr h n h1 n1->look R r2=some (.bool b)->SW E Q 194 R (.code .ret::todo) cs h1 n1:=fun b h1 n1 R todo hb hE hR=>SW.ret code194 ⟨_,hR,hq _ _ _ ⟨by rw [hb];rfl,hE⟩⟩
 by_cases hlen:bs.length<=200
 case neg =>
  repeat' first|refine SW.a rfl ?_|refine SW.reg ?_|refine SO.nil ?_|refine SO.a rfl ?_|refine SO.cT rfl (by omega) ?_|fail
  exact hret false _ _ _ _ (by simp [pathOk,hlen]) (Gr.refl _ _) rfl
 have hok:pathOk bs=(segs [] bs).all nameOk:=by simp [pathOk,hlen]
 repeat' first|refine SW.a rfl ?_|refine SW.reg ?_|refine SO.nil ?_|refine SO.a rfl ?_|refine SO.cF rfl (by omega) ?_|fail
 refine SO.callG rfl rfl rfl (split261 bs (by omega)) ?_
 rintro v h1 n1 ⟨hs,hE⟩
 have hmem:∀ s ∈ segs [] bs,s.length<=bs.length:=fun s hs=>by simpa using segs_mem bs [] s hs
 have hsn:(segs [] bs).length<=4000000000000000000:=by
  have:∀ (cs cur:List UInt8),(segs cur cs).length<=cs.length+1:=by
   intro cs
   induction cs with
   | nil=>intro cur;simp [segs]
   | cons c cs ih =>
    intro cur
    simp only [segs]
    split
    ·have:=ih [];simp;omega
    ·have:=ih (cur++[c]);simp;omega
  have:=this bs []
  omega
 have loop:∀ (k i:Nat),i+k=(segs [] bs).length->((segs [] bs).take i).all nameOk=true->∀ R,look R r9=some v->look R r10=some (.int .i64 ((segs [] bs).length:Int))->look R r11=some (.int .i64 (i:Int))->SW E Q 194 R [.code c194x9,.inLoop c194x9,.inBlock 0,.code (.seq (.reg c194x10) .ret)] cs h1 n1:=by
  intro k
  induction k with
  | zero =>
   intro i hi hall R q9 q10 q11
   refine SW.sub (R':=[(r9,v),(r10,.int .i64 ((segs [] bs).length:Int)),(r11,.int .i64 (i:Int))]) (by simp [q9,q10,q11]) ?_
   repeat' first|refine SW.a rfl ?_|refine SW.reg ?_|refine SO.nil ?_|refine SO.a rfl ?_|refine SO.cF rfl (by omega) ?_|fail
   rw [show i=(segs [] bs).length by omega,List.take_length] at hall
   exact hret true _ _ _ _ (by rw [hok,hall]) hE rfl
  | succ k ih =>
   intro i hi hall R q9 q10 q11
   have hi':i <(segs [] bs).length:=by omega
   have hm:=hmem _ (List.getElem_mem hi')
   refine SW.sub (R':=[(r9,v),(r10,.int .i64 ((segs [] bs).length:Int)),(r11,.int .i64 (i:Int))]) (by simp [q9,q10,q11]) ?_
   repeat' first|refine SO.idxOf (fun _=>rfl) rfl rfl rfl rfl hs hi' (fun a o hp=>?_)|refine SO.load0 rfl rfl rfl (by assumption) (Gr.refl _ _) ?_|refine SW.a rfl ?_|refine SW.reg ?_|refine SO.nil ?_|refine SO.a rfl ?_|refine SO.cT rfl (by omega) ?_|fail
   refine SO.callG rfl rfl rfl (isName262 (segs [] bs)[i] (by omega)) ?_
   rintro _ h' n' ⟨rfl,rfl,rfl⟩
   cases hn:nameOk (segs [] bs)[i] with
   | true =>
    repeat' first|refine SW.a rfl ?_|refine SW.reg ?_|refine SO.nil ?_|refine SO.a rfl ?_|refine SO.add rfl rfl rfl rfl (by omega) ?_|fail
    refine SW.again ?_
    refine ih (i+1) (by omega) ?_ _ rfl rfl rfl
    rw [List.take_succ_eq_append_getElem hi',List.all_append,hall]
    simp [hn]
   | false =>
    repeat' first|refine SW.a rfl ?_|refine SW.reg ?_|refine SO.nil ?_|refine SO.a rfl ?_
    refine hret false _ _ _ _ ?_ hE rfl
    rw [hok]
    exact (List.all_eq_false.2 ⟨_,List.getElem_mem hi',by simp [hn]⟩).symm
 repeat' first|refine SW.a rfl ?_|refine SO.nil ?_|refine SO.a rfl ?_|refine SO.lenSl rfl rfl rfl (by assumption) ?_|fail
 refine SW.loop ?_
 exact loop (segs [] bs).length 0 (by omega) (by simp) _ rfl rfl rfl
set_option maxRecDepth 100000
set_option maxHeartbeats 4000000
section
variable {E:Env} {Q:Post} {fn:Fr} {md:Md} {R:List (Path × AV)} {todo:List AItem} {cs:List AF} {h h' h0:Hp} {n n' n0:Nat} {os:List COp} {k k':IntKind} {p:Path} {g:Option (Path × Bool)} {X Y Z:CX} {a o:Nat} {u v:AV} {x y:Int} {bs:List UInt8}
theorem SO.convSB {e:TypeId} (hg:wantB R g=true) (hd:Nat.beq p.len depth=true) (h1:lookX R X=some (strOf bs)) (hw:∀ h1,Sl h1 (n+2) 1 (.gsl (n+1) 0 bs.length 1) bs.length (bs.flatMap byteC)->Gr h n h1 (n+2)->SO E Q fn md ((p,.gsl (n+1) 0 bs.length 1)::R) os todo cs h1 (n+2)):SO E Q fn md R (⟨some p,g,[X],.convSB e⟩::os) todo cs h n:=by
 refine SO.val hg hd (one1 h1) (fun K=>?_) (hw (hput (n+1) (.row (bs.flatMap byteC) e n 1) (hput n (.fam (n+1) (n+1)) h)) ?_ (((Gr.refl h n).new _).new _))
 ·show bytesK bs.length (codeL bs) (fun cs=>newK (.fam (Nat.succ n) (Nat.succ n)) h n fun f h n=>newK (.row cs e f 1) h n fun a h n=>K.v (.gsl a 0 bs.length 1) h n)=_
  rw [bytesK_val,bytesOf_codeL,flat_map8,new_at,new_at]
 ·refine⟨by rw [byteC_len8];omega,.inr ⟨n+1,0,1,bs.flatMap byteC,.inr ⟨rfl,.inl ⟨rfl,by decide⟩⟩,⟨by omega,.inr (.inl ⟨e,n,1,n+1,n+1,hb_self _ _ _,by omega,?_,Nat.le_refl _⟩)⟩,by rw [byteC_len8];omega,?_⟩⟩
  ·rw [hb_other _ _ (by omega),hb_self]
  ·rw [List.drop_zero];exact List.take_of_length_le (by rw [byteC_len8];omega)
theorem SO.loadVAo {m off:Nat} {us:List AV} {e:TypeId} {ro:Bool} (hg:wantB R g=true) (hd:Nat.beq p.len depth=true) (h1:lookX R X=some (.ptr a off)) (hb0:hb h a=some (.cell us e ro)) (hm:off+m<=us.length) (hw:SO E Q fn md ((p,.agg ((us.drop off).take m))::R) os todo cs h n):SO E Q fn md R (⟨some p,g,[X],.loadA m⟩::os) todo cs h n :=
 SO.val hg hd (one1 h1) (by
  have h2:=Pt.cell (o:=off) hb0 (Nat.lt_succ_self a) (by omega)
  exact ex_loadA (n':=n) h2 (m:=m) (by simp;omega)) hw
end
theorem index177 {h:Hp} {n:Nat} {v:AV} {bs:List UInt8} (c:UInt8) (hs:Sl h n 1 v bs.length (bs.flatMap byteC)) (hl:bs.length<=4000000000000000000):Fn E 195 [v,.int .u8 (c.toNat:Int)] h n fun r h' n'=>(∃ z:Int,r=.int .i64 z/\(0<=z ↔ c ∈ bs))/\h'=h/\n'=n:=by
 refine Fn.of code195 (by decide) rfl fun Q cs hq=>?_
 show SW E Q 195 [(r0,v),(r1,.int .u8 (c.toNat:Int))] _ _ _ _
 have loop:∀ (k i:Nat),i+k=bs.length->(∀ x ∈ bs.take i,x≠c)->∀ R,look R r0=some v->look R r1=some (.int .u8 (c.toNat:Int))->look R r7=some (.int .i64 (bs.length:Int))->look R r8=some (.int .i64 (i:Int))->SW E Q 195 R [.code c195x7,.inLoop c195x7,.inBlock 0,.code (.seq (.reg c195x8) .ret)] cs h n:=by
  intro k
  induction k with
  | zero =>
   intro i hi hno R q0 q1 q7 q8
   refine SW.sub (R':=[(r0,v),(r1,.int .u8 (c.toNat:Int)),(r7,.int .i64 (bs.length:Int)),(r8,.int .i64 (i:Int))]) (by simp [q0,q1,q7,q8]) ?_
   repeat' first|refine SW.a rfl ?_|refine SW.reg ?_|refine SO.nil ?_|refine SO.a rfl ?_|refine SO.cF rfl (by omega) ?_|fail
   rw [show i=bs.length by omega,List.take_length] at hno
   exact SW.ret code195 ⟨_,rfl,hq _ _ _ ⟨⟨-1,rfl,by simp;exact fun hm=>hno c hm rfl⟩,rfl,rfl⟩⟩
  | succ k ih =>
   intro i hi hno R q0 q1 q7 q8
   have hi':i < bs.length:=by omega
   refine SW.sub (R':=[(r0,v),(r1,.int .u8 (c.toNat:Int)),(r7,.int .i64 (bs.length:Int)),(r8,.int .i64 (i:Int))]) (by simp [q0,q1,q7,q8]) ?_
   repeat' first|refine SO.idxOf (fun _=>rfl) rfl rfl rfl rfl hs hi' (fun a o hp=>?_)|refine SO.load0 rfl rfl rfl (by assumption) (Gr.refl _ _) ?_|refine SW.a rfl ?_|refine SW.reg ?_|refine SO.nil ?_|refine SO.a rfl ?_|refine SO.cT rfl (by omega) ?_|refine SO.add rfl rfl rfl rfl (by omega) ?_|refine SO.eqi rfl rfl rfl rfl (fun _=>?_) (fun _=>?_)
   ·rename_i he
    have he':bs[i]=c:=UInt8.toNat_inj.1 (by omega)
    refine SW.ret code195 ⟨_,rfl,hq _ _ _ ⟨⟨(i:Int),rfl,?_⟩,rfl,rfl⟩⟩
    exact⟨fun _=>he' ▸ List.getElem_mem hi',fun _=>by omega⟩
   ·rename_i hne
    refine SW.again ?_
    refine ih (i+1) (by omega) ?_ _ rfl rfl rfl rfl
    intro x hx
    rw [List.take_succ_eq_append_getElem hi'] at hx
    rcases List.mem_append.1 hx with hx|hx
    ·exact hno x hx
    ·simp at hx;subst hx;exact fun e=>hne (by rw [e])
 repeat' first|refine SW.a rfl ?_|refine SW.reg ?_|refine SO.nil ?_|refine SO.a rfl ?_|refine SO.lenSl rfl rfl rfl (by assumption) ?_|fail
 refine SW.loop ?_
 exact loop bs.length 0 (by omega) (by simp) _ rfl rfl rfl rfl
theorem contains99 {h:Hp} {n:Nat} {v:AV} {bs:List UInt8} (c:UInt8) (hs:Sl h n 1 v bs.length (bs.flatMap byteC)) (hl:bs.length<=4000000000000000000):Fn E 112 [v,.int .u8 (c.toNat:Int)] h n fun r h' n'=>r=.bool (decide (c ∈ bs))/\h'=h/\n'=n:=by
 refine Fn.of code112 (by decide) rfl fun Q cs hq=>?_
 show SW E Q 112 [(r0,v),(r1,.int .u8 (c.toNat:Int))] _ _ _ _
 repeat' first|refine SW.a rfl ?_|refine SW.reg ?_|refine SO.nil ?_|refine SO.a rfl ?_
 refine SO.callG rfl rfl rfl (index177 c hs hl) ?_
 rintro _ h' n' ⟨⟨z,rfl,hz⟩,rfl,rfl⟩
 repeat' first|refine SO.nil ?_|refine SO.a rfl ?_|refine SO.geq rfl rfl rfl rfl (fun _=>?_) (fun _=>?_)
 ·rename_i h0
  exact SW.ret code112 ⟨_,rfl,hq _ _ _ ⟨by rw [decide_eq_true (hz.1 h0)];rfl,rfl,rfl⟩⟩
 ·rename_i h0
  exact SW.ret code112 ⟨_,rfl,hq _ _ _ ⟨by rw [decide_eq_false (fun hm=>by have:=hz.2 hm;omega)];rfl,rfl,rfl⟩⟩
abbrev dirC (bs:List UInt8):List AV:=[.int .i64 3,strOf bs,strOf [],.int .i64 0,.int .i64 0,.nils,.nils,.int .i64 0,strOf [],strOf [],.int .i64 0,.int .i64 0]
theorem action174 {h:Hp} {n:Nat} (bs:List UInt8):Fn E 192 [.agg (dirC bs)] h n fun r h' n'=>r=.ifc 431 (.agg (dirC bs))/\Gr h n h' n':=by
 refine Fn.of code192 (by decide) rfl fun Q cs hq=>?_
 show SW E Q 192 [(r0,.agg (dirC bs))] _ _ _ _
 repeat' first|refine SO.box rfl rfl rfl (by simp) (fun h1 hc hE=>?_)|refine SO.loadV rfl rfl rfl (by assumption) rfl ?_|refine SO.loadVA rfl rfl rfl (by assumption) rfl ?_|refine SO.build rfl rfl rfl (fun K=>rfl) ?_|refine SO.val (oc:=.mkIfc 431) rfl rfl (one1 rfl) (fun K=>rfl) ?_|refine SW.a rfl ?_|refine SW.reg ?_|refine SO.nil ?_|refine SO.a rfl ?_|refine SO.cT rfl (by omega) ?_|refine SO.cF rfl (by omega) ?_|fail
 exact SW.ret code192 ⟨_,rfl,hq _ _ _ ⟨rfl,hE⟩⟩
theorem tidy175 {h:Hp} {n:Nat} (bs:List UInt8):Fn E 193 [.agg (dirC bs)] h n fun r h' n'=>r=.bool true/\Gr h n h' n':=by
 refine Fn.of code193 (by decide) rfl fun Q cs hq=>?_
 show SW E Q 193 [(r0,.agg (dirC bs))] _ _ _ _
 have hnil:=nilsSl h n 1
 repeat' first|refine SO.box rfl rfl rfl (by simp) (fun h1 hc hE=>?_)|refine SO.loadV rfl rfl rfl hc rfl ?_|refine SO.loadVAo rfl rfl rfl hc (Nat.le_of_ble_eq_true rfl) ?_|refine SO.alloc rfl rfl (fun h3 hc3 hE3=>?_)|refine SW.a rfl ?_|refine SW.reg ?_|refine SO.nil ?_|refine SO.a rfl ?_|refine SO.cF rfl (by omega) ?_|fail
 refine SO.storeAll rfl rfl rfl hc3 rfl rfl (fun h4 hc4 hk4=>?_)
 have hc':hb h4 n=some (.cell (dirC bs) 327 false):=by rw [hk4 n (by omega),hE3.same n (by omega)];exact hc
 repeat' first|refine SO.loadV rfl rfl rfl hc' rfl ?_|refine SO.loadV rfl rfl rfl hc4 rfl ?_|refine SO.strEq rfl rfl rfl rfl (fun _=>?_) (fun hne=>absurd rfl hne)|refine SW.a rfl ?_|refine SW.reg ?_|refine SO.nil ?_|refine SO.a rfl ?_|refine SO.lenSl rfl rfl rfl (by assumption) ?_|refine SO.cT rfl (by omega) ?_|refine SO.add rfl rfl rfl rfl (by omega) ?_|fail
 exact SW.ret code193 ⟨_,rfl,hq _ _ _ ⟨rfl,(hE.trans hE3).keep (by omega) hk4⟩⟩
theorem addingCheck {h:Hp} {n:Nat} (bs:List UInt8):Fn E 644 [.agg (dirC bs)] h n fun r h' n'=>r=.int .i64 0/\Gr h n h' n':=by
 refine Fn.of code644 (by decide) rfl fun Q cs hq=>?_
 show SW E Q 644 [(r0,.agg (dirC bs))] _ _ _ _
 repeat' first|refine SO.box rfl rfl rfl (by simp) (fun h1 hc hE=>?_)|refine SO.loadV rfl rfl rfl (by assumption) rfl ?_|refine SW.a rfl ?_|refine SW.reg ?_|refine SO.nil ?_|refine SO.a rfl ?_|refine SO.cT rfl (by omega) ?_|fail
 exact SW.ret code644 ⟨_,rfl,hq _ _ _ ⟨rfl,hE⟩⟩
theorem primCheck98 {h:Hp} {n:Nat} (bs:List UInt8) (hl:bs.length<=4000000000000000000):Fn E 111 [.agg (dirC bs)] h n fun r h' n'=>((pathOk bs=true/\r=.int .i64 0)\/(pathOk bs=false/\r=.int .i64 5))/\Gr h n h' n':=by
 refine Fn.of code111 (by decide) rfl fun Q cs hq=>?_
 show SW E Q 111 [(r0,.agg (dirC bs))] _ _ _ _
 repeat' first|refine SO.box rfl rfl rfl (by simp) (fun h1 hc hE=>?_)|refine SO.loadVA rfl rfl rfl hc rfl ?_|refine SO.build rfl rfl rfl (fun K=>rfl) ?_|refine SW.a rfl ?_|refine SW.reg ?_|refine SO.nil ?_|refine SO.a rfl ?_
 refine SO.callG rfl rfl rfl (action174 bs) ?_
 rintro _ h2 n2 ⟨rfl,hE2⟩
 have l2:=hE2.le
 have hc2:hb h2 n=some (.cell (dirC bs) 235 false):=by rw [hE2.same n (by omega)];exact hc
 repeat' first|refine SO.ifcNil rfl rfl rfl rfl ?_|refine SO.loadVA rfl rfl rfl hc2 rfl ?_|refine SO.build rfl rfl rfl (fun K=>rfl) ?_|refine SW.a rfl ?_|refine SW.reg ?_|refine SO.nil ?_|refine SO.a rfl ?_
 refine SO.callG rfl rfl rfl (tidy175 bs) ?_
 rintro _ h3 n3 ⟨rfl,hE3⟩
 have l3:=hE3.le
 have hc3:hb h3 n=some (.cell (dirC bs) 235 false):=by rw [hE3.same n (by omega)];exact hc2
 repeat' first|refine SO.loadV rfl rfl rfl hc3 rfl ?_|refine SW.a rfl ?_|refine SW.reg ?_|refine SO.nil ?_|refine SO.a rfl ?_
 refine SO.callG rfl rfl rfl (isPath176 bs hl) ?_
 rintro _ h4 n4 ⟨rfl,hE4⟩
 have l4:=hE4.le
 have hc4:hb h4 n=some (.cell (dirC bs) 235 false):=by rw [hE4.same n (by omega)];exact hc3
 have hG:Gr h n h4 n4:=((hE.trans hE2).trans hE3).trans hE4
 cases hp:pathOk bs with
 | false =>
  repeat' first|refine SW.a rfl ?_|refine SW.reg ?_|refine SO.nil ?_|refine SO.a rfl ?_
  exact SW.ret code111 ⟨_,rfl,hq _ _ _ ⟨.inr ⟨hp,rfl⟩,hG⟩⟩
 | true =>
  repeat' first|refine SO.loadV rfl rfl rfl hc4 rfl ?_|refine SW.a rfl ?_|refine SW.reg ?_|refine SO.nil ?_|refine SO.a rfl ?_|refine SO.cF rfl (by omega) ?_|fail
  refine SO.invoke rfl rfl rfl meth431 (addingCheck bs) ?_
  rintro _ h5 n5 ⟨rfl,hE5⟩
  repeat' first|refine SO.nil ?_|refine SO.a rfl ?_
  exact SW.ret code111 ⟨_,rfl,hq _ _ _ ⟨.inl ⟨hp,rfl⟩,hG.trans hE5⟩⟩
theorem posOf_no {c:UInt8}:∀ {bs:List UInt8},(∀ x ∈ bs,x≠c)->posOf c bs=none
 | [],_=>rfl
 | x::xs,h=>by
  have h1:x≠c:=h x (by simp)
  have h2:=posOf_no (bs:=xs) fun y hy=>h y (by simp [hy])
  simp [posOf,h1,h2]
theorem name_path (bs:List UInt8):(pathOk bs&&!decide ((47:UInt8) ∈ bs))=nameOk bs:=by
 by_cases hm:(47:UInt8) ∈ bs
 ·rw [decide_eq_true hm]
  have:bs.all nameByte=false:=List.all_eq_false.2 ⟨47,hm,by decide⟩
  simp [nameOk,this]
 ·rw [decide_eq_false hm]
  have hn:posOf 47 bs=none:=posOf_no fun x hx e=>hm (e ▸ hx)
  have hs:segs [] bs=[bs]:=by rw [segs_none [] hn];rfl
  simp only [pathOk,hs,List.all_cons,List.all_nil,Bool.and_true,Bool.not_false]
  cases hk:nameOk bs with
  | false=>simp
  | true =>
   have:bs.length<=40:=by
    simp only [nameOk,Bool.and_eq_true,decide_eq_true_eq] at hk
    exact hk.2.2.1
   rw [decide_eq_true (by omega)];rfl
theorem bridgeName59 {h:Hp} {n:Nat} (bs:List UInt8) (hl:bs.length<=4000000000000000000):Fn E 63 [strOf bs] h n fun r h' n'=>r=.bool (nameOk bs)/\Gr h n h' n':=by
 rw [<- name_path bs]
 refine Fn.of code63 (by decide) rfl fun Q cs hq=>?_
 show SW E Q 63 [(r0,strOf bs)] _ _ _ _
 repeat' first|refine SO.build rfl rfl rfl (fun K=>rfl) ?_|refine SW.a rfl ?_|refine SW.reg ?_|refine SO.nil ?_|refine SO.a rfl ?_
 refine SO.callG rfl rfl rfl (primCheck98 bs hl) ?_
 rintro _ h1 n1 ⟨⟨hp,rfl⟩ |⟨hp,rfl⟩,hE⟩
 ·rw [hp,Bool.true_and] at hq
  repeat' first|refine SO.convSB rfl rfl rfl (fun h2 hs2 hE2=>?_)|refine SO.a rfl ?_|refine SO.cT rfl (by omega) ?_|fail
  refine SO.callG rfl rfl rfl (contains99 47 hs2 hl) ?_
  rintro _ h3 n3 ⟨rfl,rfl,rfl⟩
  cases hc:decide ((47:UInt8) ∈ bs) with
  | true =>
   rw [hc] at hq
   repeat' first|refine SO.nil ?_|refine SO.a rfl ?_
   exact SW.ret code63 ⟨.bool false,rfl,hq _ _ _ ⟨rfl,hE.trans hE2⟩⟩
  | false =>
   rw [hc] at hq
   repeat' first|refine SO.nil ?_|refine SO.a rfl ?_
   exact SW.ret code63 ⟨.bool true,rfl,hq _ _ _ ⟨rfl,hE.trans hE2⟩⟩
 ·rw [hp,Bool.false_and] at hq
  repeat' first|refine SO.nil ?_|refine SO.a rfl ?_|refine SO.cF rfl (by omega) ?_|fail
  exact SW.ret code63 ⟨.bool false,rfl,hq _ _ _ ⟨rfl,hE⟩⟩
def lastGo (bs:List UInt8):Nat->Int
 | 0=>-1
 | i+1=>if bs[i]?=some 47 then (i:Int) else lastGo bs i
theorem lastGo_bounds (bs:List UInt8):∀ i,-1<=lastGo bs i/\lastGo bs i < i
 | 0=>by simp [lastGo]
 | i+1=>by
  have:=lastGo_bounds bs i
  simp only [lastGo]
  split<;>omega
theorem parent_last (bs:List UInt8):∀ i,parentGo bs i=bs.take (lastGo bs i).toNat
 | 0=>by simp [parentGo,lastGo]
 | i+1=>by
  simp only [parentGo,lastGo]
  split
  ·simp
  ·exact parent_last bs i
theorem last264 {h:Hp} {n:Nat} (bs:List UInt8) (hl:bs.length<=4000000000000000000):Fn E 288 [strOf bs,.int .u8 47] h n fun r h' n'=>r=.int .i64 (lastGo bs bs.length)/\h'=h/\n'=n:=by
 refine Fn.of code288 (by decide) rfl fun Q cs hq=>?_
 show SW E Q 288 [(r0,strOf bs),(r1,.int .u8 47)] _ _ _ _
 have hret:∀ (e:Int) (R:List (Path × AV)) (todo:List AItem),e=lastGo bs bs.length->look R r4=some (.int .i64 e)->SW E Q 288 R (.code .ret::todo) cs h n:=fun e R todo he hR=>SW.ret code288 ⟨_,hR,hq _ _ _ ⟨by rw [he];rfl,rfl,rfl⟩⟩
 have loop:∀ (i:Nat),i<=bs.length->lastGo bs i=lastGo bs bs.length->∀ R,look R r0=some (strOf bs)->look R r1=some (.int .u8 47)->look R r5=some (.int .i64 ((i:Int) - 1))->SW E Q 288 R [.code c288x6,.inLoop c288x6,.inBlock 0,.code (.seq (.reg c288x7) .ret)] cs h n:=by
  intro i
  induction i with
  | zero =>
   intro hi hp R h0 h1 h5
   refine SW.sub (R':=[(r0,strOf bs),(r1,.int .u8 47),(r5,.int .i64 (-1))]) (by simp [h0,h1,h5]) ?_
   repeat' first|refine SW.a rfl ?_|refine SW.reg ?_|refine SO.nil ?_|refine SO.a rfl ?_|refine SO.cF rfl (by omega) ?_|fail
   exact hret (-1) _ _ (by rw [<- hp];rfl) rfl
  | succ i ih =>
   intro hi hp R h0 h1 h5
   have hi':i < bs.length:=by omega
   have e:(((i+1:Nat):Int) - 1)=(i:Int):=by omega
   rw [e] at h5
   refine SW.sub (R':=[(r0,strOf bs),(r1,.int .u8 47),(r5,.int .i64 i)]) (by simp [h0,h1,h5]) ?_
   repeat' first|refine SW.a rfl ?_|refine SW.reg ?_|refine SO.nil ?_|refine SO.a rfl ?_|refine SO.idxStr rfl rfl rfl rfl (by omega) ?_|refine SO.cT rfl (by omega) ?_|refine SO.sub rfl rfl rfl rfl (by omega) ?_|refine SO.eqi rfl rfl rfl rfl (fun _=>?_) (fun _=>?_)
   ·rename_i he
    refine hret (i:Int) _ _ ?_ rfl
    have:bs[i]?=some 47:=by rw [List.getElem?_eq_getElem hi',Option.some.injEq];exact UInt8.toNat_inj.1 (by show bs[i].toNat=47;omega)
    rw [<- hp,lastGo,if_pos this]
   ·rename_i he
    refine SW.again ?_
    refine ih (by omega) ?_ _ rfl rfl rfl
    have:bs[i]?≠some 47:=by
     rw [List.getElem?_eq_getElem hi']
     intro e
     simp only [Option.some.injEq] at e
     rw [e] at he
     exact he rfl
    rw [<- hp,lastGo,if_neg this]
 repeat' first|refine SW.a rfl ?_|refine SW.reg ?_|refine SO.nil ?_|refine SO.a rfl ?_|refine SO.sub rfl rfl rfl rfl (by omega) ?_|fail
 refine SW.loop ?_
 exact loop bs.length (Nat.le_refl _) rfl _ rfl rfl rfl
theorem last179 {h:Hp} {n:Nat} (bs:List UInt8) (hl:bs.length<=4000000000000000000):Fn E 197 [strOf bs,.int .u8 47] h n fun r h' n'=>r=.int .i64 (lastGo bs bs.length)/\h'=h/\n'=n:=by
 refine Fn.of code197 (by decide) rfl fun Q cs hq=>?_
 show SW E Q 197 [(r0,strOf bs),(r1,.int .u8 47)] _ _ _ _
 repeat' first|refine SW.a rfl ?_|refine SW.reg ?_|refine SO.nil ?_|refine SO.a rfl ?_
 refine SO.callG rfl rfl rfl (last264 bs hl) ?_
 rintro _ h' n' ⟨rfl,rfl,rfl⟩
 repeat' first|refine SO.nil ?_|refine SO.a rfl ?_
 exact SW.ret code197 ⟨_,rfl,hq _ _ _ ⟨rfl,rfl,rfl⟩⟩
theorem parent101 {h:Hp} {n:Nat} (bs:List UInt8) (hl:bs.length<=4000000000000000000):Fn E 114 [strOf bs] h n fun r h' n'=>r=strOf (parentOf bs)/\h'=h/\n'=n:=by
 refine Fn.of code114 (by decide) rfl fun Q cs hq=>?_
 show SW E Q 114 [(r0,strOf bs)] _ _ _ _
 repeat' first|refine SW.a rfl ?_|refine SW.reg ?_|refine SO.nil ?_|refine SO.a rfl ?_
 refine SO.callG rfl rfl rfl (last179 bs hl) ?_
 rintro _ h' n' ⟨rfl,rfl,rfl⟩
 have hb:=lastGo_bounds bs bs.length
 have hz:(if lastGo bs bs.length > 0 then lastGo bs bs.length else 0)=((lastGo bs bs.length).toNat:Int):=by split<;>omega
 repeat' first|refine SO.maxI rfl rfl rfl rfl hz ?_|refine SO.sliceFTa (lastGo bs bs.length).toNat rfl rfl rfl rfl rfl (by omega) ?_|refine SO.nil ?_|refine SO.a rfl ?_
 exact SW.ret code114 ⟨_,rfl,hq _ _ _ ⟨by rw [parentOf,parent_last];rfl,rfl,rfl⟩⟩
end Go.Ev
