/- Contracts: strings.Builder: copyCheck, WriteString, WriteByte, String. -/
import Derived.Test.YtognadjclbihgaaGreatDoorE6
import Derived.Test.YtognadjclbihgaaGreatDoorFE2
set_option linter.all false
namespace Go.Ev
set_option maxRecDepth 100000
set_option maxHeartbeats 4000000
theorem own_ge {h:Hp} {n0 n esz:Nat} {e:TypeId} {v:AV} {fo:Option Nat} {cells:List AV} (ho:Own h n0 n esz e v fo cells) {f:Nat} (hf:fo=some f):n0<=f:=by
 rcases ho with ⟨_,_,h1⟩ |⟨_,_,_,_,_,_,_,_,h1⟩ |⟨a,g,lo,l,_,_,_,_,h4,_,_,h7,_,h1⟩
 ·rw [h1] at hf;simp at hf
 ·rw [h1] at hf;simp at hf
 ·rw [h1] at hf;simp at hf;omega
theorem own_plain {h:Hp} {n0 n esz:Nat} {e:TypeId} {v:AV} {fo:Option Nat} {cells:List AV} (ho:Own h n0 n esz e v fo cells):v.cells=[v]/\∀ us,v≠.tup us:=by
 rcases ho with ⟨rfl,_⟩ |⟨_,_,_,rfl,_⟩ |⟨_,_,_,_,rfl,_⟩<;>exact⟨rfl,fun us=>by simp⟩
theorem appendTo_own0 {h:Hp} {n n0 esz:Nat} {e:TypeId} {v:AV} {fo:Option Nat} {cells:List AV} (ho:Own h n0 n esz e v fo cells) :
  ∃ v' h',(∀ K,appendTo e esz v 0 [] h n K=K.v v' h' n)/\Own h' n0 n esz e v' fo cells/\(v=.nils->v'=.nils)/\(∀ b,fo≠some b->hb h' b=hb h b):=by
 rcases ho with ⟨rfl,rfl,rfl⟩ |⟨a,l,ty,rfl,h1,h2,h3,h4,rfl⟩ |⟨a,f,lo,l,rfl,h1,h2,h3,h4,h5,h6,h7,h8,rfl⟩
 ·exact⟨.nils,h,fun K=>rfl,.inl ⟨rfl,rfl,rfl⟩,fun _=>rfl,fun _ _=>rfl⟩
 ·have es:splice (0+l*esz) ([]:List AV) cells=cells:=by simp [splice]
  refine⟨.slc a 0 l l,hput a (.cell cells ty false) h,fun K=>?_,.inr (.inl ⟨a,l,ty,rfl,h1,h2,h3,hb_self _ _ _,rfl⟩),by simp,fun b _=>?_⟩
  ·show force (Nat.add l 0) (fun need=>force (Nat.mul l esz) fun lc=>Bool.rec (motive:=fun _=>Bool) (loadN h a 0 lc fun old=>freshK e esz old [] need h n K) (force (Nat.add 0 lc) fun at_=>storeN h a at_ [] fun h=>K.v (.slc a 0 need l) h n) (Nat.ble need l))=_
   rw [force_eq,force_eq,show Nat.ble (Nat.add l 0) l=true from Nat.ble_eq_true_of_le (Nat.le_refl _)]
   show force (Nat.add 0 (Nat.mul l esz)) (fun at_=>storeN h a at_ [] fun h=>K.v (.slc a 0 l l) h n)=_
   rw [force_eq]
   unfold storeN
   rw [blk_at h4]
   show spliceK (0+l*esz) [] cells (fun vs'=>putK a (.cell vs' ty false) h fun h=>K.v (.slc a 0 l l) h n)=_
   rw [Bool.eq_iff_iff,spliceK_iff,es,putK_eq]
   exact⟨fun h=>h.2,fun h=>⟨by simp [h1],h⟩⟩
  ·by_cases hba:b=a
   ·subst hba;rw [hb_self,h4]
   ·rw [hb_other _ _ hba]
 ·have es:splice (0+l*esz) ([]:List AV) cells=cells:=by simp [splice]
  have hfa:f≠a:=fun e'=>by rw [e',h6] at h7;simp at h7
  refine⟨.gsl a 0 l esz,hput f (.fam a a) (hput a (.row cells e f 0) h),fun K=>?_,.inr (.inr ⟨a,f,a,l,rfl,h1,h2,h3,h4,h5,?_,hb_self _ _ _,Nat.le_refl _,rfl⟩),by simp,fun b hb0=>?_⟩
  ·show guardB (Nat.beq esz esz) (force (Nat.add l 0) fun need=>force (Nat.add 0 (Nat.mul l esz)) fun at_=>blkK h a fun b=>ifCells b (fun _ _ _=>false) fun vs el f frz=>lenK vs fun len=>blkK h f fun g=>ifFam g fun low last=>guardB (Nat.beq last a) (guardB (Nat.ble low a) (
    Bool.rec (motive:=fun _=>Bool)
     (guardB (Nat.beq at_ len&&(Nat.ble need 1048576&&Nat.beq el e)) (guardB (Nat.ble frz len) (dropK 0 vs fun old=>appK old [] fun cs=>putK f (.fam low n) h fun h=>frzK frz 0 fun frz=>newK (.row cs el f frz) h n fun a h n=>K.v (.gsl a 0 need esz) h n)))
     (storeN h a at_ [] fun h=>K.v (.gsl a 0 need esz) h n)
     (Nat.ble (Nat.add 0 (Nat.mul need esz)) len))))=_
   rw [show Nat.beq esz esz=true by simp,guardT,force_eq,force_eq,blk_at h6]
   show lenK cells (fun len=>blkK h f fun g=>ifFam g fun low last=>guardB (Nat.beq last a) (guardB (Nat.ble low a) (
    Bool.rec (motive:=fun _=>Bool)
     (guardB (Nat.beq (Nat.add 0 (Nat.mul l esz)) len&&(Nat.ble (Nat.add l 0) 1048576&&Nat.beq e e)) (guardB (Nat.ble 0 len) (dropK 0 cells fun old=>appK old [] fun cs=>putK f (.fam low n) h fun h=>frzK 0 0 fun frz=>newK (.row cs e f frz) h n fun a h n=>K.v (.gsl a 0 (Nat.add l 0) esz) h n)))
     (storeN h a (Nat.add 0 (Nat.mul l esz)) [] fun h=>K.v (.gsl a 0 (Nat.add l 0) esz) h n)
     (Nat.ble (Nat.add 0 (Nat.mul (Nat.add l 0) esz)) len))))=_
   rw [lenK_eq,blk_at h7]
   show guardB (Nat.beq a a) (guardB (Nat.ble lo a) (
    Bool.rec (motive:=fun _=>Bool)
     (guardB (Nat.beq (Nat.add 0 (Nat.mul l esz)) cells.length&&(Nat.ble (Nat.add l 0) 1048576&&Nat.beq e e)) (guardB (Nat.ble 0 cells.length) (dropK 0 cells fun old=>appK old [] fun cs=>putK f (.fam lo n) h fun h=>frzK 0 0 fun frz=>newK (.row cs e f frz) h n fun a h n=>K.v (.gsl a 0 (Nat.add l 0) esz) h n)))
     (storeN h a (Nat.add 0 (Nat.mul l esz)) [] fun h=>K.v (.gsl a 0 (Nat.add l 0) esz) h n)
     (Nat.ble (Nat.add 0 (Nat.mul (Nat.add l 0) esz)) cells.length)))=_
   rw [show Nat.beq a a=true by simp,Nat.ble_eq_true_of_le h8,show Nat.ble (Nat.add 0 (Nat.mul (Nat.add l 0) esz)) cells.length=true from Nat.ble_eq_true_of_le (by show 0+l*esz<=_;omega)]
   show storeN h a (0+l*esz) [] (fun h=>K.v (.gsl a 0 l esz) h n)=_
   unfold storeN
   rw [blk_at h6]
   show blkK h f (fun g=>ifFam g fun low last=>guardB (Nat.beq last a) (guardB (Nat.ble low a) (guardB (Nat.ble 0 (0+l*esz)) (spliceK (0+l*esz) [] cells fun vs'=>putK a (.row vs' e f 0) h fun h=>putK f (.fam a last) h fun h=>K.v (.gsl a 0 l esz) h n))))=_
   rw [blk_at h7]
   show guardB (Nat.beq a a) (guardB (Nat.ble lo a) (guardB (Nat.ble 0 (0+l*esz)) (spliceK (0+l*esz) [] cells fun vs'=>putK a (.row vs' e f 0) h fun h=>putK f (.fam a a) h fun h=>K.v (.gsl a 0 l esz) h n)))=_
   rw [show Nat.beq a a=true by simp,Nat.ble_eq_true_of_le h8,Nat.ble_eq_true_of_le (Nat.zero_le _),guardT,guardT,guardT]
   rw [Bool.eq_iff_iff,spliceK_iff,es,putK_eq,putK_eq]
   exact⟨fun h=>h.2,fun h=>⟨by simp [h1],h⟩⟩
  ·rw [hb_other _ _ (Ne.symm hfa),hb_self]
  ·have hbf:b≠f:=fun e'=>hb0 (by rw [e'])
   rw [hb_other _ _ hbf]
   by_cases hba:b=a
   ·subst hba;rw [hb_self,h6]
   ·rw [hb_other _ _ hba]
theorem flat_bytes:∀ ds:List UInt8,(ds.map fun b=>AV.int .u8 (b.toNat:Int))=ds.flatMap byteC
 | []=>rfl
 | c::ds=>by rw [List.flatMap_cons,<- flat_bytes ds];rfl
theorem byteC_length (ds:List UInt8):(ds.flatMap byteC).length=ds.length:=by rw [flatMap_length (esz:=1) (fun _=>rfl)];omega
theorem appendTo_some {h:Hp} {n n0 esz m:Nat} {e:TypeId} {v:AV} {fo:Option Nat} {cells ys:List AV} (hz:0 < esz) (hm:0 < m) (ho:Own h n0 n esz e v fo cells) (hv:fo=none->v=.nils) (hn:n0<=n) (hy:ys.length=m*esz) (hb':cells.length+ys.length<=1048576) :
  ∃ v' f' h' n',(∀ K,appendTo e esz v m ys h n K=K.v v' h' n')/\Own h' n0 n' esz e v' (some f') (cells++ys)/\n<=n'/\(∀ b,b < n->fo≠some b->hb h' b=hb h b):=by
 cases fo with
 | some f =>
  obtain⟨v',fo',h',n',k1,k2,k3,k4,k5⟩:=appendTo_own hz hm ho hn hy hb'
  rcases k5 with rfl |⟨f',rfl,_⟩
  ·exact⟨v',f,h',n',k1,k2,k3,k4⟩
  ·exact⟨v',f',h',n',k1,k2,k3,k4⟩
 | none =>
  have:=hv rfl
  subst this
  obtain rfl:cells=[]:=by
   rcases ho with ⟨_,h1,_⟩ |⟨_,_,_,h1,_⟩ |⟨_,_,_,_,h1,_⟩
   ·exact h1
   ·simp at h1
   ·simp at h1
  have hml:m<=1048576:=by
   have:m<=m*esz:=Nat.le_mul_of_pos_right m hz
   simp at hb';omega
  obtain⟨v',fo',h',n',k1,k2,k3,k4,f',rfl,_⟩:=fresh_own (h:=h) (n:=n) (n0:=n0) (e:=e) (esz:=esz) (old:=[]) (new:=ys) (len:=m) (by simpa using hy) hml hn
  refine⟨v',f',h',n',fun K=>?_,k2,k3,fun b hb0 _=>k4 b hb0⟩
  show (Bool.rec (motive:=fun _=>Bool) (freshK e esz [] ys m h n K) (K.v .nils h n) (Nat.beq m 0))=_
  have:Nat.beq m 0=false:=by cases m with|zero=>omega|succ m=>rfl
  rw [this]
  exact k1 K
structure Buff (h:Hp) (n0 n:Nat) (v:AV) (fo:Option Nat) (bs:List UInt8):Prop where
 own:Own h n0 n 1 5 v fo (bs.flatMap byteC)
 ok:(fo=none/\v=.nils)\/(fo≠none/\bs≠[])
theorem Buff.keep {h h':Hp} {n0 n n':Nat} {v:AV} {fo:Option Nat} {bs:List UInt8} (hB:Buff h n0 n v fo bs) (hn:n<=n') (hk:∀ b,n0<=b->b < n->hb h' b=hb h b):Buff h' n0 n' v fo bs:=⟨hB.own.keep hn hk,hB.ok⟩
theorem buff_nil {fo:Option Nat} {v:AV} {bs:List UInt8} (hk:(fo=none/\v=.nils)\/(fo≠none/\bs≠[])):fo=none->v=.nils:=by
 intro h
 rcases hk with ⟨_,h1⟩ |⟨h1,_⟩
 ·exact h1
 ·exact absurd h h1
section
variable {E:Env} {Q:Post} {fn:Fr} {md:Md} {R:List (Path × AV)} {todo:List AItem} {cs:List AF} {h h' h0:Hp} {n n' n0:Nat} {os:List COp} {k k':IntKind} {p:Path} {g:Option (Path × Bool)} {X Y Z:CX} {a o:Nat} {u v:AV} {x y:Int} {fo:Option Nat} {bs ds:List UInt8}
theorem SO.appendStr (hg:wantB R g=true) (hd:Nat.beq p.len depth=true) (h1:lookX R X=some v) (h2:lookX R Y=some (strOf ds)) (ho:Buff h n0 n v fo bs) (hn:n0<=n) (hb':bs.length+ds.length<=1048576)
  (hw:∀ v' fo' h' n',Buff h' n0 n' v' fo' (bs++ds)->n<=n'->(∀ b,b < n->fo≠some b->hb h' b=hb h b)->SO E Q fn md ((p,v')::R) os todo cs h' n'):SO E Q fn md R (⟨some p,g,[X,Y],.append 5 1⟩::os) todo cs h n:=by
 have key:∀ K,execV (.append 5 1) [v,strOf ds] h n K=appendTo 5 1 v ds.length (ds.flatMap byteC) h n K:=fun K=>by
  show guardB (Nat.blt 0 1) (guardB (Nat.beq 1 1) (bytesK ds.length (codeL ds) fun new=>appendTo 5 1 v ds.length new h n K))=_
  rw [show Nat.blt 0 1=true from rfl,show Nat.beq 1 1=true from rfl,guardT,guardT,bytesK_val,bytesOf_codeL,flat_bytes]
 cases ds with
 | nil =>
  obtain⟨v',h1',k1,k2,k3,k4⟩:=appendTo_own0 ho.own
  refine SO.val hg hd (two h1 h2) (fun K=>(key K).trans (k1 K)) (hw v' fo h1' n ⟨by simpa using k2,?_⟩ (Nat.le_refl _) fun b _ hf=>k4 b hf)
  rcases ho.ok with ⟨h3,h4⟩ |⟨h3,h4⟩
  ·exact .inl ⟨h3,k3 h4⟩
  ·exact .inr ⟨h3,by simpa using h4⟩
 | cons d ds =>
  obtain⟨v',f',h1',n1',k1,k2,k3,k4⟩:=appendTo_some (m:=(d::ds).length) (ys:=(d::ds).flatMap byteC) (by decide) (by simp) ho.own (buff_nil ho.ok) hn (by rw [byteC_length];omega) (by rw [byteC_length,byteC_length];omega)
  exact SO.val hg hd (two h1 h2) (fun K=>(key K).trans (k1 K)) (hw v' (some f') h1' n1' ⟨by rw [List.flatMap_append];exact k2,.inr ⟨by simp,by simp⟩⟩ k3 k4)
theorem SO.appendB (hg:wantB R g=true) (hd:Nat.beq p.len depth=true) (h1:lookX R X=some v) (h2:lookX R Y=some u) (ho:Buff h n0 n v fo bs) (hn:n0<=n) (hds:ds≠[]) (hx:Sl h n 1 u ds.length (ds.flatMap byteC)) (hb':bs.length+ds.length<=1048576)
  (hw:∀ v' fo' h' n',Buff h' n0 n' v' fo' (bs++ds)->n<=n'->(∀ b,b < n->fo≠some b->hb h' b=hb h b)->SO E Q fn md ((p,v')::R) os todo cs h' n'):SO E Q fn md R (⟨some p,g,[X,Y],.append 5 1⟩::os) todo cs h n:=by
 have hpos:0 < ds.length:=List.length_pos_iff.2 hds
 obtain⟨hy,hx⟩:=hx
 obtain⟨v',f',h1',n1',k1,k2,k3,k4⟩:=appendTo_some (m:=ds.length) (ys:=ds.flatMap byteC) (by decide) hpos ho.own (buff_nil ho.ok) hn hy (by rw [byteC_length,byteC_length];omega)
 refine SO.val hg hd (two h1 h2) (fun K=>?_) (hw v' (some f') h1' n1' ⟨by rw [List.flatMap_append];exact k2,.inr ⟨by simp,by simp [hds]⟩⟩ k3 k4)
 rw [<- k1 K]
 rcases hx with ⟨rfl,h0⟩ |⟨a,o,c,vs,⟨rfl,_⟩ |⟨rfl,_⟩,h2,h3,h4⟩
 ·omega
 ·show guardB (Nat.blt 0 1) (loadN h a o (Nat.mul ds.length 1) fun new=>appendTo 5 1 v ds.length new h n K)=_
  rw [show Nat.blt 0 1=true from rfl,guardT,loadN_eq h2.is (by show o+ds.length*1<=_;exact h3),show (vs.drop o).take (Nat.mul ds.length 1)=ds.flatMap byteC from h4]
 ·show guardB (Nat.blt 0 1) (loadN h a o (Nat.mul ds.length 1) fun new=>appendTo 5 1 v ds.length new h n K)=_
  rw [show Nat.blt 0 1=true from rfl,guardT,loadN_eq h2.is (by show o+ds.length*1<=_;exact h3),show (vs.drop o).take (Nat.mul ds.length 1)=ds.flatMap byteC from h4]
theorem SO.toUns {us:List AV} {e:TypeId} {ro:Bool} (hg:wantB R g=true) (hd:Nat.beq p.len depth=true) (h1:lookX R X=some (.ptr a o)) (hb0:hb h a=some (.cell us e ro)) (ho:o < us.length) (hw:SO E Q fn md ((p,.ptr a o)::R) os todo cs h n):SO E Q fn md R (⟨some p,g,[X],.toUns⟩::os) todo cs h n :=
 SO.val hg hd (one1 h1) (fun K=>by
  show blkK h a (fun b=>ifCells b (fun cs _ _=>lenK cs fun len=>guardB (Nat.blt o len) (K.v (.ptr a o) h n)) (fun _ _ _ _=>false))=_
  rw [blk_at hb0]
  show lenK us (fun len=>guardB (Nat.blt o len) (K.v (.ptr a o) h n))=_
  rw [lenK_eq,show Nat.blt o us.length=true by simp [Nat.blt,Nat.lt_iff_add_one_le] at ho ⊢;exact ho];rfl) hw
theorem SO.noEsc (hg:wantB R g=true) (hd:Nat.beq p.len depth=true) (h1:lookX R X=some (.ptr a o)) (hw:SO E Q fn md ((p,.ptr a o)::R) os todo cs h n):SO E Q fn md R (⟨some p,g,[X],.ext .noEscape⟩::os) todo cs h n :=
 SO.val hg hd (one1 h1) (fun K=>rfl) hw
theorem SO.fromUns {us:List AV} {e:TypeId} {ro:Bool} {s:Nat} (hg:wantB R g=true) (hd:Nat.beq p.len depth=true) (h1:lookX R X=some (.ptr a 0)) (hb0:hb h a=some (.cell us e ro)) (hs:s<=us.length) (hw:SO E Q fn md ((p,.ptr a 0)::R) os todo cs h n):SO E Q fn md R (⟨some p,g,[X],.fromUns e s⟩::os) todo cs h n :=
 SO.val hg hd (one1 h1) (fun K=>by
  show guardB (Nat.beq 0 0) (blkK h a fun b=>ifCells b (fun cs e' _=>guardB (Nat.beq e' e) (lenK cs fun l=>guardB (Nat.ble s l) (K.v (.ptr a 0) h n))) (fun _ _ _ _=>false))=_
  rw [show Nat.beq 0 0=true from rfl,guardT,blk_at hb0]
  show guardB (Nat.beq e e) (lenK us fun l=>guardB (Nat.ble s l) (K.v (.ptr a 0) h n))=_
  rw [show Nat.beq e e=true from by simp,guardT,lenK_eq,Nat.ble_eq_true_of_le hs];rfl) hw
end
theorem copyCheck97 {h:Hp} {n b:Nat} {p v:AV} (hb0:hb h b=some (.cell [p,v] 104 false)) (hp:p=.nilp\/p=.ptr b 0):Fn E 122 [.ptr b 0] h n fun r h' n'=>hb h' b=some (.cell [.ptr b 0,v] 104 false)/\(∀ c,c≠b->hb h' c=hb h c)/\n'=n:=by
 refine Fn.of code122 (by decide) rfl fun Q cs hq=>?_
 show SW E Q 122 [(r0,.ptr b 0)] _ _ _ _
 rcases hp with rfl|rfl
 ·repeat' first|refine SO.loadV rfl rfl rfl hb0 rfl ?_|refine SO.val rfl rfl (two rfl rfl) (ex_eql (ek:=.ptr) rfl rfl) ?_|refine SO.toUns rfl rfl rfl hb0 (by simp) ?_|refine SO.noEsc rfl rfl rfl ?_|refine SO.fromUns rfl rfl rfl hb0 (by simp) ?_|refine SO.store1 rfl rfl rfl hb0 rfl (by simp) (by simp) (fun h1 hc1 hk1=>?_)|refine SW.a rfl ?_|refine SW.reg ?_|refine SO.nil ?_|refine SO.a rfl ?_
  exact SW.fin code122 (hq _ _ _ ⟨hc1,hk1,rfl⟩)
 ·repeat' first|refine SO.loadV rfl rfl rfl hb0 rfl ?_|refine SO.val rfl rfl (two rfl rfl) (ex_eql (ek:=.ptr) rfl rfl) ?_|refine SO.val rfl rfl (two rfl rfl) (ex_eql (ek:=.ptr) (c:=true) (by simp [eqlB]) rfl) ?_|refine SW.a rfl ?_|refine SW.reg ?_|refine SO.nil ?_|refine SO.a rfl ?_
  exact SW.fin code122 (hq _ _ _ ⟨hb0,fun _ _=>rfl,rfl⟩)
def Bld (h:Hp) (n b:Nat) (bs:List UInt8):Prop:=∃ p v fo,hb h b=some (.cell [p,v] 104 false)/\(p=.nilp\/p=.ptr b 0)/\Buff h (b+1) n v fo bs/\b < n
theorem Bld.lt {h:Hp} {n b:Nat} {bs:List UInt8} (hB:Bld h n b bs):b < n:=by
 obtain⟨_,_,_,_,_,_,h1⟩:=hB;exact h1
theorem Bld.ext {h h':Hp} {n n' b:Nat} {bs:List UInt8} (hB:Bld h n b bs) (e:Gr h n h' n'):Bld h' n' b bs:=by
 obtain⟨p,v,fo,h1,h2,h3,h4⟩:=hB
 exact⟨p,v,fo,by rw [e.same b h4];exact h1,h2,h3.keep e.le fun c _ hc=>e.same c hc,by have:=e.le;omega⟩
structure Kp (b:Nat) (h:Hp) (n:Nat) (h':Hp) (n':Nat):Prop where
 le:n<=n'
 low:∀ c,c < b->hb h' c=hb h c
 cell:∀ c vs e ro,c≠b->c < n->hb h c=some (.cell vs e ro)->hb h' c=some (.cell vs e ro)
theorem Kp.trans {b:Nat} {h h1 h2:Hp} {n n1 n2:Nat} (e:Kp b h n h1 n1) (e':Kp b h1 n1 h2 n2):Kp b h n h2 n2 :=
 ⟨Nat.le_trans e.le e'.le,fun c hc=>(e'.low c hc).trans (e.low c hc),fun c vs ty ro h1 h2 h3=>e'.cell c vs ty ro h1 (by have:=e.le;omega) (e.cell c vs ty ro h1 h2 h3)⟩
theorem Kp.of {b:Nat} {h h1:Hp} {n n1:Nat} (e:Gr h n h1 n1) (hb0:b < n):Kp b h n h1 n1 :=
 ⟨e.le,fun c hc=>e.same c (by omega),fun c vs ty ro _ h2 h3=>by rw [e.same c h2];exact h3⟩
theorem Kp.gr {b:Nat} {h h1:Hp} {n n1:Nat} (e:Kp b h n h1 n1):Gr h b h1 b:=⟨Nat.le_refl _,e.low⟩
theorem writeString53 {h:Hp} {n b:Nat} {bs:List UInt8} (ds:List UInt8) (hB:Bld h n b bs) (hl:bs.length+ds.length<=1048576):Fn E 73 [.ptr b 0,strOf ds] h n fun r h' n'=>Bld h' n' b (bs++ds)/\Kp b h n h' n':=by
 obtain⟨p,v,fo,hb0,hp,ho,hbn⟩:=hB
 refine Fn.of code73 (by decide) rfl fun Q cs hq=>?_
 show SW E Q 73 [(r0,.ptr b 0),(r1,strOf ds)] _ _ _ _
 repeat' first|refine SW.a rfl ?_|refine SW.reg ?_|refine SO.nil ?_|refine SO.a rfl ?_
 refine SO.callG rfl rfl rfl (copyCheck97 hb0 hp) ?_
 rintro _ h1 n1 ⟨hc1,hk1,rfl⟩
 have ho1:Buff h1 (b+1) n1 v fo bs:=ho.keep (Nat.le_refl _) fun c hc _=>hk1 c (by omega)
 repeat' first|refine SO.loadV rfl rfl rfl hc1 rfl ?_|refine SW.a rfl ?_|refine SW.reg ?_|refine SO.nil ?_|refine SO.a rfl ?_
 refine SO.appendStr rfl rfl rfl rfl ho1 (by omega) hl fun v' fo' h2 n2 ho2 hn2 hk2=>?_
 have hc2:hb h2 b=some (.cell [.ptr b 0,v] 104 false):=by rw [hk2 b (by omega) (fun e=>by have:=own_ge ho.own e;omega)];exact hc1
 repeat' refine SO.a rfl ?_
 refine SO.store1 rfl rfl rfl hc2 (own_plain ho2.own).1 (own_plain ho2.own).2 (by simp) (fun h3 hc3 hk3=>?_)
 repeat' first|refine SW.a rfl ?_|refine SW.reg ?_|refine SO.nil ?_|refine SO.a rfl ?_
 refine SW.ret code73 ⟨_,rfl,_,rfl,hq _ _ _ ⟨?_,?_⟩⟩
 ·exact⟨.ptr b 0,v',fo',hc3,.inr rfl,ho2.keep (Nat.le_refl _) fun c hc _=>hk3 c (by omega),by omega⟩
 ·refine⟨hn2,fun c hc=>?_,fun c vs e ro hcb hcn hcc=>?_⟩
  ·rw [hk3 c (by omega),hk2 c (by omega) (fun e=>by have:=own_ge ho.own e;omega),hk1 c (by omega)]
  ·rw [hk3 c hcb,hk2 c hcn ?_,hk1 c hcb]
   ·exact hcc
   ·intro e'
    subst e'
    obtain⟨lo,la,h4⟩:=own_fam ho1.own
    rw [hk1 c hcb,hcc] at h4
    simp at h4
theorem writeByte54 {h:Hp} {n b:Nat} {bs:List UInt8} (d:UInt8) (hB:Bld h n b bs) (hl:bs.length+1<=1048576):Fn E 74 [.ptr b 0,.int .u8 (d.toNat:Int)] h n fun r h' n'=>Bld h' n' b (bs++[d])/\Kp b h n h' n':=by
 obtain⟨p,v,fo,hb0,hp,ho,hbn⟩:=hB
 refine Fn.of code74 (by decide) rfl fun Q cs hq=>?_
 show SW E Q 74 [(r0,.ptr b 0),(r1,.int .u8 (d.toNat:Int))] _ _ _ _
 repeat' first|refine SW.a rfl ?_|refine SW.reg ?_|refine SO.nil ?_|refine SO.a rfl ?_
 refine SO.callG rfl rfl rfl (copyCheck97 hb0 hp) ?_
 rintro _ h1 n1 ⟨hc1,hk1,rfl⟩
 have ho1:Buff h1 (b+1) n1 v fo bs:=ho.keep (Nat.le_refl _) fun c hc _=>hk1 c (by omega)
 repeat' first|refine SO.loadV rfl rfl rfl hc1 rfl ?_|refine SO.bslice rfl rfl rfl (fun k=>rfl) (fun h2 hc2 hE2=>?_)|refine SW.a rfl ?_|refine SW.reg ?_|refine SO.nil ?_|refine SO.a rfl ?_
 have ho2:Buff h2 (b+1) (n1+1) v fo bs:=ho1.keep (by omega) fun c _ hc=>hE2.same c hc
 have hx:Sl h2 (n1+1) 1 (.slc n1 0 1 1) [d].length ([d].flatMap byteC):=⟨rfl,.inr ⟨n1,0,1,byteC d,.inl ⟨rfl,Nat.le_refl _⟩,⟨by omega,.inl ⟨_,_,hc2⟩⟩,by simp,rfl⟩⟩
 refine SO.appendB (ds:=[d]) rfl rfl rfl rfl ho2 (by omega) (by simp) hx (by simpa using hl) fun v' fo' h3 n3 ho3 hn3 hk3=>?_
 have hc3:hb h3 b=some (.cell [.ptr b 0,v] 104 false):=by rw [hk3 b (by omega) (fun e=>by have:=own_ge ho.own e;omega),hE2.same b (by omega)];exact hc1
 repeat' refine SO.a rfl ?_
 refine SO.store1 rfl rfl rfl hc3 (own_plain ho3.own).1 (own_plain ho3.own).2 (by simp) (fun h4 hc4 hk4=>?_)
 repeat' first|refine SW.a rfl ?_|refine SW.reg ?_|refine SO.nil ?_|refine SO.a rfl ?_
 refine SW.ret code74 ⟨_,rfl,hq _ _ _ ⟨?_,?_⟩⟩
 ·exact⟨.ptr b 0,v',fo',hc4,.inr rfl,ho3.keep (Nat.le_refl _) fun c hc _=>hk4 c (by omega),by omega⟩
 ·refine⟨by omega,fun c hc=>?_,fun c vs e ro hcb hcn hcc=>?_⟩
  ·rw [hk4 c (by omega),hk3 c (by omega) (fun e=>by have:=own_ge ho.own e;omega),hE2.same c (by omega),hk1 c (by omega)]
  ·rw [hk4 c hcb,hk3 c (by omega) ?_,hE2.same c hcn,hk1 c hcb]
   ·exact hcc
   ·intro e'
    subst e'
    obtain⟨lo,la,h4⟩:=own_fam ho1.own
    rw [hk1 c hcb,hcc] at h4
    simp at h4
theorem ex_ustr {h:Hp} {n a f lo:Nat} {bs:List UInt8} (h6:hb h a=some (.row (bs.flatMap byteC) 5 f 0)) (h7:hb h f=some (.fam lo a)) (h8:lo<=a) (hl:bs≠[]) (hm:bs.length<=1073741824) :
  ∀ K,execV (.ustr 5) [.ptr a 0,.int .i64 (bs.length:Int)] h n K=K.v (strOf bs) (hput f (.fam lo a) (hput a (.row (bs.flatMap byteC) 5 f (Nat.max 0 bs.length)) h)) n:=fun K=>by
 have hpos:0 < bs.length:=List.length_pos_iff.2 hl
 show (Bool.rec (motive:=fun _=>Bool) (guardB (Nat.beq 0 0) (blkK h a fun b=>ifCells b (fun vs el ro=>Bool.rec (motive:=fun _=>Bool) (guardB (Nat.beq el 5) (guardB (Nat.ble bs.length 1073741824) (loadN h a 0 bs.length fun bs'=>codeK bs' fun c=>putK a (.cell vs el true) h fun h=>K.v (.str bs.length c) h n))) false ro) fun vs el f frz=>guardB (Nat.beq el 5) (blkK h f fun g=>ifFam g fun lo la=>guardB (Nat.beq la a&&(!Nat.beq frz 1&&(Nat.ble lo a&&Nat.ble bs.length 1073741824))) (loadN h a 0 bs.length fun bs'=>codeK bs' fun c=>force (Nat.max frz bs.length) fun frz=>putK a (.row vs el f frz) h fun h=>putK f (.fam lo la) h fun h=>K.v (.str bs.length c) h n)))) _ (Nat.beq bs.length 0))=_
 have e0:Nat.beq bs.length 0=false:=by
  cases hq:bs.length with
  | zero=>omega
  | succ m=>rfl
 rw [e0]
 show guardB true (blkK h a _)=_
 rw [guardT,blk_at h6]
 show guardB true (blkK h f _)=_
 rw [guardT,blk_at h7]
 show guardB (Nat.beq a a&&(!Nat.beq 0 1&&(Nat.ble lo a&&Nat.ble bs.length 1073741824))) (loadN h a 0 bs.length _)=_
 have eg:(Nat.beq a a&&(!Nat.beq 0 1&&(Nat.ble lo a&&Nat.ble bs.length 1073741824)))=true:=by
  rw [show Nat.beq a a=true by simp,Nat.ble_eq_true_of_le h8,Nat.ble_eq_true_of_le hm];rfl
 rw [eg,guardT,loadN_eq (vs:=bs.flatMap byteC) (.inr (.inl ⟨_,f,_,h6,lo,a,h7,h8⟩)) (by rw [byteC_length];omega),List.drop_zero,List.take_of_length_le (by rw [byteC_length];omega),codeK_bytes,force_eq,putK_eq,putK_eq]
 rfl
theorem string26 {h:Hp} {n b:Nat} {bs:List UInt8} (hB:Bld h n b bs) (hl:bs.length<=1048576):Fn E 42 [.ptr b 0] h n fun r h' n'=>r=strOf bs/\(∀ c,c < b->hb h' c=hb h c)/\n'=n:=by
 obtain⟨p,v,fo,hb0,hp,ho,hbn⟩:=hB
 refine Fn.of code42 (by decide) rfl fun Q cs hq=>?_
 show SW E Q 42 [(r0,.ptr b 0)] _ _ _ _
 have hsl:Sl h n 1 v bs.length (bs.flatMap byteC):=ho.own.sl (by rw [byteC_length];omega) (by decide)
 rcases ho.ok with ⟨rfl,rfl⟩ |⟨h1,h2⟩
 ·obtain rfl:bs=[]:=by
   have:=hsl.1
   rcases ho.own with ⟨_,h1,_⟩ |⟨_,_,_,h1,_⟩ |⟨_,_,_,_,h1,_⟩
   ·have:=congrArg List.length h1
    rw [byteC_length] at this
    exact List.length_eq_zero_iff.1 this
   ·simp at h1
   ·simp at h1
  repeat' first|refine SO.loadV rfl rfl rfl hb0 rfl ?_|refine SO.val (oc:=.usld) (v:=.nilp) rfl rfl (one1 rfl) (fun K=>rfl) ?_|refine SO.val (oc:=.ustr 5) (v:=strOf []) rfl rfl (two rfl rfl) (fun K=>rfl) ?_|refine SW.a rfl ?_|refine SW.reg ?_|refine SO.nil ?_|refine SO.nilD ?_|(refine SW.drawO rfl ?_;simp only [List.map_cons,List.map_nil])|refine SO.a rfl ?_|refine SO.lenSl rfl rfl rfl (by assumption) ?_|fail
  exact SW.ret code42 ⟨_,rfl,hq _ _ _ ⟨rfl,fun _ _=>rfl,rfl⟩⟩
 ·have hown:=ho.own
  rcases hown with ⟨_,_,h3⟩ |⟨_,_,_,_,_,_,_,_,h3⟩ |⟨a,g,lo,l,rfl,k1,k2,k3,k4,k5,k6,k7,k8,rfl⟩
  ·exact absurd h3 h1
  ·exact absurd h3 h1
  ·have hlb:l=bs.length:=by rw [byteC_length] at k1;omega
   subst hlb
   have hpos:0 < bs.length:=List.length_pos_iff.2 h2
   repeat' first|refine SO.loadV rfl rfl rfl hb0 rfl ?_|refine SO.val (oc:=.usld) (v:=.ptr a 0) rfl rfl (one1 rfl) (fun K=>by show guardB (Nat.blt 0 bs.length) (K.v (.ptr a 0) h n)=_;rw [show Nat.blt 0 bs.length=true by simp [Nat.blt];omega];rfl) ?_|refine SO.val (oc:=.ustr 5) rfl rfl (two rfl rfl) (ex_ustr k6 k7 k8 h2 (by omega)) ?_|refine SW.a rfl ?_|refine SW.reg ?_|refine SO.nil ?_|refine SO.nilD ?_|(refine SW.drawO rfl ?_;simp only [List.map_cons,List.map_nil])|refine SO.a rfl ?_|refine SO.lenSl rfl rfl rfl (by assumption) ?_|fail
   refine SW.ret code42 ⟨_,rfl,hq _ _ _ ⟨rfl,fun c hc=>?_,rfl⟩⟩
   rw [hb_other _ _ (by omega),hb_other _ _ (by omega)]
set_option maxRecDepth 100000
set_option maxHeartbeats 4000000
theorem XR.nodes_pos (x:XR):1<=x.nodes:=by cases x<;>simp [XR.nodes]
theorem nodess_len:∀ ys:List XR,ys.length<=XR.nodess ys
 | []=>by simp [XR.nodess]
 | y::ys=>by
  have:=y.nodes_pos
  have:=nodess_len ys
  simp [XR.nodess];omega
theorem XR.enc_pos (x:XR):1<=x.enc.length:=by cases x<;>simp [XR.enc];omega
theorem encs_len:∀ ys:List XR,ys.length<=(XR.encs ys).length
 | []=>by simp [XR.encs]
 | y::ys=>by
  have:=y.enc_pos
  have:=encs_len ys
  simp [XR.encs];omega
theorem encs_take {xs:List XR} {i:Nat} (hi:i < xs.length):XR.encs (xs.take (i+1))=XR.encs (xs.take i)++xs[i].enc/\(XR.encs (xs.take i)).length+xs[i].enc.length<=(XR.encs xs).length:=by
 have e1:XR.encs (xs.take (i+1))=XR.encs (xs.take i)++xs[i].enc:=by rw [List.take_succ_eq_append_getElem hi,encs_append];simp [XR.encs]
 have e2:XR.encs xs=XR.encs (xs.take (i+1))++XR.encs (xs.drop (i+1)):=by rw [<- encs_append,List.take_append_drop]
 exact⟨e1,by rw [e2,e1];simp⟩
theorem nodess_take {xs:List XR} {i:Nat} (hi:i < xs.length):XR.nodess (xs.take (i+1))=XR.nodess (xs.take i)+xs[i].nodes/\XR.nodess (xs.take i)+xs[i].nodes<=XR.nodess xs:=by
 have e1:XR.nodess (xs.take (i+1))=XR.nodess (xs.take i)+xs[i].nodes:=by rw [List.take_succ_eq_append_getElem hi,nodess_append];simp [XR.nodess]
 have e2:XR.nodess xs=XR.nodess (xs.take (i+1))+XR.nodess (xs.drop (i+1)):=by rw [<- nodess_append,List.take_append_drop]
 exact⟨e1,by omega⟩
theorem encode25:∀ (x:XR) {h:Hp} {n b:Nat} {bs:List UInt8},Pow h b->XOk h b x->Bld h n b bs->bs.length+x.enc.length<=1000000->Fn E 41 [.ptr b 0,.agg (xC x)] h n fun r h' n'=>Bld h' n' b (bs++x.enc)/\Kp b h n h' n':=by
 intro x
 induction hsz:SizeOf.sizeOf x using Nat.strongRecOn generalizing x with
 | ind sz ih =>
  intro h n b bs hpw hx hB hle
  have hbn:=hB.lt
  refine Fn.of code41 (by decide) rfl fun Q cs hq=>?_
  show SW E Q 41 [(r0,.ptr b 0),(r1,.agg (xC x))] _ _ _ _
  cases hx with
  | atom ts =>
   simp only [XR.enc] at hle hq
   have hle':bs.length+((decN ts.length).length+1+ts.length)<=1000000:=by simpa [Nat.add_assoc,Nat.add_comm] using hle
   repeat' first|refine SO.box rfl rfl rfl (by simp) (fun h1 hc hE=>?_)|refine SO.loadV rfl rfl rfl (by assumption) rfl ?_|refine SW.a rfl ?_|refine SW.reg ?_|refine SO.nil ?_|refine SO.a rfl ?_
   refine SO.callG rfl rfl rfl (itoa50 (hpw.ext (hE.less (by omega))) ts.length (by omega)) ?_
   rintro _ h2 n2 ⟨rfl,hE2⟩
   have l2:=hE2.le
   refine SO.callG rfl rfl rfl (writeString53 (decN ts.length) ((hB.ext hE).ext hE2) (by omega)) ?_
   rintro _ h3 n3 ⟨hB3,hK3⟩
   have l3:=hK3.le
   repeat' first|refine SW.a rfl ?_|refine SW.reg ?_|refine SO.nil ?_|refine SO.a rfl ?_
   refine SO.callG rfl rfl rfl (writeByte54 58 hB3 (by simp;omega)) ?_
   rintro _ h4 n4 ⟨hB4,hK4⟩
   have l4:=hK4.le
   have hc4:hb h4 n=some (.cell (xC (.atom ts)) 56 false):=hK4.cell n _ _ _ (by omega) (by omega) (hK3.cell n _ _ _ (by omega) (by omega) (by rw [hE2.same n (by omega)];exact hc))
   repeat' first|refine SO.loadV rfl rfl rfl hc4 rfl ?_|refine SW.a rfl ?_|refine SW.reg ?_|refine SO.nil ?_|refine SO.a rfl ?_
   refine SO.callG rfl rfl rfl (writeString53 ts hB4 (by simp;omega)) ?_
   rintro _ h5 n5 ⟨hB5,hK5⟩
   repeat' refine SO.nil ?_
   refine SW.ret code41 (hq _ _ _ ⟨?_,(((Kp.of (hE.trans hE2) hbn).trans hK3).trans hK4).trans hK5⟩)
   have e:bs++(decN ts.length++58::ts)=bs++decN ts.length++[58]++ts:=by simp
   rw [e];exact hB5
  | list v xs hs hxs =>
   simp only [XR.enc] at hle hq
   have hlel:bs.length+((XR.encs xs).length+2)<=1000000:=by simpa using hle
   have hl:=encs_len xs
   have loop:∀ (k i:Nat) (h1:Hp) (n1:Nat),i+k=xs.length->Bld h1 n1 b (bs++40::XR.encs (xs.take i))->Kp b h n h1 n1->∀ R,look R r0=some (.ptr b 0)->look R r24=some v->look R r25=some (.int .i64 (xs.length:Int))->look R r26=some (.int .i64 (i:Int))->SW E Q 41 R [.code c41x11,.inLoop c41x11,.inBlock 0,.code (.reg c41x12)] cs h1 n1:=by
    intro k
    induction k with
    | zero =>
     intro i h1 n1 hi hB1 hK1 R q0 q24 q25 q26
     rw [show i=xs.length by omega,List.take_length] at hB1
     refine SW.sub (R':=[(r0,.ptr b 0),(r24,v),(r25,.int .i64 (xs.length:Int)),(r26,.int .i64 (i:Int))]) (by simp [q0,q24,q25,q26]) ?_
     repeat' first|refine SW.a rfl ?_|refine SW.reg ?_|refine SO.nil ?_|refine SO.a rfl ?_|refine SO.cF rfl (by omega) ?_|fail
     refine SO.callG rfl rfl rfl (writeByte54 41 hB1 (by simp;omega)) ?_
     rintro _ h2 n2 ⟨hB2,hK2⟩
     repeat' refine SO.nil ?_
     refine SW.fin code41 (hq _ _ _ ⟨?_,hK1.trans hK2⟩)
     have e:bs++40::(XR.encs xs++[41])=bs++40::XR.encs xs++[41]:=by simp
     rw [e];exact hB2
    | succ k ihk =>
     intro i h1 n1 hi hB1 hK1 R q0 q24 q25 q26
     have hi':i < xs.length:=by omega
     have l1:=hK1.le
     have hs1:=hs.ext hK1.gr
     have hmem:=List.getElem_mem hi'
     obtain⟨e1,e3⟩:=encs_take hi'
     refine SW.sub (R':=[(r0,.ptr b 0),(r24,v),(r25,.int .i64 (xs.length:Int)),(r26,.int .i64 (i:Int))]) (by simp [q0,q24,q25,q26]) ?_
     repeat' first|refine SO.idxOf xC_length rfl rfl rfl rfl hs1 hi' (fun a o hp=>?_)|refine SO.loadA rfl rfl rfl (by assumption) ⟨by omega,fun _ _=>rfl⟩ (xC_length _) ?_|refine SO.alloc rfl rfl (fun h2 hc2 hE2=>?_)|refine SW.a rfl ?_|refine SW.reg ?_|refine SO.nil ?_|refine SO.cT rfl (by omega) ?_|fail
     refine SO.storeAll rfl rfl rfl hc2 (xC_length _) rfl (fun h3 hc3 hk3=>?_)
     have hE3:Gr h1 n1 h3 (n1+1):=hE2.keep (Nat.le_refl _) hk3
     repeat' first|refine SW.reg ?_|refine SO.nil ?_|refine SO.a rfl ?_
     refine SO.loadVA rfl rfl rfl hc3 (xC_length _) ?_
     skip
     have hG3:Gr h b h3 b:=hK1.gr.trans (Kp.of hE3 (by omega)).gr
     refine SO.callG rfl rfl rfl (ih (SizeOf.sizeOf xs[i]) (by rw [<- hsz];have:=List.sizeOf_lt_of_mem hmem;simp;omega) xs[i] rfl (hpw.ext hG3) ((hxs _ hmem).ext hG3) (hB1.ext hE3) (by simp;omega)) ?_
     rintro _ h4 n4 ⟨hB4,hK4⟩
     repeat' first|refine SW.a rfl ?_|refine SW.reg ?_|refine SO.nil ?_|refine SO.a rfl ?_|refine SO.add rfl rfl rfl rfl (by omega) ?_|fail
     refine SW.again ?_
     refine ihk (i+1) h4 n4 (by omega) ?_ ((hK1.trans (Kp.of hE3 (by omega))).trans hK4) _ rfl rfl rfl rfl
     rw [e1]
     have e:bs++40::(XR.encs (xs.take i)++xs[i].enc)=bs++40::XR.encs (xs.take i)++xs[i].enc:=by simp
     rw [e];exact hB4
   repeat' first|refine SO.box rfl rfl rfl (by simp) (fun h1 hc hE=>?_)|refine SO.loadV rfl rfl rfl (by assumption) rfl ?_|refine SW.a rfl ?_|refine SW.reg ?_|refine SO.nil ?_|refine SO.a rfl ?_
   refine SO.callG rfl rfl rfl (writeByte54 40 (hB.ext hE) (by omega)) ?_
   rintro _ h2 n2 ⟨hB2,hK2⟩
   have hc2:hb h2 n=some (.cell (xC (.list v xs)) 56 false):=hK2.cell n _ _ _ (by omega) (by omega) hc
   have hK:Kp b h n h2 n2:=(Kp.of hE hbn).trans hK2
   have hs2:=hs.ext hK.gr
   repeat' first|refine SO.loadV rfl rfl rfl hc2 rfl ?_|refine SW.a rfl ?_|refine SW.reg ?_|refine SO.nil ?_|refine SO.a rfl ?_|refine SO.lenSl rfl rfl rfl (by assumption) ?_|fail
   refine SW.loop ?_
   exact loop xs.length 0 _ _ (by omega) (by simpa [XR.encs] using hB2) hK _ rfl rfl rfl rfl
theorem add51:∀ (x:XR) (d:Nat) {h:Hp} {n m c lv:Nat},XOk h m x->XFit d x->hb h m=some (.cell [.int .i64 (c:Int),.bool false] 153 false)->m < n->c+x.nodes<=20000->lv+d<=13->Fn E 71 [.ptr m 0,.agg (xC x),.int .i64 (lv:Int)] h n fun r h' n'=>hb h' m=some (.cell [.int .i64 ((c+x.nodes:Nat):Int),.bool false] 153 false)/\n<=n'/\∀ a,a≠m->a < n->hb h' a=hb h a:=by
 intro x
 induction hsz:SizeOf.sizeOf x using Nat.strongRecOn generalizing x with
 | ind sz ih =>
  intro d h n m c lv hx hf hm hmn hc20 hd
  refine Fn.of code71 (by decide) rfl fun Q cs hq=>?_
  show SW E Q 71 [(r0,.ptr m 0),(r1,.agg (xC x)),(r2,.int .i64 (lv:Int))] _ _ _ _
  cases hx with
  | atom ts =>
   cases hf with
   | atom d' _ hbs =>
    simp only [XR.nodes] at hc20 hq
    repeat' first|refine SO.box rfl rfl rfl (by simp) (fun h1 hc1 hE=>?_)|refine SW.a rfl ?_|refine SW.reg ?_|refine SO.nil ?_|refine SO.a rfl ?_
    have hm1:hb h1 m=some (.cell [.int .i64 (c:Int),.bool false] 153 false):=by rw [hE.same m hmn];exact hm
    repeat' first|refine SO.loadV rfl rfl rfl hm1 rfl ?_|refine SO.a rfl ?_|refine SO.add rfl rfl rfl rfl (by omega) ?_|fail
    refine SO.store1 rfl rfl rfl hm1 rfl (by simp) (by simp) (fun h2 hm2 hk2=>?_)
    have hc2:hb h2 n=some (.cell (xC (.atom ts)) 56 false):=by rw [hk2 n (by omega)];exact hc1
    repeat' first|refine SO.loadV rfl rfl rfl hc2 rfl ?_|refine SO.loadV rfl rfl rfl hm2 rfl ?_|refine SW.a rfl ?_|refine SW.reg ?_|refine SO.nil ?_|refine SO.a rfl ?_|refine SO.cF rfl (by omega) ?_|fail
    exact SW.ret code71 (hq _ _ _ ⟨hm2,by omega,fun a h1 h2=>by rw [hk2 a h1,hE.same a h2]⟩)
  | list v xs hs hxs =>
   cases hf with
   | list d' _ _ hfs =>
    simp only [XR.nodes] at hc20 hq
    have hl:=nodess_len xs
    have loop:∀ (k i:Nat) (h1:Hp) (n1:Nat),i+k=xs.length->hb h1 m=some (.cell [.int .i64 ((c+1+XR.nodess (xs.take i):Nat):Int),.bool false] 153 false)->n<=n1->(∀ a,a≠m->a < n->hb h1 a=hb h a)->∀ R,look R r0=some (.ptr m 0)->look R r2=some (.int .i64 (lv:Int))->look R r31=some v->look R r32=some (.int .i64 (xs.length:Int))->look R r33=some (.int .i64 (i:Int))->SW E Q 71 R [.code c71x11,.inLoop c71x11,.inBlock 0] cs h1 n1:=by
     intro k
     induction k with
     | zero =>
      intro i h1 n1 hi hm1 hn1 hk1 R q0 q2 q31 q32 q33
      rw [show i=xs.length by omega,List.take_length] at hm1
      refine SW.sub (R':=[(r0,.ptr m 0),(r2,.int .i64 (lv:Int)),(r31,v),(r32,.int .i64 (xs.length:Int)),(r33,.int .i64 (i:Int))]) (by simp [q0,q2,q31,q32,q33]) ?_
      repeat' first|refine SW.a rfl ?_|refine SW.reg ?_|refine SO.nil ?_|refine SO.cF rfl (by omega) ?_|fail
      exact SW.fin code71 (hq _ _ _ ⟨by rw [<- Nat.add_assoc];exact hm1,hn1,hk1⟩)
     | succ k ihk =>
      intro i h1 n1 hi hm1 hn1 hk1 R q0 q2 q31 q32 q33
      have hi':i < xs.length:=by omega
      have hGm:Gr h m h1 m:=⟨Nat.le_refl _,fun a ha=>hk1 a (by omega) (by omega)⟩
      have hs1:=hs.ext hGm
      have hmem:=List.getElem_mem hi'
      obtain⟨e1,e2⟩:=nodess_take hi'
      refine SW.sub (R':=[(r0,.ptr m 0),(r2,.int .i64 (lv:Int)),(r31,v),(r32,.int .i64 (xs.length:Int)),(r33,.int .i64 (i:Int))]) (by simp [q0,q2,q31,q32,q33]) ?_
      repeat' first|refine SO.idxOf xC_length rfl rfl rfl rfl hs1 hi' (fun a o hp=>?_)|refine SO.loadA rfl rfl rfl (by assumption) ⟨by omega,fun _ _=>rfl⟩ (xC_length _) ?_|refine SO.alloc rfl rfl (fun h2 hc2 hE2=>?_)|refine SW.a rfl ?_|refine SW.reg ?_|refine SO.nil ?_|refine SO.cT rfl (by omega) ?_|fail
      refine SO.storeAll rfl rfl rfl hc2 (xC_length _) rfl (fun h3 hc3 hk3=>?_)
      have hE3:Gr h1 n1 h3 (n1+1):=hE2.keep (Nat.le_refl _) hk3
      have hm3:hb h3 m=some (.cell [.int .i64 ((c+1+XR.nodess (xs.take i):Nat):Int),.bool false] 153 false):=by rw [hE3.same m (by omega)];exact hm1
      repeat' first|refine SO.loadV rfl rfl rfl hm3 rfl ?_|refine SW.a rfl ?_|refine SW.reg ?_|refine SO.nil ?_|refine SO.a rfl ?_
      refine SO.loadVA rfl rfl rfl hc3 (xC_length _) ?_
      repeat' first|refine SO.a rfl ?_|refine SO.add rfl rfl rfl rfl (by omega) ?_|fail
      have hG3:Gr h m h3 m:=⟨Nat.le_refl _,fun a ha=>by rw [hE3.same a (by omega)];exact hk1 a (by omega) (by omega)⟩
      have hfn:=ih (SizeOf.sizeOf xs[i]) (by rw [<- hsz];have:=List.sizeOf_lt_of_mem hmem;simp;omega) xs[i] rfl d' (lv:=lv+1) (n:=n1+1) ((hxs _ hmem).ext hG3) (hfs _ hmem) hm3 (by omega) (by omega) (by omega)
      rw [show ((lv+1:Nat):Int)=(lv:Int)+1 by omega] at hfn
      refine SO.callG rfl rfl rfl hfn ?_
      rintro _ h4 n4 ⟨hm4,hn4,hk4⟩
      repeat' first|refine SW.a rfl ?_|refine SW.reg ?_|refine SO.nil ?_|refine SO.a rfl ?_|refine SO.add rfl rfl rfl rfl (by omega) ?_|fail
      refine SW.again ?_
      refine ihk (i+1) h4 n4 (by omega) ?_ (by omega) (fun a ha1 ha2=>by rw [hk4 a ha1 (by omega),hE3.same a (by omega)];exact hk1 a ha1 ha2) _ rfl rfl rfl rfl rfl
      rw [e1,<- Nat.add_assoc];exact hm4
    repeat' first|refine SO.box rfl rfl rfl (by simp) (fun h1 hc1 hE=>?_)|refine SW.a rfl ?_|refine SW.reg ?_|refine SO.nil ?_|refine SO.a rfl ?_
    have hm1:hb h1 m=some (.cell [.int .i64 (c:Int),.bool false] 153 false):=by rw [hE.same m hmn];exact hm
    repeat' first|refine SO.loadV rfl rfl rfl hm1 rfl ?_|refine SO.a rfl ?_|refine SO.add rfl rfl rfl rfl (by omega) ?_|fail
    refine SO.store1 rfl rfl rfl hm1 rfl (by simp) (by simp) (fun h2 hm2 hk2=>?_)
    have hc2:hb h2 n=some (.cell (xC (.list v xs)) 56 false):=by rw [hk2 n (by omega)];exact hc1
    repeat' first|refine SO.loadV rfl rfl rfl hc2 rfl ?_|refine SO.loadV rfl rfl rfl hm2 rfl ?_|refine SW.a rfl ?_|refine SW.reg ?_|refine SO.nil ?_|refine SO.a rfl ?_|refine SO.lenSl rfl rfl rfl (by assumption) ?_|refine SO.cF rfl (by omega) ?_|fail
    refine SW.loop ?_
    refine loop xs.length 0 h2 (n+1) (by omega) ?_ (by omega) (fun a h1 h2=>by rw [hk2 a h1,hE.same a h2]) _ rfl rfl rfl rfl rfl
    exact hm2
theorem shape52:∀ (x:XR) (d:Nat) {h:Hp} {n:Nat},XOk h n x->XFit d x->x.nodes<=1000000->Fn E 72 [.agg (xC x)] h n fun r h' n'=>r=.int .i64 0/\Gr h n h' n':=by
 intro x
 induction hsz:SizeOf.sizeOf x using Nat.strongRecOn generalizing x with
 | ind sz ih =>
  intro d h n hx hf hn
  refine Fn.of code72 (by decide) rfl fun Q cs hq=>?_
  show SW E Q 72 [(r0,.agg (xC x))] _ _ _ _
  cases hx with
  | atom ts =>
   cases hf with
   | atom d' _ hbs =>
    have hnil:=nilsSl h n 3
    repeat' first|refine SO.box rfl rfl rfl (by simp) (fun h1 hc hE=>?_)|refine SO.loadV rfl rfl rfl (by assumption) rfl ?_|refine SW.a rfl ?_|refine SW.reg ?_|refine SO.nil ?_|refine SO.a rfl ?_|refine SO.lenSl rfl rfl rfl (by assumption) ?_|refine SO.cF rfl (by omega) ?_|fail
    refine SW.loop ?_
    repeat' first|refine SW.a rfl ?_|refine SW.reg ?_|refine SO.nil ?_|refine SO.a rfl ?_|refine SO.cF rfl (by omega) ?_|fail
    exact SW.ret code72 ⟨_,rfl,hq _ _ _ ⟨rfl,hE⟩⟩
  | list v xs hs hxs =>
   cases hf with
   | list d' _ _ hfs =>
    simp only [XR.nodes] at hn
    have hl:=nodess_len xs
    have hl0:([]:List UInt8).length=0:=rfl
    have loop:∀ (k i:Nat) (h1:Hp) (n1:Nat),i+k=xs.length->Gr h n h1 n1->∀ R,look R r31=some v->look R r32=some (.int .i64 (xs.length:Int))->look R r33=some (.int .i64 (i:Int))->SW E Q 72 R [.code c72x12,.inLoop c72x12,.inBlock 1,.code (.seq (.reg c72x13) .ret)] cs h1 n1:=by
     intro k
     induction k with
     | zero =>
      intro i h1 n1 hi hE R q31 q32 q33
      refine SW.sub (R':=[(r31,v),(r32,.int .i64 (xs.length:Int)),(r33,.int .i64 (i:Int))]) (by simp [q31,q32,q33]) ?_
      repeat' first|refine SW.a rfl ?_|refine SW.reg ?_|refine SO.nil ?_|refine SO.a rfl ?_|refine SO.cF rfl (by omega) ?_|fail
      exact SW.ret code72 ⟨_,rfl,hq _ _ _ ⟨rfl,hE⟩⟩
     | succ k ihk =>
      intro i h1 n1 hi hE R q31 q32 q33
      have hi':i < xs.length:=by omega
      have hs1:=hs.ext hE
      have hmem:=List.getElem_mem hi'
      obtain⟨_,e2⟩:=nodess_take hi'
      refine SW.sub (R':=[(r31,v),(r32,.int .i64 (xs.length:Int)),(r33,.int .i64 (i:Int))]) (by simp [q31,q32,q33]) ?_
      repeat' first|refine SO.idxOf xC_length rfl rfl rfl rfl hs1 hi' (fun a o hp=>?_)|refine SO.loadA rfl rfl rfl (by assumption) (Gr.refl _ _) (xC_length _) ?_|refine SO.alloc rfl rfl (fun h2 hc2 hE2=>?_)|refine SW.a rfl ?_|refine SW.reg ?_|refine SO.nil ?_|refine SO.cT rfl (by omega) ?_|fail
      refine SO.storeAll rfl rfl rfl hc2 (xC_length _) rfl (fun h3 hc3 hk3=>?_)
      have hE3:Gr h1 n1 h3 (n1+1):=hE2.keep (Nat.le_refl _) hk3
      repeat' first|refine SW.a rfl ?_|refine SW.reg ?_|refine SO.nil ?_
      refine SO.loadVA rfl rfl rfl hc3 (xC_length _) ?_
      refine SO.callG rfl rfl rfl (ih (SizeOf.sizeOf xs[i]) (by rw [<- hsz];have:=List.sizeOf_lt_of_mem hmem;simp;omega) xs[i] rfl d' ((hxs _ hmem).ext (hE.trans hE3)) (hfs _ hmem) (by omega)) ?_
      rintro _ h4 n4 ⟨rfl,hE4⟩
      repeat' first|refine SW.a rfl ?_|refine SW.reg ?_|refine SO.nil ?_|refine SO.a rfl ?_|refine SO.cF rfl (by omega) ?_|refine SO.add rfl rfl rfl rfl (by omega) ?_|fail
      refine SW.again ?_
      exact ihk (i+1) h4 n4 (by omega) ((hE.trans hE3).trans hE4) _ rfl rfl rfl
    repeat' first|refine SO.box rfl rfl rfl (by simp) (fun h1 hc hE=>?_)|refine SO.loadV rfl rfl rfl (by assumption) rfl ?_|refine SO.strNe rfl rfl rfl rfl (fun hne=>absurd rfl hne) (fun _=>?_)|refine SW.a rfl ?_|refine SW.reg ?_|refine SO.nil ?_|refine SO.a rfl ?_|refine SO.lenSl rfl rfl rfl (by assumption) ?_|refine SO.cF rfl (by omega) ?_|fail
    refine SW.loop ?_
    exact loop xs.length 0 _ _ (by omega) hE _ rfl rfl rfl
theorem xcheck24 (x:XR) {h:Hp} {n:Nat} (hx:XOk h n x) (hf:XFit 12 x) (hn:x.nodes<=20000):Fn E 40 [.agg (xC x)] h n fun r h' n'=>r=.int .i64 0/\Gr h n h' n':=by
 refine Fn.of code40 (by decide) rfl fun Q cs hq=>?_
 show SW E Q 40 [(r0,.agg (xC x))] _ _ _ _
 repeat' first|refine SO.box rfl rfl rfl (by simp) (fun h1 hc hE=>?_)|refine SW.a rfl ?_|refine SW.reg ?_|refine SO.nil ?_|refine SO.a rfl ?_
 refine SO.build rfl rfl rfl (fun K=>rfl) ?_
 refine SO.box rfl rfl rfl (by simp) (fun h2 hm hE2=>?_)
 have hc2:hb h2 n=some (.cell (xC x) 56 false):=by rw [hE2.same n (by omega)];exact hc
 repeat' first|refine SW.a rfl ?_|refine SW.reg ?_|refine SO.nil ?_|refine SO.a rfl ?_
 refine SO.loadVA rfl rfl rfl hc2 (xC_length x) ?_
 refine SO.callG rfl rfl rfl (add51 x 12 (m:=n+1) (c:=0) (lv:=1) (hx.ext (hE.trans ⟨by omega,fun a ha=>hE2.same a (by omega)⟩)) hf hm (by omega) (by omega) (by omega)) ?_
 rintro _ h3 n3 ⟨hm3,hn3,hk3⟩
 have hE3:Gr h n h3 n3:=⟨by omega,fun a ha=>by rw [hk3 a (by omega) (by omega),hE2.same a (by omega),hE.same a ha]⟩
 have hc3:hb h3 n=some (.cell (xC x) 56 false):=by rw [hk3 n (by omega) (by omega)];exact hc2
 repeat' first|refine SO.loadV rfl rfl rfl hm3 rfl ?_|refine SW.a rfl ?_|refine SW.reg ?_|refine SO.nil ?_|refine SO.a rfl ?_
 refine SO.loadVA rfl rfl rfl hc3 (xC_length x) ?_
 refine SO.callG rfl rfl rfl (shape52 x 12 (hx.ext hE3) hf (by omega)) ?_
 rintro _ h4 n4 ⟨rfl,hE4⟩
 repeat' first|refine SO.nil ?_|refine SO.a rfl ?_
 exact SW.ret code40 ⟨_,rfl,hq _ _ _ ⟨rfl,hE3.trans hE4⟩⟩
theorem xencode15 (x:XR) {h:Hp} {n:Nat} (hpw:Pow h n) (hx:XOk h n x) (hf:XFit 12 x) (hn:x.nodes<=20000) (hle:x.enc.length<=1000000):Fn E 24 [.agg (xC x)] h n fun r h' n'=>r=.tup [strOf x.enc,.int .i64 0]/\Gr h n h' n':=by
 refine Fn.of code24 (by decide) rfl fun Q cs hq=>?_
 show SW E Q 24 [(r0,.agg (xC x))] _ _ _ _
 repeat' first|refine SO.box rfl rfl rfl (by simp) (fun h1 hc hE=>?_)|refine SW.a rfl ?_|refine SW.reg ?_|refine SO.nil ?_|refine SO.a rfl ?_
 refine SO.loadVA rfl rfl rfl hc (xC_length x) ?_
 refine SO.callG rfl rfl rfl (xcheck24 x (hx.ext hE) hf hn) ?_
 rintro _ h2 n2 ⟨rfl,hE2⟩
 have l2:=hE2.le
 have hc2:hb h2 n=some (.cell (xC x) 56 false):=by rw [hE2.same n (by omega)];exact hc
 repeat' first|refine SO.alloc rfl rfl (fun h3 hb3 hE3=>?_)|refine SW.a rfl ?_|refine SW.reg ?_|refine SO.nil ?_|refine SO.a rfl ?_|refine SO.cF rfl (by omega) ?_|fail
 have hc3:hb h3 n=some (.cell (xC x) 56 false):=by rw [hE3.same n (by omega)];exact hc2
 refine SO.loadVA rfl rfl rfl hc3 (xC_length x) ?_
 have hG:Gr h n h3 n2:=⟨by omega,fun a ha=>by rw [hE3.same a (by omega),hE2.same a (by omega),hE.same a ha]⟩
 have hB:Bld h3 (n2+1) n2 []:=⟨.nilp,.nils,none,hb3,.inl rfl,⟨.inl ⟨rfl,rfl,rfl⟩,.inl ⟨rfl,rfl⟩⟩,by omega⟩
 refine SO.callG rfl rfl rfl (encode25 x (hpw.ext hG) (hx.ext hG) hB (by simpa using hle)) ?_
 rintro _ h4 n4 ⟨hB4,hK4⟩
 have l4:=hK4.le
 rw [List.nil_append] at hB4
 repeat' first|refine SW.a rfl ?_|refine SW.reg ?_|refine SO.nil ?_
 refine SO.callG rfl rfl rfl (string26 hB4 (by omega)) ?_
 rintro _ h5 n5 ⟨rfl,hk5,rfl⟩
 repeat' first|refine SO.nil ?_|refine SO.a rfl ?_
 refine SW.ret code24 ⟨_,rfl,_,rfl,hq _ _ _ ⟨rfl,⟨by omega,fun a ha=>?_⟩⟩⟩
 rw [hk5 a (by omega),hK4.low a (by omega)]
 exact hG.same a ha
end Go.Ev
