/- Contracts: quiltref12.parents, snapshot, first, Check. -/
import Derived.Test.YtognadjclbihgaaGreatDoorE6
import Derived.Test.YtognadjclbihgaaGreatDoorFC
import Derived.Test.YtognadjclbihgaaGreatDoorE7
set_option linter.all false
namespace Go.Ev
set_option maxRecDepth 100000
set_option maxHeartbeats 4000000
def snapE (rs:List SnapR) (i:Nat):Int:=match rs[i]? with
 | none=>0
 | some r=>if parentsE rs i≠0 then parentsE rs i else if nameOk r.s.author=false then 5 else if 1000 < r.s.message.length then 4 else if r.s.time < 0\/1099511627776 < r.s.time then 2 else treeE r.s.files
def checkE (rs:List SnapR):Int:=if 400 < rs.length then 4 else firstE (snapE rs) rs.length 0
def firstI (e:Nat->Int):Nat->Nat->Nat
 | 0,_=>0
 | n+1,i=>if e i≠0 then i else firstI e n (i+1)
def checkI (rs:List SnapR):Nat:=if 400 < rs.length then 0 else firstI (snapE rs) rs.length 0
set_option maxRecDepth 100000
set_option maxHeartbeats 4000000
section
variable {E:Env} {Q:Post} {fn:Fr} {md:Md} {R:List (Path × AV)} {todo:List AItem} {cs:List AF} {h h' h0:Hp} {n n' n0:Nat} {os:List COp} {k:IntKind} {x y:Int} {p:Path} {g:Option (Path × Bool)} {X Y:CX} {v:AV}
end
def decN (m:Nat):List UInt8:=if m < 10 then [UInt8.ofNat (48+m)] else decN (m / 10)++[UInt8.ofNat (48+m % 10)]
theorem decN_short (m:Nat):∀ k,m < 10 ^ (k+1)->(decN m).length<=k+1:=by
 induction m using Nat.strongRecOn with
 | ind m ih =>
  intro k hk
  rw [decN]
  split
  ·simp
  ·cases k with
   | zero=>simp at hk;omega
   | succ k =>
    have:=ih (m / 10) (by omega) k (by rw [Nat.div_lt_iff_lt_mul (by decide)];rw [Nat.pow_succ] at hk;exact hk)
    simp only [List.length_append,List.length_singleton]
    omega
theorem digit_eq (d:Nat) (hd:d < 10):((48:Int)+(d:Int))=((UInt8.ofNat (48+d)).toNat:Int):=by
 have:(UInt8.ofNat (48+d)).toNat=48+d:=by simp;omega
 rw [this];omega
set_option maxRecDepth 100000
set_option maxHeartbeats 4000000
inductive XR where
 | atom (bs:List UInt8)
 | list (v:AV) (xs:List XR)
def xC:XR->List AV
 | .atom bs=>[.bool false,strOf bs,.nils]
 | .list v _=>[.bool true,strOf [],v]
theorem xC_length (x:XR):(xC x).length=3:=by cases x<;>rfl
inductive XOk (h:Hp) (n:Nat):XR->Prop where
 | atom (bs:List UInt8):XOk h n (.atom bs)
 | list (v:AV) (xs:List XR):Sl h n 3 v xs.length (xs.flatMap xC)->(∀ x ∈ xs,XOk h n x)->XOk h n (.list v xs)
theorem XOk.ext {h h':Hp} {n n':Nat} {x:XR} (hx:XOk h n x) (e:Gr h n h' n'):XOk h' n' x:=by
 induction hx with
 | atom bs=>exact .atom bs
 | list v xs hs _ ih=>exact .list v xs (hs.ext e) ih
inductive SX where
 | atom (bs:List UInt8)
 | list (xs:List SX)
mutual
def XR.sx:XR->SX
 | .atom bs=>.atom bs
 | .list _ xs=>.list (XR.sxs xs)
def XR.sxs:List XR->List SX
 | []=>[]
 | x::xs=>x.sx::XR.sxs xs
end
mutual
def XR.enc:XR->List UInt8
 | .atom bs=>decN bs.length++(58::bs)
 | .list _ xs=>40::(XR.encs xs++[41])
def XR.encs:List XR->List UInt8
 | []=>[]
 | x::xs=>x.enc++XR.encs xs
end
mutual
def XR.nodes:XR->Nat
 | .atom _=>1
 | .list _ xs=>1+XR.nodess xs
def XR.nodess:List XR->Nat
 | []=>0
 | x::xs=>x.nodes+XR.nodess xs
end
inductive XFit:Nat->XR->Prop where
 | atom (d:Nat) (bs:List UInt8):bs.length<=65536->XFit (d+1) (.atom bs)
 | list (d:Nat) (v:AV) (xs:List XR):(∀ x ∈ xs,XFit d x)->XFit (d+1) (.list v xs)
theorem encs_append (xs ys:List XR):XR.encs (xs++ys)=XR.encs xs++XR.encs ys:=by
 induction xs with
 | nil=>simp [XR.encs]
 | cons x xs ih=>simp [XR.encs,ih]
theorem nodess_append (xs ys:List XR):XR.nodess (xs++ys)=XR.nodess xs+XR.nodess ys:=by
 induction xs with
 | nil=>simp [XR.nodess]
 | cons x xs ih=>simp [XR.nodess,ih];omega
set_option maxRecDepth 100000
set_option maxHeartbeats 4000000
theorem nilsSl (h:Hp) (n esz:Nat):Sl h n esz .nils 0 []:=⟨by simp,.inl ⟨rfl,rfl⟩⟩
set_option maxRecDepth 100000
set_option maxHeartbeats 4000000
def encA (bs:List UInt8):List UInt8:=decN bs.length++(58::bs)
def encL (ys:List UInt8):List UInt8:=40::(ys++[41])
def encFile (f:PF):List UInt8:=encL (encA f.path++(encA (decN f.type.toNat)++(encA (decN f.mode.toNat)++(encA f.data++[]))))
def encSnap (s:SN):List UInt8:=encL (encL (s.parents.flatMap fun p=>encA (decN p.toNat))++(encA s.author++(encA s.message++(encA (decN s.time.toNat)++(encL (s.files.flatMap encFile)++[])))))
structure Fine (s:SN):Prop where
 parents:∀ p ∈ s.parents,0<=p/\p<=9000000000000000000
 time:0<=s.time/\s.time<=9000000000000000000
 files:∀ f ∈ s.files,0<=f.type/\f.type<=9000000000000000000/\0<=f.mode/\f.mode<=9000000000000000000/\f.path.length<=65536/\f.data.length<=65536
 author:s.author.length<=65536
 message:s.message.length<=65536
 np:s.parents.length<=1000
 nf:s.files.length<=1000
theorem fit_dec (d m:Nat) (hm:m<=9000000000000000000):XFit (d+1) (.atom (decN m)):=.atom d _ (Nat.le_trans (decN_short m 18 (by omega)) (by decide))
def Rob (n1:Nat) (h:Hp) (n2:Nat) (x:XR):Prop:=∀ (g:Hp) (m:Nat),n2<=m->(∀ b vs e,n1<=b->b < n2->hb h b=some (.cell vs e false)->hb g b=some (.cell vs e false))->XOk g m x
theorem Rob.mono {n1 n2 n2':Nat} {h h':Hp} {x:XR} (hx:Rob n1 h n2 x) (hn:n2<=n2') (hk:∀ b vs e,n1<=b->b < n2->hb h b=some (.cell vs e false)->hb h' b=some (.cell vs e false)):Rob n1 h' n2' x :=
 fun g m hm hg=>hx g m (by omega) fun b vs e h1 h2 h3=>hg b vs e h1 (by omega) (hk b vs e h1 h2 h3)
theorem Rob.atom (n1:Nat) (h:Hp) (n2:Nat) (bs:List UInt8):Rob n1 h n2 (.atom bs):=fun _ _ _ _=>.atom bs
theorem Rob.ext {n1 n2 n2':Nat} {h h':Hp} {x:XR} (hx:Rob n1 h n2 x) (e:Gr h n2 h' n2'):Rob n1 h' n2' x:=hx.mono e.le fun b vs ty _ h2 h3=>by rw [e.same b h2];exact h3
theorem fo_append {n1 ns:Nat} {fo fo':Option Nat} (hfo:∀ f',fo=some f'->ns<=f') (hn:ns<=n1) (hf3:fo'=fo\/∃ f',fo'=some f'/\n1<=f'):∀ f',fo'=some f'->ns<=f':=by
 intro f' e
 rcases hf3 with rfl |⟨f'',rfl,h2⟩
 ·exact hfo f' e
 ·simp at e;omega
theorem own_fam {h:Hp} {n0 n esz:Nat} {e:TypeId} {v:AV} {b:Nat} {cells:List AV} (ho:Own h n0 n esz e v (some b) cells):∃ lo la,hb h b=some (.fam lo la):=by
 rcases ho with ⟨_,_,h1⟩ |⟨_,_,_,_,_,_,_,_,h1⟩ |⟨a,f,lo,l,_,_,_,_,_,_,_,h7,_,h1⟩
 ·simp at h1
 ·simp at h1
 ·simp at h1;subst h1;exact⟨_,_,h7⟩
theorem Rob.append {n0 n1 n2 n3 esz:Nat} {h h3:Hp} {x:XR} {e:TypeId} {v:AV} {fo:Option Nat} {cells:List AV} (hx:Rob n1 h n2 x) (ho:Own h n0 n2 esz e v fo cells) (hn3:n2<=n3) (hk3:∀ b,b < n2->fo≠some b->hb h3 b=hb h b):Rob n1 h3 n3 x :=
 hx.mono hn3 fun b vs ty _ h2 h3'=>by
  rw [hk3 b h2 ?_];exact h3'
  intro e'
  subst e'
  obtain⟨lo,la,h4⟩:=own_fam ho
  rw [h4] at h3';simp at h3'
set_option maxRecDepth 100000
set_option maxHeartbeats 4000000
theorem firstE_zero {e:Nat->Int}:∀ (k i:Nat),firstE e k i=0->∀ j,i<=j->j < i+k->e j=0
 | 0,i,_,j,h1,h2=>by omega
 | k+1,i,h,j,h1,h2=>by
  simp only [firstE] at h
  by_cases h0:e i=0
  ·rw [if_neg (by simpa using h0)] at h
   by_cases hj:j=i
   ·rw [hj];exact h0
   ·exact firstE_zero k (i+1) h j (by omega) (by omega)
  ·rw [if_pos h0] at h;exact absurd h h0
theorem great_false {rs:List SnapR} (hg:greatAll rs=false):rs.length<=6/\∀ r ∈ rs,r.s.parents.length<=8/\r.s.author.length<=60/\r.s.message.length<=1001/\r.s.files.length<=12/\bulk r.s.files<=4000:=by
 simp only [greatAll,Bool.or_eq_false_iff,decide_eq_false_iff_not,List.any_eq_false] at hg
 refine⟨by omega,fun r hr=>?_⟩
 have:=hg.1 r hr
 simp only [greatSnap,greatTree,Bool.or_eq_true,decide_eq_true_eq,not_or] at this
 omega
theorem encA_le (bs:List UInt8) (hl:bs.length<=1000000000):(encA bs).length<=bs.length+20:=by
 have:=decN_short bs.length 9 (by omega)
 simp [encA];omega
theorem encD_le (m:Nat) (hm:m<=9000000000000000000):(encA (decN m)).length<=40:=by
 have:=decN_short m 18 (by omega)
 have:=encA_le (decN m) (by omega)
 omega
theorem flat_le {α:Type} (g:α->List UInt8) (c:Nat):∀ xs:List α,(∀ x ∈ xs,(g x).length<=c)->(xs.flatMap g).length<=xs.length*c
 | [],_=>by simp
 | x::xs,h=>by
  have h1:=h x (by simp)
  have h2:=flat_le g c xs fun y hy=>h y (by simp [hy])
  simp only [List.flatMap_cons,List.length_append,List.length_cons,Nat.succ_mul]
  omega
def printE (rs:List SnapR):List UInt8:=if checkE rs=0 then rs.flatMap fun r=>encSnap r.s else []
end Go.Ev
