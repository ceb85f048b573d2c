/- The plain law of reading: what a text reads as, in plain lists. -/
import Derived.Test.YtognadjclbihgaaGreatDoorFD
set_option linter.all false
namespace Go.Ev
inductive RN where
 | ok (n:Nat) (rest:List UInt8)
 | err (e:Int)
def lenS:Bool->Nat->List UInt8->RN
 | _,_,[]=>.err 11
 | first,n,c::r =>
  if c=58/\first=false then .ok n r
  else if c.toNat < 48\/57 < c.toNat\/(first=false/\n=0) then .err 12
  else if 65536 < 10*n+(c.toNat - 48) then .err 12
  else lenS false (10*n+(c.toNat - 48)) r
inductive RX where
 | ok (x:SX) (rest:List UInt8) (left:Nat)
 | err (e:Int)
inductive RL where
 | ok (xs:List SX) (rest:List UInt8) (left:Nat)
 | err (e:Int)
def atomS (l:List UInt8) (left:Nat):RX:=match lenS true 0 l with
 | .err e=>.err e
 | .ok n r=>if r.length < n then .err 11 else .ok (.atom (r.take n)) (r.drop n) left
def listS (f:List UInt8->Nat->RX):Nat->List UInt8->Nat->RL
 | _,[],_=>.err 11
 | 0,_::_,_=>.err 12
 | k+1,c::r,left=>if c=41 then .ok [] r left else match f (c::r) left with
  | .err e=>.err e
  | .ok x rest left'=>match listS f k rest left' with
   | .err e=>.err e
   | .ok xs rest' left''=>.ok (x::xs) rest' left''
def readS:Nat->List UInt8->Nat->RX
 | _,[],_=>.err 11
 | 0,_::_,_=>.err 12
 | d+1,c::r,left=>if left=0 then .err 12 else if c=40 then match listS (readS d) (r.length+1) r (left - 1) with
   | .err e=>.err e
   | .ok xs rest left'=>.ok (.list xs) rest left'
  else atomS (c::r) (left - 1)
def digB (c:UInt8):Bool:=decide (48<=c.toNat)&&decide (c.toNat<=57)
def unsign:List UInt8->List UInt8
 | 45::r=>r
 | l=>l
def canonS (bs:List UInt8):Bool:=(unsign bs).all digB&&(match unsign bs with|[]=>false|c::_=>!(c == 48)||bs == [48])
def natS (bs:List UInt8):Nat:=bs.foldl (fun n c=>n*10+(c.toNat - 48)) 0
def numS (bs:List UInt8):Option Int:=if canonS bs=true/\natS (unsign bs)<=1099511627776 then some (if bs.head?=some 45 then -(natS (unsign bs):Int) else (natS (unsign bs):Int)) else none
def numX:SX->Option Int
 | .atom bs=>numS bs
 | .list _=>none
def numsX:List SX->Option (List Int)
 | []=>some []
 | x::xs=>match numX x,numsX xs with
  | some n,some ns=>some (n::ns)
  | _,_=>none
def fileX:SX->Option PF
 | .list [.atom p,t,m,.atom d]=>match numX t,numX m with
  | some t,some m=>some ⟨p,t,m,d⟩
  | _,_=>none
 | _=>none
def filesX:List SX->Option (List PF)
 | []=>some []
 | x::xs=>match fileX x,filesX xs with
  | some f,some fs=>some (f::fs)
  | _,_=>none
def snapX:SX->Option SN
 | .list [.list ps,.atom a,.atom m,t,.list fs]=>match numsX ps,numX t,filesX fs with
  | some ps,some t,some fs=>some ⟨ps,a,m,t,fs⟩
  | _,_,_=>none
 | _=>none
inductive PR where
 | ok (l:List (Nat × SN))
 | err (at_:Nat) (e:Int)
def partsS:Nat->Nat->List UInt8->PR
 | _,_,[]=>.ok []
 | 0,at_,_::_=>.err at_ 12
 | k+1,at_,c::r=>match readS 12 (c::r) 20000 with
  | .err e=>.err at_ e
  | .ok x rest _=>match snapX x with
   | none=>.err at_ 3
   | some s=>match partsS k (at_+((c::r).length - rest.length)) rest with
    | .err a e=>.err a e
    | .ok l=>.ok ((at_,s)::l)
theorem lenS_shorter:∀ (l:List UInt8) (b:Bool) (m n:Nat) (rest:List UInt8),lenS b m l=.ok n rest->rest.length < l.length
 | [],b,m,n,rest,h=>by simp [lenS] at h
 | c::r,b,m,n,rest,h=>by
  simp only [lenS] at h
  split at h
  ·simp only [RN.ok.injEq] at h;obtain⟨_,rfl⟩:=h;simp
  ·split at h
   ·simp at h
   ·split at h
    ·simp at h
    ·have:=lenS_shorter r _ _ _ _ h;simp only [List.length_cons];omega
theorem atomS_shorter {l rest:List UInt8} {left left':Nat} {x:SX} (h:atomS l left=.ok x rest left'):rest.length < l.length/\left'=left:=by
 unfold atomS at h
 split at h
 ·simp at h
 ·rename_i n r hr
  have h1:=lenS_shorter _ _ _ _ _ hr
  split at h
  ·simp at h
  ·simp only [RX.ok.injEq] at h
   obtain⟨_,rfl,rfl⟩:=h
   exact⟨by rw [List.length_drop];omega,rfl⟩
theorem listS_shorter {f:List UInt8->Nat->RX} (hf:∀ l left x rest left',f l left=.ok x rest left'->rest.length < l.length/\left'<=left):∀ (k:Nat) (l:List UInt8) (left:Nat) (xs:List SX) (rest:List UInt8) (left':Nat),listS f k l left=.ok xs rest left'->rest.length < l.length/\left'<=left
 | k,[],left,xs,rest,left',h=>by cases k<;>simp [listS] at h
 | 0,c::r,left,xs,rest,left',h=>by simp [listS] at h
 | k+1,c::r,left,xs,rest,left',h=>by
  simp only [listS] at h
  split at h
  ·simp only [RL.ok.injEq] at h;obtain⟨_,rfl,rfl⟩:=h;simp
  ·split at h
   ·simp at h
   ·rename_i x rest1 left1 h1
    have k1:=hf _ _ _ _ _ h1
    split at h
    ·simp at h
    ·rename_i ys rest2 left2 h2
     have k2:=listS_shorter hf k _ _ _ _ _ h2
     simp only [RL.ok.injEq] at h
     obtain⟨_,rfl,rfl⟩:=h
     omega
theorem readS_shorter:∀ (d:Nat) (l:List UInt8) (left:Nat) (x:SX) (rest:List UInt8) (left':Nat),readS d l left=.ok x rest left'->rest.length < l.length/\left' < left
 | d,[],left,x,rest,left',h=>by cases d<;>simp [readS] at h
 | 0,c::r,left,x,rest,left',h=>by simp [readS] at h
 | d+1,c::r,left,x,rest,left',h=>by
  simp only [readS] at h
  split at h
  ·simp at h
  ·split at h
   ·split at h
    ·simp at h
    ·rename_i xs rest1 left1 h1
     have k1:=listS_shorter (fun l left x rest left' h=>(fun k=>⟨k.1,Nat.le_of_lt k.2⟩) (readS_shorter d l left x rest left' h)) _ _ _ _ _ _ h1
     simp only [RX.ok.injEq] at h
     obtain⟨_,rfl,rfl⟩:=h
     simp only [List.length_cons]
     omega
   ·have k1:=atomS_shorter h
    omega
mutual
def SX.enc:SX->List UInt8
 | .atom bs=>encA bs
 | .list xs=>40::(SX.encs xs++[41])
def SX.encs:List SX->List UInt8
 | []=>[]
 | x::xs=>x.enc++SX.encs xs
end
mutual
def SX.nodes:SX->Nat
 | .atom _=>1
 | .list xs=>1+SX.nodess xs
def SX.nodess:List SX->Nat
 | []=>0
 | x::xs=>x.nodes+SX.nodess xs
end
mutual
def SX.fit:Nat->SX->Prop
 | 0,_=>False
 | _+1,.atom bs=>bs.length<=65536
 | d+1,.list xs=>SX.fits d xs
def SX.fits:Nat->List SX->Prop
 | _,[]=>True
 | d,x::xs=>SX.fit d x/\SX.fits d xs
end
theorem digit_nat (d:Nat) (hd:d < 10):(UInt8.ofNat (48+d)).toNat=48+d:=by simp;omega
theorem ne58 {c:UInt8} (h:c.toNat < 58):c≠58:=by
 rintro rfl
 exact absurd h (by decide)
theorem lenS_digit {d n:Nat} (hd:d < 10) (b:Bool) (hb:b=true\/n≠0) (hn:10*n+d<=65536) (l:List UInt8):lenS b n (UInt8.ofNat (48+d)::l)=lenS false (10*n+d) l:=by
 have h1:=digit_nat d hd
 have hne:UInt8.ofNat (48+d)≠58:=ne58 (by omega)
 simp only [lenS]
 rw [if_neg (fun h=>hne h.1),if_neg,h1,if_neg (by omega)]
 ·congr 1;omega
 ·rw [h1]
  rintro (h|h |⟨h,h'⟩)
  ·omega
  ·omega
  ·rcases hb with rfl|hb
   ·simp at h
   ·exact hb h'
theorem lenS_dec (m:Nat):m<=65536->∀ l,lenS true 0 (decN m++l)=lenS false m l:=by
 induction m using Nat.strongRecOn with
 | ind m ih =>
  intro hm l
  rw [decN]
  split
  ·rename_i h
   rw [List.singleton_append,lenS_digit h true (.inl rfl) (by omega)]
   congr 1;omega
  ·rw [List.append_assoc,ih (m / 10) (by omega) (by omega),List.singleton_append,lenS_digit (by omega) false (.inr (by omega)) (by omega)]
   congr 1;omega
theorem lenS_colon (n:Nat) (l:List UInt8):lenS false n (58::l)=.ok n l:=by simp [lenS]
theorem digit_of {c:UInt8} (h1:¬ c.toNat < 48) (h2:¬ 57 < c.toNat):c=UInt8.ofNat (48+(c.toNat - 48)):=by
 have:48+(c.toNat - 48)=c.toNat:=by omega
 rw [this];simp
theorem lenS_inv:∀ (l:List UInt8) (n m:Nat) (r:List UInt8),n<=65536->lenS false n l=.ok m r->decN n++l=decN m++58::r/\m<=65536
 | [],n,m,r,_,h=>by simp [lenS] at h
 | c::l,n,m,r,hn,h=>by
  simp only [lenS] at h
  split at h
  ·rename_i hc
   simp only [RN.ok.injEq] at h
   obtain⟨rfl,rfl⟩:=h
   rw [hc.1];exact⟨rfl,hn⟩
  ·split at h
   ·simp at h
   ·rename_i h2
    split at h
    ·simp at h
    ·have h3:¬ c.toNat < 48/\¬ 57 < c.toNat/\n≠0:=⟨fun e=>h2 (.inl e),fun e=>h2 (.inr (.inl e)),fun e=>h2 (.inr (.inr ⟨by first|rfl|trivial,e⟩))⟩
     obtain⟨k1,k2⟩:=lenS_inv l _ m r (by omega) h
     refine⟨?_,k2⟩
     rw [<- k1]
     have:decN (10*n+(c.toNat - 48))=decN n++[c]:=by
      rw [decN,if_neg (by omega)]
      have e1:(10*n+(c.toNat - 48)) / 10=n:=by omega
      have e2:(10*n+(c.toNat - 48)) % 10=c.toNat - 48:=by omega
      rw [e1,e2,<- digit_of h3.1 h3.2.1]
     rw [this];simp
theorem lenS_inv0 {l r:List UInt8} {m:Nat} (h:lenS true 0 l=.ok m r):l=decN m++58::r/\m<=65536:=by
 cases l with
 | nil=>simp [lenS] at h
 | cons c l =>
  simp only [lenS] at h
  split at h
  ·rename_i hc;simp at hc
  ·split at h
   ·simp at h
   ·rename_i h2
    split at h
    ·simp at h
    ·have h3:¬ c.toNat < 48/\¬ 57 < c.toNat:=⟨fun e=>h2 (.inl e),fun e=>h2 (.inr (.inl e))⟩
     obtain⟨k1,k2⟩:=lenS_inv l _ m r (by omega) h
     refine⟨?_,k2⟩
     rw [<- k1]
     have:decN (10*0+(c.toNat - 48))=[c]:=by
      rw [decN,if_pos (by omega)]
      have e1:48+(10*0+(c.toNat - 48))=48+(c.toNat - 48):=by omega
      rw [e1,<- digit_of h3.1 h3.2]
     rw [this];rfl
theorem decN_head (m:Nat):∃ c l,decN m=c::l/\48<=c.toNat/\c.toNat<=57:=by
 induction m using Nat.strongRecOn with
 | ind m ih =>
  rw [decN]
  split
  ·rename_i h
   exact⟨_,[],rfl,by rw [digit_nat m h];omega,by rw [digit_nat m h];omega⟩
  ·obtain⟨c,l,h1,h2,h3⟩:=ih (m / 10) (by omega)
   exact⟨c,l++[_],by rw [h1];rfl,h2,h3⟩
theorem enc_head (x:SX):∃ c l,x.enc=c::l/\c≠41:=by
 cases x with
 | atom bs =>
  obtain⟨c,l,h1,h2,h3⟩:=decN_head bs.length
  refine⟨c,l++58::bs,by simp [SX.enc,encA,h1],?_⟩
  rintro rfl
  exact absurd h2 (by decide)
 | list xs=>exact⟨40,_,rfl,by decide⟩
theorem listS_enc {f:List UInt8->Nat->RX}:∀ (xs:List SX) (k left:Nat) (rest:List UInt8),(∀ x ∈ xs,∀ left rest,x.nodes<=left->f (x.enc++rest) left=.ok x rest (left - x.nodes))->(SX.encs xs++41::rest).length<=k->SX.nodess xs<=left ->
  listS f k (SX.encs xs++41::rest) left=.ok xs rest (left - SX.nodess xs)
 | [],k,left,rest,_,hk,hl=>by
  cases k with
  | zero=>simp at hk
  | succ k=>simp [SX.encs,listS,SX.nodess]
 | x::xs,k,left,rest,hf,hk,hl=>by
  cases k with
  | zero=>simp at hk
  | succ k =>
   simp only [SX.nodess] at hl
   obtain⟨c,l,h1,h2⟩:=enc_head x
   have hx:=hf x (by simp) left (SX.encs xs++41::rest) (by omega)
   have ih:=listS_enc xs k (left - x.nodes) rest (fun y hy=>hf y (List.mem_cons_of_mem _ hy)) (by simp only [SX.encs,h1,List.append_assoc,List.cons_append,List.length_cons,List.length_append] at hk ⊢;omega) (by omega)
   simp only [SX.encs,List.append_assoc]
   rw [h1] at hx ⊢
   simp only [List.cons_append] at hx ⊢
   simp only [listS,if_neg h2,hx,ih]
   simp only [SX.nodess]
   congr 1;omega
theorem fits_mem:∀ {d:Nat} {xs:List SX},SX.fits d xs->∀ x ∈ xs,SX.fit d x
 | d,[],_,x,hx=>by simp at hx
 | d,y::ys,h,x,hx=>by
  simp only [SX.fits] at h
  rcases List.mem_cons.1 hx with rfl|hx
  ·exact h.1
  ·exact fits_mem h.2 x hx
theorem atomS_enc (bs rest:List UInt8) (left:Nat) (hb:bs.length<=65536):atomS (encA bs++rest) left=.ok (.atom bs) rest left:=by
 unfold atomS encA
 rw [List.append_assoc,lenS_dec _ hb,List.cons_append,lenS_colon]
 simp
theorem readS_enc:∀ (d:Nat) (x:SX) (left:Nat) (rest:List UInt8),SX.fit d x->x.nodes<=left->readS d (x.enc++rest) left=.ok x rest (left - x.nodes)
 | 0,x,left,rest,h,_=>by simp [SX.fit] at h
 | d+1,.atom bs,left,rest,h,hn=>by
  simp only [SX.fit] at h
  have ha:=atomS_enc bs rest (left - 1) h
  obtain⟨c,l,h1,h2,h3⟩:=decN_head bs.length
  simp only [SX.nodes] at hn ⊢
  simp only [SX.enc]
  rw [encA,h1] at ha ⊢
  simp only [List.cons_append] at ha ⊢
  have hne:c≠40:=by rintro rfl;exact absurd h2 (by decide)
  simp only [readS,if_neg hne,if_neg (show ¬ left=0 by omega)]
  exact ha
 | d+1,.list xs,left,rest,h,hn=>by
  simp only [SX.fit] at h
  simp only [SX.nodes] at hn ⊢
  have hl:=listS_enc (f:=readS d) xs ((SX.encs xs++41::rest).length+1) (left - 1) rest (fun x hx left rest hn=>readS_enc d x left rest (fits_mem h x hx) hn) (by omega) (by omega)
  have e:(SX.list xs).enc++rest=40::(SX.encs xs++41::rest):=by simp [SX.enc]
  rw [e]
  simp only [readS,if_neg (show ¬ left=0 by omega),if_true,hl]
  congr 1;omega
theorem listS_inv {f:List UInt8->Nat->RX} {d:Nat} (hf:∀ l left x rest left',f l left=.ok x rest left'->l=x.enc++rest/\SX.fit d x/\left=left'+x.nodes):∀ (k:Nat) (l:List UInt8) (left:Nat) (xs:List SX) (rest:List UInt8) (left':Nat),listS f k l left=.ok xs rest left' ->
  l=SX.encs xs++41::rest/\SX.fits d xs/\left=left'+SX.nodess xs
 | k,[],left,xs,rest,left',h=>by cases k<;>simp [listS] at h
 | 0,c::r,left,xs,rest,left',h=>by simp [listS] at h
 | k+1,c::r,left,xs,rest,left',h=>by
  simp only [listS] at h
  split at h
  ·rename_i hc
   simp only [RL.ok.injEq] at h;obtain⟨rfl,rfl,rfl⟩:=h
   rw [hc];exact⟨rfl,trivial,rfl⟩
  ·split at h
   ·simp at h
   ·rename_i x rest1 left1 h1
    obtain⟨k1,k2,k3⟩:=hf _ _ _ _ _ h1
    split at h
    ·simp at h
    ·rename_i ys rest2 left2 h2
     obtain⟨m1,m2,m3⟩:=listS_inv hf k _ _ _ _ _ h2
     simp only [RL.ok.injEq] at h
     obtain⟨rfl,rfl,rfl⟩:=h
     refine⟨by rw [k1,m1];simp [SX.encs],⟨k2,m2⟩,by simp only [SX.nodess];omega⟩
theorem readS_inv:∀ (d:Nat) (l:List UInt8) (left:Nat) (x:SX) (rest:List UInt8) (left':Nat),readS d l left=.ok x rest left'->l=x.enc++rest/\SX.fit d x/\left=left'+x.nodes
 | d,[],left,x,rest,left',h=>by cases d<;>simp [readS] at h
 | 0,c::r,left,x,rest,left',h=>by simp [readS] at h
 | d+1,c::r,left,x,rest,left',h=>by
  simp only [readS] at h
  split at h
  ·simp at h
  ·rename_i hl0
   split at h
   ·rename_i hc
    split at h
    ·simp at h
    ·rename_i xs rest1 left1 h1
     obtain⟨k1,k2,k3⟩:=listS_inv (fun l left x rest left' h=>readS_inv d l left x rest left' h) _ _ _ _ _ _ h1
     simp only [RX.ok.injEq] at h
     obtain⟨rfl,rfl,rfl⟩:=h
     refine⟨by rw [hc,k1];simp [SX.enc],by simpa [SX.fit] using k2,by simp only [SX.nodes];omega⟩
   ·unfold atomS at h
    split at h
    ·simp at h
    ·rename_i n r' hr
     obtain⟨k1,k2⟩:=lenS_inv0 hr
     split at h
     ·simp at h
     ·rename_i hlt
      simp only [RX.ok.injEq] at h
      obtain⟨rfl,rfl,rfl⟩:=h
      have hlen:(r'.take n).length=n:=by rw [List.length_take];omega
      refine⟨?_,by simp only [SX.fit];omega,by simp only [SX.nodes];omega⟩
      rw [k1,SX.enc,encA,hlen]
      simp
theorem natS_snoc (bs:List UInt8) (c:UInt8):natS (bs++[c])=natS bs*10+(c.toNat - 48):=by simp [natS]
theorem natS_dec (m:Nat):natS (decN m)=m:=by
 induction m using Nat.strongRecOn with
 | ind m ih =>
  rw [decN]
  split
  ·rename_i h;simp only [natS,List.foldl_cons,List.foldl_nil,digit_nat m h];omega
  ·rw [natS_snoc,ih (m / 10) (by omega),digit_nat _ (by omega)];omega
theorem digB_iff (c:UInt8):digB c=true ↔ 48<=c.toNat/\c.toNat<=57:=by simp [digB]
theorem decN_digs (m:Nat):∀ c ∈ decN m,digB c=true:=by
 induction m using Nat.strongRecOn with
 | ind m ih =>
  rw [decN]
  split
  ·rename_i h
   intro c hc
   simp only [List.mem_singleton] at hc
   rw [hc,digB_iff,digit_nat m h];omega
  ·intro c hc
   rcases List.mem_append.1 hc with hc|hc
   ·exact ih (m / 10) (by omega) c hc
   ·simp only [List.mem_singleton] at hc
    rw [hc,digB_iff,digit_nat _ (by omega)];omega
theorem decN_zero (m:Nat) (h:(decN m).head?=some 48):m=0:=by
 induction m using Nat.strongRecOn with
 | ind m ih =>
  rw [decN] at h
  split at h
  ·rename_i hm
   simp only [List.head?_cons,Option.some.injEq] at h
   have:=congrArg UInt8.toNat h
   rw [digit_nat m hm] at this
   simp at this;exact this
  ·obtain⟨c,l,h1,_,_⟩:=decN_head (m / 10)
   have h2:=ih (m / 10) (by omega) (by rw [h1] at h ⊢;exact h)
   omega
theorem unsign_dec (m:Nat):unsign (decN m)=decN m:=by
 obtain⟨c,l,h1,h2,h3⟩:=decN_head m
 rw [h1]
 have:c≠45:=by rintro rfl;exact absurd h2 (by decide)
 unfold unsign
 split
 ·rename_i e;simp only [List.cons.injEq] at e;exact absurd e.1 this
 ·rfl
theorem numS_dec (m:Nat) (hm:m<=1099511627776):numS (decN m)=some (m:Int):=by
 obtain⟨c,l,h1,h2,h3⟩:=decN_head m
 have hc:c≠45:=by rintro rfl;exact absurd h2 (by decide)
 have hcan:canonS (decN m)=true:=by
  unfold canonS
  rw [unsign_dec]
  simp only [Bool.and_eq_true,List.all_eq_true]
  refine⟨decN_digs m,?_⟩
  rw [h1]
  by_cases h48:c=48
  ·have:=decN_zero m (by rw [h1,h48];rfl)
   subst this
   have e:decN 0=[48]:=by rw [decN];rfl
   rw [e] at h1
   simp only [List.cons.injEq] at h1
   rw [<- h1.1,<- h1.2];rfl
  ·simp [h48]
 unfold numS
 rw [if_pos ⟨hcan,by rw [unsign_dec,natS_dec];exact hm⟩,if_neg (by rw [h1];simp [hc]),unsign_dec,natS_dec]
theorem digits_dec:∀ (n:Nat) (bs:List UInt8),bs.length=n->bs≠[]->(∀ c ∈ bs,digB c=true)->(bs.head?=some 48->bs=[48])->bs=decN (natS bs)
 | 0,bs,hl,hne,_,_=>absurd (List.length_eq_zero_iff.1 hl) hne
 | n+1,bs,hl,hne,hd,h0=>by
  obtain⟨cs,c,rfl⟩:∃ cs c,bs=cs++[c]:=⟨bs.dropLast,bs.getLast hne,(List.dropLast_concat_getLast hne).symm⟩
  have hc:=(digB_iff c).1 (hd c (by simp))
  have hcc:c=UInt8.ofNat (48+(c.toNat - 48)):=digit_of (by omega) (by omega)
  by_cases hcs:cs=[]
  ·subst hcs
   simp only [List.nil_append]
   rw [show natS [c]=c.toNat - 48 by simp [natS],decN,if_pos (by omega),<- hcc]
  ·have hh:cs.head?=(cs++[c]).head?:=by cases cs with|nil=>exact absurd rfl hcs|cons a l=>rfl
   have h48:cs.head?≠some 48:=fun e=>by
    have:=h0 (by rw [<- hh];exact e)
    have h2:=congrArg List.length this
    simp at h2
    exact hcs h2
   have ih:=digits_dec n cs (by simp at hl;exact hl) hcs (fun d hd'=>hd d (by simp [hd'])) (fun e=>absurd e h48)
   have hpos:natS cs≠0:=fun e=>by
    rw [e] at ih
    have:decN 0=[48]:=by rw [decN];rfl
    rw [this] at ih
    rw [ih] at h48
    exact h48 rfl
   rw [natS_snoc,decN,if_neg (by omega)]
   have e1:(natS cs*10+(c.toNat - 48)) / 10=natS cs:=by omega
   have e2:(natS cs*10+(c.toNat - 48)) % 10=c.toNat - 48:=by omega
   rw [e1,e2,<- ih,<- hcc]
theorem numS_inv {bs:List UInt8} {v:Int} (h:numS bs=some v) (hv:0<=v):bs=decN v.toNat/\v<=1099511627776:=by
 unfold numS at h
 split at h
 ·rename_i hc
  obtain⟨hc,hle⟩:=hc
  unfold canonS at hc
  simp only [Bool.and_eq_true,List.all_eq_true] at hc
  obtain⟨hd,hz⟩:=hc
  simp only [Option.some.injEq] at h
  split at h
  ·rename_i hs
   cases bs with
   | nil=>simp at hs
   | cons c l =>
    simp only [List.head?_cons,Option.some.injEq] at hs
    subst hs
    have hu:unsign (45::l)=l:=rfl
    rw [hu] at hd hz h hle
    exfalso
    cases l with
    | nil=>simp at hz
    | cons c l =>
     simp only [Bool.or_eq_true,Bool.not_eq_true',beq_eq_false_iff_ne,ne_eq,beq_iff_eq,List.cons.injEq,reduceCtorEq,and_false,or_false] at hz
     have hz':c≠48:=hz
     have hdec:=digits_dec _ (c::l) rfl (by simp) hd (fun e=>by simp at e;exact absurd e hz')
     have:natS (c::l)=0:=by omega
     rw [this] at hdec
     have e0:decN 0=[48]:=by rw [decN];rfl
     rw [e0] at hdec
     simp only [List.cons.injEq] at hdec
     exact hz' hdec.1
  ·rename_i hs
   have hu:unsign bs=bs:=by
    unfold unsign
    split
    ·simp at hs
    ·rfl
   rw [hu] at hd hz h hle
   cases bs with
   | nil=>simp at hz
   | cons c l =>
    have hdec:=digits_dec _ (c::l) rfl (by simp) hd (fun e=>by
     simp only [List.head?_cons,Option.some.injEq] at e
     subst e
     simpa using hz)
    subst h
    exact⟨by simpa using hdec,by omega⟩
 ·simp at h
def txtD:SX->List UInt8
 | .atom bs=>bs
 | .list _=>[]
def isA:SX->Bool
 | .atom _=>true
 | .list _=>false
def numD (x:SX):Int:=(numX x).getD 0
def isN (x:SX):Bool:=(numX x).isSome
def lstD:SX->List SX
 | .list xs=>xs
 | .atom _=>[]
def tupD (n:Nat):SX->List SX
 | .list xs=>if xs.length=n then xs else List.replicate n (.atom [])
 | .atom _=>List.replicate n (.atom [])
def isT (n:Nat):SX->Bool
 | .list xs=>decide (xs.length=n)
 | .atom _=>false
theorem tupD_length (n:Nat) (x:SX):(tupD n x).length=n:=by
 cases x with
 | atom bs=>simp [tupD]
 | list xs =>
  simp only [tupD]
  split
  ·assumption
  ·simp
theorem four_of {α:Type} {xs:List α} (h:xs.length=4):∃ a b c d,xs=[a,b,c,d]:=by
 match xs,h with
 | [a,b,c,d],_=>exact⟨a,b,c,d,rfl⟩
theorem five_of {α:Type} {xs:List α} (h:xs.length=5):∃ a b c d e,xs=[a,b,c,d,e]:=by
 match xs,h with
 | [a,b,c,d,e],_=>exact⟨a,b,c,d,e,rfl⟩
def fileY:List SX->PF
 | [p,t,m,d]=>⟨txtD p,numD t,numD m,txtD d⟩
 | _=>⟨[],0,0,[]⟩
def okY:List SX->Bool
 | [p,t,m,d]=>isA p&&isN t&&isN m&&isA d
 | _=>false
def fileD (x:SX):PF:=fileY (tupD 4 x)
def okF (x:SX):Bool:=isT 4 x&&okY (tupD 4 x)
theorem fileX_eq (x:SX):fileX x=if okF x=true then some (fileD x) else none:=by
 cases x with
 | atom bs=>simp [fileX,okF,isT]
 | list xs =>
  by_cases h:xs.length=4
  ·obtain⟨a,b,c,d,rfl⟩:=four_of h
   have e1:okF (.list [a,b,c,d])=(isA a&&isN b&&isN c&&isA d):=rfl
   have e2:fileD (.list [a,b,c,d])=⟨txtD a,numD b,numD c,txtD d⟩:=rfl
   rw [e1,e2]
   cases a with
   | list _=>simp [fileX,isA]
   | atom p =>
    cases d with
    | list _=>simp [fileX,isA]
    | atom d =>
     cases hb:numX b with
     | none=>simp [fileX,hb,isN]
     | some t =>
      cases hc:numX c with
      | none=>simp [fileX,hb,hc,isN]
      | some m=>simp [fileX,hb,hc,isN,isA,txtD,numD]
  ·have e1:okF (.list xs)=false:=by simp [okF,isT,h]
   rw [e1]
   unfold fileX
   split
   ·rename_i e
    simp only [SX.list.injEq] at e
    subst e
    exact absurd rfl h
   ·rfl
theorem numsX_eq:∀ xs:List SX,numsX xs=if xs.all isN=true then some (xs.map numD) else none
 | []=>rfl
 | x::xs=>by
  simp only [numsX,numsX_eq xs,List.all_cons,List.map_cons]
  cases hx:numX x with
  | none=>simp [isN,hx]
  | some n =>
   by_cases h:xs.all isN=true
   ·rw [if_pos h,if_pos (by simp [isN,hx];simpa [isN] using h)]
    simp [numD,hx]
   ·rw [if_neg h,if_neg (by simp only [Bool.and_eq_true];exact fun e=>h e.2)]
theorem filesX_eq:∀ xs:List SX,filesX xs=if xs.all okF=true then some (xs.map fileD) else none
 | []=>rfl
 | x::xs=>by
  simp only [filesX,filesX_eq xs,fileX_eq x,List.all_cons,List.map_cons]
  by_cases hx:okF x=true
  ·by_cases h:xs.all okF=true
   ·simp only [if_pos hx,if_pos h,hx,h,Bool.and_self,if_true]
   ·have h':xs.all okF=false:=by simpa using h
    simp [hx,h']
  ·have hx':okF x=false:=by simpa using hx
   simp [hx']
def snapY:List SX->SN
 | [ps,a,m,t,fs]=>⟨(lstD ps).map numD,txtD a,txtD m,numD t,(lstD fs).map fileD⟩
 | _=>⟨[],[],[],0,[]⟩
def isL:SX->Bool
 | .atom _=>false
 | .list _=>true
def okZ:List SX->Bool
 | [ps,a,m,t,fs]=>isA a&&isA m&&isN t&&isL ps&&(lstD ps).all isN&&isL fs&&(lstD fs).all okF
 | _=>false
def snapD (x:SX):SN:=snapY (tupD 5 x)
def okS (x:SX):Bool:=isT 5 x&&okZ (tupD 5 x)
theorem snapX_eq (x:SX):snapX x=if okS x=true then some (snapD x) else none:=by
 cases x with
 | atom bs=>simp [snapX,okS,isT]
 | list xs =>
  by_cases h:xs.length=5
  ·obtain⟨a,b,c,d,e,rfl⟩:=five_of h
   have e1:okS (.list [a,b,c,d,e])=(isA b&&isA c&&isN d&&isL a&&(lstD a).all isN&&isL e&&(lstD e).all okF):=rfl
   have e2:snapD (.list [a,b,c,d,e])=⟨(lstD a).map numD,txtD b,txtD c,numD d,(lstD e).map fileD⟩:=rfl
   rw [e1,e2]
   cases a with
   | atom _=>simp [snapX,isL]
   | list ps =>
    cases b with
    | list _=>simp [snapX,isA]
    | atom b =>
     cases c with
     | list _=>simp [snapX,isA]
     | atom c =>
      cases e with
      | atom _=>simp [snapX,isL]
      | list fs =>
       simp only [snapX,numsX_eq,filesX_eq,isA,isL,lstD,Bool.true_and,Bool.and_true,txtD]
       cases hd:numX d with
       | none =>
        have:isN d=false:=by simp [isN,hd]
        rw [this]
        simp only [Bool.false_and,Bool.false_eq_true,if_false]
        split<;>first|rfl |(rename_i h1 h2 h3;exact absurd h2 (by simp))
       | some t =>
        have h1:isN d=true:=by simp [isN,hd]
        have h2:numD d=t:=by simp [numD,hd]
        rw [h1,h2]
        by_cases hp:ps.all isN=true
        ·by_cases hf:fs.all okF=true
         ·simp only [if_pos hp,if_pos hf,hp,hf,Bool.true_and,if_true]
         ·have hf':fs.all okF=false:=by simpa using hf
          simp [hf']
        ·have hp':ps.all isN=false:=by simpa using hp
         simp [hp']
  ·have e1:okS (.list xs)=false:=by simp [okS,isT,h]
   rw [e1]
   unfold snapX
   split
   ·rename_i e
    simp only [SX.list.injEq] at e
    subst e
    exact absurd rfl h
   ·rfl
inductive HR where
 | ok (ats:List Nat) (ss:List SN)
 | err (at_:Nat) (e:Int)
theorem parAt_congr {rs rs':List SnapR} (h:rs.map (·.s)=rs'.map (·.s)):parAt rs=parAt rs':=by
 funext k
 have:=congrArg (fun l=>l[k]?) h
 simp only [List.getElem?_map] at this
 unfold parAt
 cases h1:rs[k]?<;>cases h2:rs'[k]?<;>simp [h1,h2] at this
 ·rfl
 ·simp [this]
theorem ancOf_congr {rs rs':List SnapR} (h:rs.map (·.s)=rs'.map (·.s)):ancOf rs=ancOf rs':=by
 have hp:=parAt_congr h
 have hi:isAnc rs=isAnc rs':=by funext i j acc;simp only [isAnc,hp]
 have hg:∀ i j acc,ancGo rs i j acc=ancGo rs' i j acc:=by
  intro i j
  induction j with
  | zero=>intro acc;rfl
  | succ j ih=>intro acc;simp only [ancGo,hi,ih]
 funext i
 exact hg i i []
theorem snapE_congr {rs rs':List SnapR} (h:rs.map (·.s)=rs'.map (·.s)):snapE rs=snapE rs':=by
 have hp:=parAt_congr h
 have h2:par2 rs=par2 rs':=by funext ps k;simp only [par2,ancOf_congr h]
 have h3:parentsE rs=parentsE rs':=by funext i;simp only [parentsE,hp,h2]
 funext i
 have:=congrArg (fun l=>l[i]?) h
 simp only [List.getElem?_map] at this
 unfold snapE
 rw [h3]
 cases h4:rs[i]?<;>cases h5:rs'[i]?<;>simp [h4,h5] at this
 ·rfl
 ·simp only [this]
theorem check_congr {rs rs':List SnapR} (h:rs.map (·.s)=rs'.map (·.s)):checkE rs=checkE rs'/\checkI rs=checkI rs':=by
 have hl:rs.length=rs'.length:=by simpa using congrArg List.length h
 simp only [checkE,checkI,snapE_congr h,hl,and_self]
theorem firstI_lt (e:Nat->Int):∀ n i,firstE e n i≠0->i<=firstI e n i/\firstI e n i < i+n
 | 0,i,h=>absurd rfl h
 | n+1,i,h=>by
  simp only [firstE,firstI] at h ⊢
  by_cases h0:e i≠0
  ·rw [if_pos h0];omega
  ·rw [if_neg h0] at h ⊢
   have:=firstI_lt e n (i+1) h
   omega
theorem checkI_lt {rs:List SnapR} (h:checkE rs≠0):checkI rs < rs.length:=by
 unfold checkE at h
 unfold checkI
 split
 ·omega
 ·rename_i h1
  rw [if_neg h1] at h
  have:=firstI_lt (snapE rs) rs.length 0 h
  omega
theorem fold_ge:∀ (bs:List UInt8) (acc:Nat),acc*10 ^ bs.length<=bs.foldl (fun n c=>n*10+(c.toNat - 48)) acc
 | [],acc=>by simp
 | c::bs,acc=>by
  simp only [List.foldl_cons,List.length_cons]
  refine Nat.le_trans ?_ (fold_ge bs _)
  rw [Nat.pow_succ,Nat.mul_comm (10 ^ bs.length) 10,<- Nat.mul_assoc]
  exact Nat.mul_le_mul_right _ (by omega)
theorem fold_lt:∀ (bs:List UInt8) (acc:Nat),(∀ c ∈ bs,digB c=true)->bs.foldl (fun n c=>n*10+(c.toNat - 48)) acc <(acc+1)*10 ^ bs.length
 | [],acc,_=>by simp
 | c::bs,acc,h=>by
  have hc:=(digB_iff c).1 (h c (by simp))
  simp only [List.foldl_cons,List.length_cons]
  refine Nat.lt_of_lt_of_le (fold_lt bs _ fun d hd=>h d (List.mem_cons_of_mem _ hd)) ?_
  rw [Nat.pow_succ,Nat.mul_comm (10 ^ bs.length) 10,<- Nat.mul_assoc]
  exact Nat.mul_le_mul_right _ (by omega)
theorem natS_lt {bs:List UInt8} (h:∀ c ∈ bs,digB c=true):natS bs < 10 ^ bs.length:=by
 have:=fold_lt bs 0 h
 simpa [natS] using this
theorem natS_take_le (bs:List UInt8) (i:Nat):natS (bs.take i)<=natS bs:=by
 have h1:natS bs=(bs.drop i).foldl (fun n c=>n*10+(c.toNat - 48)) (natS (bs.take i)):=by
  conv=>lhs;rw [<- List.take_append_drop i bs]
  simp only [natS,List.foldl_append]
 rw [h1]
 refine Nat.le_trans ?_ (fold_ge _ _)
 exact Nat.le_mul_of_pos_right _ (Nat.pow_pos (by decide))
theorem natS_take_succ {bs:List UInt8} {i:Nat} (hi:i < bs.length):natS (bs.take (i+1))=natS (bs.take i)*10+(bs[i].toNat - 48):=by
 rw [List.take_succ_eq_append_getElem hi,natS_snoc]
theorem natS_more {bs:List UInt8} {i:Nat} (hi:i < bs.length):natS (bs.take i)*10<=natS bs:=by
 refine Nat.le_trans ?_ (natS_take_le bs (i+1))
 rw [natS_take_succ hi];omega
structure Canon (bs:List UInt8):Prop where
 ne:unsign bs≠[]
 digs:∀ c ∈ unsign bs,digB c=true
 lead:(unsign bs).head?=some 48->bs=[48]
theorem canon_of {bs:List UInt8} (h:canonS bs=true):Canon bs:=by
 unfold canonS at h
 simp only [Bool.and_eq_true,List.all_eq_true] at h
 obtain⟨h1,h2⟩:=h
 refine⟨fun e=>by rw [e] at h2;simp at h2,h1,fun e=>?_⟩
 cases hu:unsign bs with
 | nil=>rw [hu] at e;simp at e
 | cons c l =>
  rw [hu] at h2 e
  simp only [List.head?_cons,Option.some.injEq] at e
  subst e
  simpa using h2
theorem unsign_cases (bs:List UInt8):(∃ l,bs=45::l/\unsign bs=l)\/(bs.head?≠some 45/\unsign bs=bs):=by
 cases bs with
 | nil=>exact .inr ⟨by simp,rfl⟩
 | cons c l =>
  by_cases hc:c=45
  ·subst hc;exact .inl ⟨l,rfl,rfl⟩
  ·refine .inr ⟨by simp [hc],?_⟩
   unfold unsign
   split
   ·rename_i e;simp only [List.cons.injEq] at e;exact absurd e.1 hc
   ·rfl
end Go.Ev
