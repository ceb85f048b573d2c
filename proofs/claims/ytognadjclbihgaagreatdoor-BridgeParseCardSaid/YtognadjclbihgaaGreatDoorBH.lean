/- Contract: quiltref01's reader, an atom. -/
import Derived.Test.YtognadjclbihgaaGreatDoorE6
import Derived.Test.YtognadjclbihgaaGreatDoorKCodeB
import Derived.Test.YtognadjclbihgaaGreatDoorBA
import Derived.Test.YtognadjclbihgaaGreatDoorE7
import Derived.Test.YtognadjclbihgaaGreatDoorFF
import Derived.Test.YtognadjclbihgaaGreatDoorFE
set_option linter.all false
namespace Go.Ev
set_option maxRecDepth 100000
set_option maxHeartbeats 16000000
abbrev rrC (s:List UInt8) (a left:Nat) (e:Int):List AV:=[strOf s,.int .i64 (a:Int),.int .i64 (left:Int),.int .i64 e]
abbrev rrZ:List AV:=[strOf [],.int .i64 0,.int .i64 0,.int .i64 0]
abbrev k65:CC:=.seq (.seq (.reg c65x9) (.cond (.r r68) (.seq (.reg c65x10) (.seq (.draw c65x11) .ret)) .skip)) (.seq (.seq (.reg c65x12) (.cond (.r r82) (.seq (.reg c65x13) (.seq (.draw c65x14) .ret)) .skip)) (.seq (.reg c65x15) (.seq (.seq (.reg c65x16) (.cond (.r r96) (.seq (.reg c65x17) (.seq (.draw c65x18) .ret)) .skip)) (.seq (.reg c65x19) (.seq (.reg c65x20) (.seq (.draw c65x21) .ret))))))
theorem refAtom65 {h:Hp} {n:Nat} (s:List UInt8) (a left:Nat) (hl:s.length<=100000) (ha:a<=s.length) :
  Fn E 65 [.agg (rrC s a left 0)] h n fun r h' n'=>Gr h n h' n'/\((∃ bs rest,atomS (s.drop a) left=.ok (.atom bs) rest left/\r=.tup [strOf bs,.agg (rrC s (s.length - rest.length) left 0)]) \/
   ∃ (e:Int) (a':Nat),atomS (s.drop a) left=.err e/\a'<=s.length/\r=.tup [strOf [],.agg (rrC s a' left e)]):=by
 refine Fn.of code65 (by decide) rfl fun Q cs hq=>?_
 show SW E Q 65 [(r0,.agg (rrC s a left 0))] _ _ _ _
 have hfail:∀ (g:Hp) (a':Nat) (e:Int) (R:List (Path × AV)) (todo:List AItem),atomS (s.drop a) left=.err e->a'<=s.length->hb g (n+1)=some (.cell (rrC s a' left e) 89 false)->(∀ c,c < n->hb g c=hb h c)->look R r2=some (strOf [])->look R r3=some (.ptr (n+1) 0)->SW E Q 65 R (.code .ret::todo) cs g (n+1+1):=fun g a' e R todo h1 h2 h3 h4 q2 q3 =>
  SW.ret code65 ⟨_,q2,n+1,0,_,q3,.inl ⟨_,_,h3⟩,by simp,hq _ _ _ ⟨⟨by omega,h4⟩,.inr ⟨e,a',h1,h2,rfl⟩⟩⟩
 have after:∀ (K:CC),K=k65->∀ (a1 m:Nat) (g:Hp),a1<=s.length->a<=a1->m<=65536->lenS true 0 (s.drop a)=lenS (decide (a1=a)) m (s.drop a1)->(∀ hlt:a1 < s.length,s[a1].toNat < 48\/57 < s[a1].toNat)->hb g n=some (.cell (rrC s a1 left 0) 89 false)->hb g (n+1)=some (.cell rrZ 89 false)->(∀ c,c < n->hb g c=hb h c)->∀ R,look R r1=some (.ptr n 0)->look R r3=some (.ptr (n+1) 0)->look R r4=some (.int .i64 (m:Int))->look R r5=some (.int .i64 (a:Int))->SW E Q 65 R [.code K] cs g (n+1+1):=by
  intro K hK a1 m g ha1 haa hm hS hnd b1 b2 hlow R q1 q3 q4 q5
  subst hK
  refine SW.sub (R':=[(r1,.ptr n 0),(r3,.ptr (n+1) 0),(r4,.int .i64 (m:Int)),(r5,.int .i64 (a:Int))]) (by simp [q1,q3,q4,q5]) ?_
  by_cases hend:a1=s.length
  ·have hA:atomS (s.drop a) left=.err 11:=by
    unfold atomS
    rw [hS,hend,List.drop_length];rfl
   repeat' first|refine SO.loadV rfl rfl rfl b1 rfl ?_|refine SW.a rfl ?_|refine SW.reg ?_|refine SO.nil ?_|refine SO.a rfl ?_|refine SO.cT rfl (by omega) ?_|fail
   refine SO.put1 rfl rfl rfl b1 rfl (by simp) (by simp) (fun g2 f2 k2=>?_)
   have b2':hb g2 (n+1)=some (.cell rrZ 89 false):=by rw [k2 _ (by omega)];exact b2
   repeat' first|refine SO.loadVA rfl rfl rfl f2 rfl ?_|refine SW.a rfl ?_|refine SO.nil ?_|(refine SW.drawO rfl ?_;simp only [List.map_cons,List.map_nil])|refine SO.a rfl ?_
   refine SO.storeAll rfl rfl rfl b2' rfl rfl (fun g3 f3 k3=>?_)
   repeat' refine SO.nilD ?_
   exact hfail g3 a1 11 _ _ hA ha1 f3 (fun c hc=>by rw [k3 _ (by omega),k2 _ (by omega)];exact hlow c hc) rfl rfl
  have hlt:a1 < s.length:=by omega
  have hd:s.drop a1=s[a1]::s.drop (a1+1):=List.drop_eq_getElem_cons hlt
  have hnd':=hnd hlt
  have h58:s[a1]=58 ↔ s[a1].toNat=58:=by
   constructor
   ·intro e;rw [e];rfl
   ·intro e;apply UInt8.toNat_inj.1;rw [e];rfl
  rw [hd] at hS
  simp only [lenS] at hS
  by_cases hat:a1=a
  ·have hA:atomS (s.drop a) left=.err 12:=by
    unfold atomS
    rw [hS,if_neg (by simp [hat]),if_pos (by rcases hnd' with h|h<;>simp [h])]
   repeat' first|refine SO.loadV rfl rfl rfl b1 rfl ?_|refine SW.a rfl ?_|refine SW.reg ?_|refine SO.nil ?_|refine SO.a rfl ?_|refine SO.cT rfl (by omega) ?_|refine SO.cF rfl (by omega) ?_|fail
   refine SO.put1 rfl rfl rfl b1 rfl (by simp) (by simp) (fun g2 f2 k2=>?_)
   have b2':hb g2 (n+1)=some (.cell rrZ 89 false):=by rw [k2 _ (by omega)];exact b2
   repeat' first|refine SO.loadVA rfl rfl rfl f2 rfl ?_|refine SW.a rfl ?_|refine SO.nil ?_|(refine SW.drawO rfl ?_;simp only [List.map_cons,List.map_nil])|refine SO.a rfl ?_
   refine SO.storeAll rfl rfl rfl b2' rfl rfl (fun g3 f3 k3=>?_)
   repeat' refine SO.nilD ?_
   exact hfail g3 a1 12 _ _ hA ha1 f3 (fun c hc=>by rw [k3 _ (by omega),k2 _ (by omega)];exact hlow c hc) rfl rfl
  by_cases hcol:s[a1].toNat=58
  case neg =>
   have hA:atomS (s.drop a) left=.err 12:=by
    unfold atomS
    rw [hS,if_neg (fun e=>hcol (h58.1 e.1)),if_pos (by rcases hnd' with h|h<;>simp [h])]
   repeat' first|refine SO.loadV rfl rfl rfl b1 rfl ?_|refine SO.idxStrAt a1 rfl rfl rfl rfl rfl hlt ?_|refine SW.a rfl ?_|refine SW.reg ?_|refine SO.nil ?_|refine SO.a rfl ?_|refine SO.cT rfl (by omega) ?_|refine SO.cF rfl (by omega) ?_|fail
   refine SO.put1 rfl rfl rfl b1 rfl (by simp) (by simp) (fun g2 f2 k2=>?_)
   have b2':hb g2 (n+1)=some (.cell rrZ 89 false):=by rw [k2 _ (by omega)];exact b2
   repeat' first|refine SO.loadVA rfl rfl rfl f2 rfl ?_|refine SW.a rfl ?_|refine SO.nil ?_|(refine SW.drawO rfl ?_;simp only [List.map_cons,List.map_nil])|refine SO.a rfl ?_
   refine SO.storeAll rfl rfl rfl b2' rfl rfl (fun g3 f3 k3=>?_)
   repeat' refine SO.nilD ?_
   exact hfail g3 a1 12 _ _ hA ha1 f3 (fun c hc=>by rw [k3 _ (by omega),k2 _ (by omega)];exact hlow c hc) rfl rfl
  rw [if_pos ⟨h58.2 hcol,by simp [hat]⟩] at hS
  have hdl:(s.drop (a1+1)).length=s.length - (a1+1):=List.length_drop
  repeat' first|refine SO.loadV rfl rfl rfl b1 rfl ?_|refine SO.idxStrAt a1 rfl rfl rfl rfl rfl hlt ?_|refine SO.addN 1 rfl rfl rfl rfl (by show a1+1<=9223372036854775807;omega) ?_|refine SW.a rfl ?_|refine SW.reg ?_|refine SO.nil ?_|refine SO.a rfl ?_|refine SO.cF rfl (by omega) ?_|fail
  refine SO.put1 rfl rfl rfl b1 rfl (by simp) (by simp) (fun g2 f2 k2=>?_)
  have f2':hb g2 n=some (.cell (rrC s (a1+1) left 0) 89 false):=f2
  have b2':hb g2 (n+1)=some (.cell rrZ 89 false):=by rw [k2 _ (by omega)];exact b2
  by_cases hsh:s.length - (a1+1) < m
  ·have hA:atomS (s.drop a) left=.err 11:=by
    unfold atomS
    rw [hS];dsimp only;rw [if_pos (by omega)]
   repeat' first|refine SO.loadV rfl rfl rfl f2' rfl ?_|refine SO.subK (a1+1) rfl rfl rfl rfl (by omega) (by show s.length<=9223372036854775807;omega) ?_|refine SW.a rfl ?_|refine SW.reg ?_|refine SO.nil ?_|refine SO.a rfl ?_|refine SO.cT rfl (by omega) ?_|fail
   refine SO.put1 rfl rfl rfl f2' rfl (by simp) (by simp) (fun g3 f3 k3=>?_)
   have b3':hb g3 (n+1)=some (.cell rrZ 89 false):=by rw [k3 _ (by omega)];exact b2'
   repeat' first|refine SO.loadVA rfl rfl rfl f3 rfl ?_|refine SW.a rfl ?_|refine SO.nil ?_|(refine SW.drawO rfl ?_;simp only [List.map_cons,List.map_nil])|refine SO.a rfl ?_
   refine SO.storeAll rfl rfl rfl b3' rfl rfl (fun g4 f4 k4=>?_)
   repeat' refine SO.nilD ?_
   exact hfail g4 (a1+1) 11 _ _ hA (by omega) f4 (fun c hc=>by rw [k4 _ (by omega),k3 _ (by omega),k2 _ (by omega)];exact hlow c hc) rfl rfl
  ·have hA:atomS (s.drop a) left=.ok (.atom ((s.drop (a1+1)).take m)) ((s.drop (a1+1)).drop m) left:=by
    unfold atomS
    rw [hS];dsimp only;rw [if_neg (by omega)]
   repeat' first|refine SO.loadV rfl rfl rfl f2' rfl ?_|refine SO.subK (a1+1) rfl rfl rfl rfl (by omega) (by show s.length<=9223372036854775807;omega) ?_|refine SO.addN m rfl rfl rfl rfl (by show a1+1+m<=9223372036854775807;omega) ?_|refine SO.sliceAt (a1+1) (a1+1+m) rfl rfl rfl rfl rfl rfl (by omega) (by omega) (by omega) ?_|refine SW.a rfl ?_|refine SW.reg ?_|refine SO.nil ?_|refine SO.a rfl ?_|refine SO.cF rfl (by omega) ?_|fail
   refine SO.put1 rfl rfl rfl f2' rfl (by simp) (by simp) (fun g3 f3 k3=>?_)
   have f3':hb g3 n=some (.cell (rrC s (a1+1+m) left 0) 89 false):=f3
   have b3':hb g3 (n+1)=some (.cell rrZ 89 false):=by rw [k3 _ (by omega)];exact b2'
   repeat' first|refine SO.loadVA rfl rfl rfl f3' rfl ?_|refine SW.a rfl ?_|refine SO.nil ?_|(refine SW.drawO rfl ?_;simp only [List.map_cons,List.map_nil])|refine SO.a rfl ?_
   refine SO.storeAll rfl rfl rfl b3' rfl rfl (fun g4 f4 k4=>?_)
   repeat' refine SO.nilD ?_
   refine SW.ret code65 ⟨_,rfl,n+1,0,_,rfl,.inl ⟨_,_,f4⟩,by simp,hq _ _ _ ⟨⟨by omega,fun c hc=>by rw [k4 _ (by omega),k3 _ (by omega),k2 _ (by omega)];exact hlow c hc⟩,.inl ⟨_,_,hA,?_⟩⟩⟩
   have e1:part s (a1+1) (a1+1+m)=(s.drop (a1+1)).take m:=by
    unfold part
    rw [show a1+1+m - (a1+1)=m by omega]
   have e2:s.length - ((s.drop (a1+1)).drop m).length=a1+1+m:=by simp;omega
   rw [e1,e2];rfl
 have loop:∀ (K:CC),K=k65->∀ (k a1 m:Nat) (g:Hp),a1+k=s.length->a<=a1->m<=65536->(a1=a->m=0)->(∀ hlt:a < s.length,a < a1->(m=0 ↔ s[a].toNat=48))->lenS true 0 (s.drop a)=lenS (decide (a1=a)) m (s.drop a1)->hb g n=some (.cell (rrC s a1 left 0) 89 false)->hb g (n+1)=some (.cell rrZ 89 false)->(∀ c,c < n->hb g c=hb h c)->∀ R,look R r1=some (.ptr n 0)->look R r3=some (.ptr (n+1) 0)->look R r4=some (.int .i64 (m:Int))->look R r5=some (.int .i64 (a:Int))->SW E Q 65 R [.code c65x8,.inLoop c65x8,.inBlock 0,.code K] cs g (n+1+1):=by
  intro K hK k
  induction k with
  | zero =>
   intro a1 m g hk haa hm hz hz2 hS b1 b2 hlow R q1 q3 q4 q5
   refine SW.sub (R':=[(r1,.ptr n 0),(r3,.ptr (n+1) 0),(r4,.int .i64 (m:Int)),(r5,.int .i64 (a:Int))]) (by simp [q1,q3,q4,q5]) ?_
   repeat' first|refine SO.loadV rfl rfl rfl b1 rfl ?_|refine SW.a rfl ?_|refine SW.reg ?_|refine SO.nil ?_|refine SO.a rfl ?_|refine SO.cF rfl (by omega) ?_|fail
   exact after K hK a1 m g (by omega) haa hm hS (fun hlt=>by omega) b1 b2 hlow _ rfl rfl rfl rfl
  | succ k ih =>
   intro a1 m g hk haa hm hz hz2 hS b1 b2 hlow R q1 q3 q4 q5
   have hlt:a1 < s.length:=by omega
   refine SW.sub (R':=[(r1,.ptr n 0),(r3,.ptr (n+1) 0),(r4,.int .i64 (m:Int)),(r5,.int .i64 (a:Int))]) (by simp [q1,q3,q4,q5]) ?_
   have hch:=s[a1].toNat_lt
   have hafter:=after K hK a1 m g (by omega) haa hm hS
   have hd:s.drop a1=s[a1]::s.drop (a1+1):=List.drop_eq_getElem_cons hlt
   have hlta:a < s.length:=by omega
   by_cases h1:s[a1].toNat < 48
   ·repeat' first|refine SO.loadV rfl rfl rfl b1 rfl ?_|refine SO.idxStrAt a1 rfl rfl rfl rfl rfl hlt ?_|refine SW.a rfl ?_|refine SW.reg ?_|refine SO.nil ?_|refine SO.a rfl ?_|refine SO.cT rfl (by omega) ?_|refine SO.cF rfl (by omega) ?_|fail
    exact hafter (fun _=>.inl h1) b1 b2 hlow _ rfl rfl rfl rfl
   by_cases h2:57 < s[a1].toNat
   ·repeat' first|refine SO.loadV rfl rfl rfl b1 rfl ?_|refine SO.idxStrAt a1 rfl rfl rfl rfl rfl hlt ?_|refine SW.a rfl ?_|refine SW.reg ?_|refine SO.nil ?_|refine SO.a rfl ?_|refine SO.cT rfl (by omega) ?_|refine SO.cF rfl (by omega) ?_|fail
    exact hafter (fun _=>.inr h2) b1 b2 hlow _ rfl rfl rfl rfl
   rw [hd] at hS
   simp only [lenS] at hS
   have hn58:s[a1]≠58:=fun e=>by rw [e] at h2;exact h2 (by decide)
   rw [if_neg (fun e=>hn58 e.1)] at hS
   have hmb:10*m+(s[a1].toNat - 48)<=1000000:=by omega
   repeat' first|refine SO.loadV rfl rfl rfl b1 rfl ?_|refine SO.idxStrAt a1 rfl rfl rfl rfl rfl hlt ?_|refine SO.mulN (b:=10) rfl rfl rfl rfl (by show m*10<=9223372036854775807;omega) ?_|refine SO.subK 48 rfl rfl rfl rfl (by omega) (by show s[a1].toNat<=255;omega) ?_|refine SO.convN rfl rfl rfl (by show s[a1].toNat - 48<=9223372036854775807;omega) ?_|refine SO.addN (s[a1].toNat - 48) rfl rfl rfl rfl (by show m*10+(s[a1].toNat - 48)<=9223372036854775807;omega) ?_|refine SO.addN 1 rfl rfl rfl rfl (by show a1+1<=9223372036854775807;omega) ?_|refine SW.a rfl ?_|refine SW.reg ?_|refine SO.nil ?_|refine SO.a rfl ?_|refine SO.cT rfl (by omega) ?_|fail
   refine SO.put1 rfl rfl rfl b1 rfl (by simp) (by simp) (fun g2 f2 k2=>?_)
   have f2':hb g2 n=some (.cell (rrC s (a1+1) left 0) 89 false):=f2
   have b2':hb g2 (n+1)=some (.cell rrZ 89 false):=by rw [k2 _ (by omega)];exact b2
   have hlow2:∀ c,c < n->hb g2 c=hb h c:=fun c hc=>by rw [k2 _ (by omega)];exact hlow c hc
   rw [show m*10+(s[a1].toNat - 48)=10*m+(s[a1].toNat - 48) by omega]
   generalize hm':10*m+(s[a1].toNat - 48)=m' at *
   by_cases hbig:65536 < m'
   ·have hA:atomS (s.drop a) left=.err 12:=by
     unfold atomS
     rw [hS]
     split
     ·rename_i e he;split at he
      ·simp only [RN.err.injEq] at he;rw [<- he]
      ·simp only [if_pos hbig,RN.err.injEq] at he;rw [<- he]
     ·rename_i n' r' he;split at he
      ·simp at he
      ·simp [hbig] at he
    repeat' first|refine SW.a rfl ?_|refine SW.reg ?_|refine SO.nil ?_|refine SO.a rfl ?_|refine SO.cT rfl (by omega) ?_|fail
    refine SO.put1 rfl rfl rfl f2' rfl (by simp) (by simp) (fun g3 f3 k3=>?_)
    have b3':hb g3 (n+1)=some (.cell rrZ 89 false):=by rw [k3 _ (by omega)];exact b2'
    repeat' first|refine SO.loadVA rfl rfl rfl f3 rfl ?_|refine SW.a rfl ?_|refine SO.nil ?_|(refine SW.drawO rfl ?_;simp only [List.map_cons,List.map_nil])|refine SO.a rfl ?_
    refine SO.storeAll rfl rfl rfl b3' rfl rfl (fun g4 f4 k4=>?_)
    repeat' refine SO.nilD ?_
    exact hfail g4 (a1+1) 12 _ _ hA (by omega) f4 (fun c hc=>by rw [k4 _ (by omega),k3 _ (by omega)];exact hlow2 c hc) rfl rfl
   have hz2':=hz2 hlta
   by_cases hzz:a < a1/\m=0
   ·have hA:atomS (s.drop a) left=.err 12:=by
     unfold atomS
     rw [hS,if_pos (.inr (.inr ⟨by simp;omega,hzz.2⟩))]
    have h48:s[a].toNat=48:=(hz2' hzz.1).1 hzz.2
    have hgt:=hzz.1
    repeat' first|refine SO.loadV rfl rfl rfl f2' rfl ?_|refine SO.subK a rfl rfl rfl rfl (by omega) (by show a1+1<=9223372036854775807;omega) ?_|refine SO.idxStrAt a rfl rfl rfl rfl rfl hlta ?_|refine SW.a rfl ?_|refine SW.reg ?_|refine SO.nil ?_|refine SO.a rfl ?_|refine SO.cT rfl (by omega) ?_|refine SO.cF rfl (by omega) ?_|fail
    refine SO.put1 rfl rfl rfl f2' rfl (by simp) (by simp) (fun g3 f3 k3=>?_)
    have b3':hb g3 (n+1)=some (.cell rrZ 89 false):=by rw [k3 _ (by omega)];exact b2'
    repeat' first|refine SO.loadVA rfl rfl rfl f3 rfl ?_|refine SW.a rfl ?_|refine SO.nil ?_|(refine SW.drawO rfl ?_;simp only [List.map_cons,List.map_nil])|refine SO.a rfl ?_
    refine SO.storeAll rfl rfl rfl b3' rfl rfl (fun g4 f4 k4=>?_)
    repeat' refine SO.nilD ?_
    exact hfail g4 (a1+1) 12 _ _ hA (by omega) f4 (fun c hc=>by rw [k4 _ (by omega),k3 _ (by omega)];exact hlow2 c hc) rfl rfl
   ·have hS':lenS true 0 (s.drop a)=lenS (decide (a1+1=a)) m' (s.drop (a1+1)):=by
     rw [hS,if_neg (by
      rintro (h3|h3 |⟨h3,h4⟩)
      ·omega
      ·omega
      ·exact hzz ⟨by simp at h3;omega,h4⟩),if_neg hbig,show decide (a1+1=a)=false by simp;omega]
    have hcase:a1+1<=a+1\/s[a].toNat≠48:=by
     by_cases h3:a < a1
     ·exact .inr fun e=>hzz ⟨h3,(hz2' h3).2 e⟩
     ·exact .inl (by omega)
    have hih:=ih (a1+1) m' g2 (by omega) (by omega) (by omega) (by omega) (fun _ _=>by
     by_cases h3:a < a1
     ·have:=hz2' h3;omega
     ·have h5:a1=a:=by omega
      have h6:=hz h5
      have h7:s[a1].toNat=s[a].toNat:=by simp only [h5]
      clear hz2 hz2'
      omega) hS' f2' b2' hlow2
    rcases hcase with hcase|hcase
    ·repeat' first|refine SO.loadV rfl rfl rfl f2' rfl ?_|refine SO.subK a rfl rfl rfl rfl (by omega) (by show a1+1<=9223372036854775807;omega) ?_|refine SW.a rfl ?_|refine SW.reg ?_|refine SO.nil ?_|refine SO.a rfl ?_|refine SO.cF rfl (by omega) ?_|fail
     refine SW.again ?_
     exact hih _ rfl rfl rfl rfl
    ·by_cases h3:a+1 < a1+1
     ·repeat' first|refine SO.loadV rfl rfl rfl f2' rfl ?_|refine SO.subK a rfl rfl rfl rfl (by omega) (by show a1+1<=9223372036854775807;omega) ?_|refine SO.idxStrAt a rfl rfl rfl rfl rfl hlta ?_|refine SW.a rfl ?_|refine SW.reg ?_|refine SO.nil ?_|refine SO.a rfl ?_|refine SO.cT rfl (by omega) ?_|refine SO.cF rfl (by omega) ?_|fail
      refine SW.again ?_
      exact hih _ rfl rfl rfl rfl
     ·repeat' first|refine SO.loadV rfl rfl rfl f2' rfl ?_|refine SO.subK a rfl rfl rfl rfl (by omega) (by show a1+1<=9223372036854775807;omega) ?_|refine SW.a rfl ?_|refine SW.reg ?_|refine SO.nil ?_|refine SO.a rfl ?_|refine SO.cF rfl (by omega) ?_|fail
      refine SW.again ?_
      exact hih _ rfl rfl rfl rfl
 refine SW.seq ?_
 refine SW.reg ?_
 refine SO.box rfl rfl rfl (by simp) (fun h1 c1 E1=>?_)
 repeat' first|refine SO.alloc rfl rfl (fun h2 c2 E2=>?_)|refine SW.a rfl ?_|refine SO.nil ?_|(refine SW.drawO rfl ?_;simp only [List.map_cons,List.map_nil])|refine SO.a rfl ?_
 have b1:hb h2 n=some (.cell (rrC s a left 0) 89 false):=by rw [E2.same n (by omega)];exact c1
 repeat' first|refine SO.loadV rfl rfl rfl b1 rfl ?_|refine SW.a rfl ?_|refine SO.nilD ?_|refine SO.a rfl ?_
 refine SW.loop ?_
 exact loop k65 rfl (s.length - a) a 0 h2 (by omega) (Nat.le_refl _) (by omega) (fun _=>rfl) (fun _ h3=>absurd h3 (Nat.lt_irrefl _)) (by simp) b1 c2 (fun c hc=>by rw [E2.same c (by omega)];exact E1.same c hc) _ rfl rfl rfl rfl
end Go.Ev
