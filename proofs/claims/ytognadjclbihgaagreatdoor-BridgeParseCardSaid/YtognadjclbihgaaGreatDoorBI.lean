/- Contract: quiltref01's reader, an expression. -/
import Derived.Test.YtognadjclbihgaaGreatDoorE6
import Derived.Test.YtognadjclbihgaaGreatDoorBH
import Derived.Test.YtognadjclbihgaaGreatDoorBB
set_option linter.all false
namespace Go.Ev
set_option maxRecDepth 100000
set_option maxHeartbeats 16000000
abbrev xZ:List AV:=[.bool false,strOf [],.nils]
def RdR (s:List UInt8) (a left d:Nat) (n:Nat) (r:AV) (h':Hp) (n':Nat):Prop :=
 (∃ (x:XR) (rest:List UInt8) (left':Nat),readS d (s.drop a) left=.ok x.sx rest left'/\r=.tup [.agg (xC x),.agg (rrC s (s.length - rest.length) left' 0)]/\Stand n n' h' (fun g m=>XOk g m x)) \/
 (∃ (A B C:AV) (e:Int) (a' left':Nat),readS d (s.drop a) left=.err e/\a'<=s.length+d+1/\r=.tup [.agg [A,B,C],.agg (rrC s a' left' e)])
theorem xC_three' (x:XR):∃ A B C,xC x=[A,B,C]:=by cases x<;>exact⟨_,_,_,rfl⟩
abbrev k34:CC:=.seq (.reg c34x21) (.seq (.draw c34x22) .ret)
theorem refStep34 (s:List UInt8) (hl:s.length<=100000) (d:Nat) (hd100:d<=100) (ihd:∀ d',d=d'+1->∀ (h:Hp) (n a left:Nat),a<=s.length->left<=20000->Fn E 34 [.agg (rrC s a left 0),.int .i64 (d':Int)] h n fun r h' n'=>Gr h n h' n'/\RdR s a left d' n r h' n')
  {h:Hp} {n a left:Nat} (ha:a<=s.length) (hleft:left<=20000):Fn E 34 [.agg (rrC s a left 0),.int .i64 (d:Int)] h n fun r h' n'=>Gr h n h' n'/\RdR s a left d n r h' n':=by
 refine Fn.of code34 (by decide) rfl fun Q cs hq=>?_
 show SW E Q 34 [(r0,.agg (rrC s a left 0)),(r1,.int .i64 (d:Int))] _ _ _ _
 have hret:∀ (g:Hp) (m:Nat) (X Y:List AV) (R:List (Path × AV)) (todo:List AItem),n+3<=m->hb g (n+1)=some (.cell X 56 false)->X.length=3->hb g (n+2)=some (.cell Y 89 false)->Y.length=4->(∀ c,c < n->hb g c=hb h c)->RdR s a left d n (.tup [.agg X,.agg Y]) g m->look R r4=some (.ptr (n+1) 0)->look R r5=some (.ptr (n+2) 0)->SW E Q 34 R (.code .ret::todo) cs g m:=by
  intro g m X Y R todo hm h1 hX h2 hY hlow hR q4 q5
  refine SW.ret code34 ⟨n+1,0,X,q4,.inl ⟨_,_,h1⟩,by omega,n+2,0,Y,q5,.inl ⟨_,_,h2⟩,by omega,?_⟩
  rw [List.drop_zero,List.drop_zero,List.take_of_length_le (by omega),List.take_of_length_le (by omega)]
  exact hq _ _ _ ⟨⟨by omega,hlow⟩,hR⟩
 refine SW.seq ?_
 refine SW.reg ?_
 refine SO.box rfl rfl rfl (by simp) (fun h1 c1 E1=>?_)
 refine SO.alloc rfl rfl (fun h2 c2 E2=>?_)
 refine SO.alloc rfl rfl (fun h3 b2 E3=>?_)
 refine SO.nil ?_
 have b0:hb h3 n=some (.cell (rrC s a left 0) 89 false):=by rw [E3.same n (by omega),E2.same n (by omega)];exact c1
 have b1:hb h3 (n+1)=some (.cell xZ 56 false):=by rw [E3.same (n+1) (by omega)];exact c2
 have hG3:Gr h n h3 (n+1+1+1):=(E1.trans E2).trans E3
 by_cases hend:a=s.length
 ·have hS:readS d (s.drop a) left=.err 11:=by rw [hend,List.drop_length];cases d<;>rfl
  repeat' first|refine SO.loadV rfl rfl rfl b0 rfl ?_|refine SW.a rfl ?_|refine SW.reg ?_|refine SO.nil ?_|refine SO.a rfl ?_|refine SO.cT rfl (by omega) ?_|fail
  refine SO.put1 rfl rfl rfl b0 rfl (by simp) (by simp) (fun g1 f1 k1=>?_)
  have f1':hb g1 n=some (.cell (rrC s a left 11) 89 false):=f1
  repeat' first|refine SO.loadVA rfl rfl rfl f1' rfl ?_|refine SO.build (v:=.agg xZ) rfl rfl rfl (fun K=>rfl) ?_|refine SW.a rfl ?_|refine SO.nil ?_|(refine SW.drawG ?_;simp only [gOps,gRc,gTail])
  refine SO.storeAll rfl rfl rfl (by rw [k1 _ (by omega)];exact b1) rfl rfl (fun g2 f2 k2=>?_)
  have f2':hb g2 n=some (.cell (rrC s a left 11) 89 false):=by rw [k2 _ (by omega)];exact f1'
  refine SO.more (Still.loadVA rfl rfl rfl f2' rfl Still.nil) ?_
  simp only [gOps,gRc,gTail]
  refine SO.storeAll rfl rfl rfl (by rw [k2 _ (by omega),k1 _ (by omega)];exact b2) rfl rfl (fun g3 f3 k3=>?_)
  repeat' refine SO.nilD ?_
  exact hret g3 (n+1+1+1) xZ (rrC s a left 11) _ _ (by omega) (by rw [k3 _ (by omega)];exact f2) rfl f3 rfl (fun c hc=>by rw [k3 _ (by omega),k2 _ (by omega),k1 _ (by omega)];exact hG3.same c hc) (.inr ⟨_,_,_,11,a,left,hS,by omega,rfl⟩) rfl rfl
 have hlt:a < s.length:=by omega
 have hd:s.drop a=s[a]::s.drop (a+1):=List.drop_eq_getElem_cons hlt
 by_cases hd0:d=0
 ·have hS:readS d (s.drop a) left=.err 12:=by rw [hd,hd0];rfl
  repeat' first|refine SO.loadV rfl rfl rfl b0 rfl ?_|refine SW.a rfl ?_|refine SW.reg ?_|refine SO.nil ?_|refine SO.a rfl ?_|refine SO.cT rfl (by omega) ?_|refine SO.cF rfl (by omega) ?_|fail
  refine SO.put1 rfl rfl rfl b0 rfl (by simp) (by simp) (fun g1 f1 k1=>?_)
  have f1':hb g1 n=some (.cell (rrC s a left 12) 89 false):=f1
  repeat' first|refine SO.loadVA rfl rfl rfl f1' rfl ?_|refine SO.build (v:=.agg xZ) rfl rfl rfl (fun K=>rfl) ?_|refine SW.a rfl ?_|refine SO.nil ?_|(refine SW.drawG ?_;simp only [gOps,gRc,gTail])
  refine SO.storeAll rfl rfl rfl (by rw [k1 _ (by omega)];exact b1) rfl rfl (fun g2 f2 k2=>?_)
  have f2':hb g2 n=some (.cell (rrC s a left 12) 89 false):=by rw [k2 _ (by omega)];exact f1'
  refine SO.more (Still.loadVA rfl rfl rfl f2' rfl Still.nil) ?_
  simp only [gOps,gRc,gTail]
  refine SO.storeAll rfl rfl rfl (by rw [k2 _ (by omega),k1 _ (by omega)];exact b2) rfl rfl (fun g3 f3 k3=>?_)
  repeat' refine SO.nilD ?_
  exact hret g3 (n+1+1+1) xZ (rrC s a left 12) _ _ (by omega) (by rw [k3 _ (by omega)];exact f2) rfl f3 rfl (fun c hc=>by rw [k3 _ (by omega),k2 _ (by omega),k1 _ (by omega)];exact hG3.same c hc) (.inr ⟨_,_,_,12,a,left,hS,by omega,rfl⟩) rfl rfl
 by_cases hl0:left=0
 ·have hS:readS d (s.drop a) left=.err 12:=by
   obtain⟨d',rfl⟩:=Nat.exists_eq_succ_of_ne_zero hd0
   rw [hd];simp only [readS];rw [if_pos hl0]
  repeat' first|refine SO.loadV rfl rfl rfl b0 rfl ?_|refine SW.a rfl ?_|refine SW.reg ?_|refine SO.nil ?_|refine SO.a rfl ?_|refine SO.cT rfl (by omega) ?_|refine SO.cF rfl (by omega) ?_|fail
  refine SO.put1 rfl rfl rfl b0 rfl (by simp) (by simp) (fun g1 f1 k1=>?_)
  have f1':hb g1 n=some (.cell (rrC s a left 12) 89 false):=f1
  repeat' first|refine SO.loadVA rfl rfl rfl f1' rfl ?_|refine SO.build (v:=.agg xZ) rfl rfl rfl (fun K=>rfl) ?_|refine SW.a rfl ?_|refine SO.nil ?_|(refine SW.drawG ?_;simp only [gOps,gRc,gTail])
  refine SO.storeAll rfl rfl rfl (by rw [k1 _ (by omega)];exact b1) rfl rfl (fun g2 f2 k2=>?_)
  have f2':hb g2 n=some (.cell (rrC s a left 12) 89 false):=by rw [k2 _ (by omega)];exact f1'
  refine SO.more (Still.loadVA rfl rfl rfl f2' rfl Still.nil) ?_
  simp only [gOps,gRc,gTail]
  refine SO.storeAll rfl rfl rfl (by rw [k2 _ (by omega),k1 _ (by omega)];exact b2) rfl rfl (fun g3 f3 k3=>?_)
  repeat' refine SO.nilD ?_
  exact hret g3 (n+1+1+1) xZ (rrC s a left 12) _ _ (by omega) (by rw [k3 _ (by omega)];exact f2) rfl f3 rfl (fun c hc=>by rw [k3 _ (by omega),k2 _ (by omega),k1 _ (by omega)];exact hG3.same c hc) (.inr ⟨_,_,_,12,a,left,hS,by omega,rfl⟩) rfl rfl
 obtain⟨d',rfl⟩:=Nat.exists_eq_succ_of_ne_zero hd0
 have h40:(s[a]=40 ↔ s[a].toNat=40):=by
  constructor
  ·intro e;rw [e];rfl
  ·intro e;apply UInt8.toNat_inj.1;rw [e];rfl
 repeat' first|refine SO.loadV rfl rfl rfl b0 rfl ?_|refine SO.subK 1 rfl rfl rfl rfl (by omega) (by show left<=9223372036854775807;omega) ?_|refine SW.a rfl ?_|refine SW.reg ?_|refine SO.nil ?_|refine SO.a rfl ?_|refine SO.cF rfl (by omega) ?_|fail
 refine SO.put1 rfl rfl rfl b0 rfl (by simp) (by simp) (fun g1 f1 k1=>?_)
 have f1':hb g1 n=some (.cell (rrC s a (left - 1) 0) 89 false):=f1
 by_cases hch40:s[a].toNat=40
 case neg =>
  have hrd:readS (d'+1) (s.drop a) left=atomS (s.drop a) (left - 1):=by
   rw [hd];simp only [readS];rw [if_neg hl0,if_neg (fun e=>hch40 (h40.1 e))]
  repeat' first|refine SO.loadV rfl rfl rfl f1' rfl ?_|refine SO.idxStrAt a rfl rfl rfl rfl rfl hlt ?_|refine SO.loadVA rfl rfl rfl f1' rfl ?_|refine SW.a rfl ?_|refine SW.reg ?_|refine SO.nil ?_|refine SO.a rfl ?_|refine SO.cT rfl (by omega) ?_|fail
  refine SO.callG rfl rfl rfl (refAtom65 s a (left - 1) hl ha) ?_
  rintro _ g2 m2 ⟨E2',⟨bs,rest,hA,rfl⟩ |⟨e,a',hA,ha',rfl⟩⟩
  ·have l2:=E2'.le
   repeat' refine SO.a rfl ?_
   refine SO.alloc rfl rfl (fun g3 f3 E3'=>?_)
   repeat' refine SO.a rfl ?_
   refine SO.storeAll rfl rfl rfl f3 rfl rfl (fun g4 f4 k4=>?_)
   have hk4:∀ c,c < m2->hb g4 c=hb g2 c:=fun c h1=>by rw [k4 c (by omega)];exact E3'.same c h1
   repeat' first|refine SO.loadVA rfl rfl rfl f4 rfl ?_|refine SO.build (v:=.agg [.bool false,strOf bs,.nils]) rfl rfl rfl (fun K=>rfl) ?_|refine SW.a rfl ?_|refine SO.nil ?_|(refine SW.drawG ?_;simp only [gOps,gRc,gTail])|refine SO.a rfl ?_
   refine SO.storeAll rfl rfl rfl (by rw [hk4 _ (by omega),E2'.same _ (by omega),k1 _ (by omega)];exact b1) rfl rfl (fun g5 f5 k5=>?_)
   have f4':hb g5 m2=some (.cell (rrC s (s.length - rest.length) (left - 1) 0) 89 false):=by rw [k5 _ (by omega)];exact f4
   refine SO.more (Still.loadVA rfl rfl rfl f4' rfl Still.nil) ?_
   simp only [gOps,gRc,gTail]
   refine SO.storeAll rfl rfl rfl (by rw [k5 _ (by omega),hk4 _ (by omega),E2'.same _ (by omega),k1 _ (by omega)];exact b2) rfl rfl (fun g6 f6 k6=>?_)
   repeat' refine SO.nilD ?_
   exact hret g6 (m2+1) [.bool false,strOf bs,.nils] (rrC s (s.length - rest.length) (left - 1) 0) _ _ (by omega) (by rw [k6 _ (by omega)];exact f5) rfl f6 rfl (fun c hc=>by rw [k6 _ (by omega),k5 _ (by omega),hk4 _ (by omega),E2'.same _ (by omega),k1 _ (by omega)];exact hG3.same c hc) (.inl ⟨.atom bs,rest,left - 1,by rw [hrd,hA];rfl,rfl,fun g m _ _=>.atom _⟩) rfl rfl
  ·have l2:=E2'.le
   repeat' refine SO.a rfl ?_
   refine SO.alloc rfl rfl (fun g3 f3 E3'=>?_)
   repeat' refine SO.a rfl ?_
   refine SO.storeAll rfl rfl rfl f3 rfl rfl (fun g4 f4 k4=>?_)
   have hk4:∀ c,c < m2->hb g4 c=hb g2 c:=fun c h1=>by rw [k4 c (by omega)];exact E3'.same c h1
   repeat' first|refine SO.loadVA rfl rfl rfl f4 rfl ?_|refine SO.build (v:=.agg [.bool false,strOf [],.nils]) rfl rfl rfl (fun K=>rfl) ?_|refine SW.a rfl ?_|refine SO.nil ?_|(refine SW.drawG ?_;simp only [gOps,gRc,gTail])|refine SO.a rfl ?_
   refine SO.storeAll rfl rfl rfl (by rw [hk4 _ (by omega),E2'.same _ (by omega),k1 _ (by omega)];exact b1) rfl rfl (fun g5 f5 k5=>?_)
   have f4':hb g5 m2=some (.cell (rrC s a' (left - 1) e) 89 false):=by rw [k5 _ (by omega)];exact f4
   refine SO.more (Still.loadVA rfl rfl rfl f4' rfl Still.nil) ?_
   simp only [gOps,gRc,gTail]
   refine SO.storeAll rfl rfl rfl (by rw [k5 _ (by omega),hk4 _ (by omega),E2'.same _ (by omega),k1 _ (by omega)];exact b2) rfl rfl (fun g6 f6 k6=>?_)
   repeat' refine SO.nilD ?_
   exact hret g6 (m2+1) [.bool false,strOf [],.nils] (rrC s a' (left - 1) e) _ _ (by omega) (by rw [k6 _ (by omega)];exact f5) rfl f6 rfl (fun c hc=>by rw [k6 _ (by omega),k5 _ (by omega),hk4 _ (by omega),E2'.same _ (by omega),k1 _ (by omega)];exact hG3.same c hc) (.inr ⟨_,_,_,e,a',left - 1,by rw [hrd,hA],by omega,rfl⟩) rfl rfl
 case pos =>
  have hrd:readS (d'+1) (s.drop a) left=(match listS (readS d') ((s.drop (a+1)).length+1) (s.drop (a+1)) (left - 1) with
   | .err e=>.err e
   | .ok xs rest left'=>.ok (.list xs) rest left'):=by
   rw [hd];simp only [readS];rw [if_neg hl0,if_pos (h40.2 hch40)];rfl
  generalize hK:(s.drop (a+1)).length+1=K at *
  have hdl1:(s.drop (a+1)).length=s.length - (a+1):=List.length_drop
  have last:∀ (KK:CC),KK=k34->∀ (g:Hp) (m a1 l1:Nat) (e:Int) (v:AV),n+4<=m->a1<=200000->hb g n=some (.cell (rrC s a1 l1 e) 89 false)->hb g (n+1)=some (.cell xZ 56 false)->hb g (n+2)=some (.cell rrZ 89 false)->hb g (n+3)=some (.cell [.bool true,strOf [],v] 56 false)->(∀ c,c < n->hb g c=hb h c)->(∀ g',(∀ c,n+3<=c->hb g' c=hb g c)->RdR s a left (d'+1) n (.tup [.agg [.bool true,strOf [],v],.agg (rrC s (a1+1) l1 e)]) g' m)->∀ R,look R r2=some (.ptr n 0)->look R r4=some (.ptr (n+1) 0)->look R r5=some (.ptr (n+2) 0)->look R r8=some (.ptr (n+3) 0)->SW E Q 34 R [.code KK] cs g m:=by
   intro KK hKK g m a1 l1 e v hm ha1 e0 e1 e2 e3 hlow hR R q2 q4 q5 q8
   subst hKK
   refine SW.sub (R':=[(r2,.ptr n 0),(r4,.ptr (n+1) 0),(r5,.ptr (n+2) 0),(r8,.ptr (n+3) 0)]) (by simp [q2,q4,q5,q8]) ?_
   repeat' first|refine SO.loadV rfl rfl rfl e0 rfl ?_|refine SO.addN 1 rfl rfl rfl rfl (by show a1+1<=9223372036854775807;omega) ?_|refine SW.a rfl ?_|refine SW.reg ?_|refine SO.a rfl ?_
   refine SO.put1 rfl rfl rfl e0 rfl (by simp) (by simp) (fun g1 f1 k1=>?_)
   have f1':hb g1 n=some (.cell (rrC s (a1+1) l1 e) 89 false):=f1
   have e3':hb g1 (n+3)=some (.cell [.bool true,strOf [],v] 56 false):=by rw [k1 _ (by omega)];exact e3
   repeat' first|refine SO.loadVA rfl rfl rfl e3' rfl ?_|refine SO.loadVA rfl rfl rfl f1' rfl ?_|refine SW.a rfl ?_|refine SO.nil ?_|(refine SW.drawG ?_;simp only [gOps,gRc,gTail])
   refine SO.storeAll rfl rfl rfl (by rw [k1 _ (by omega)];exact e1) rfl rfl (fun g2 f2 k2=>?_)
   have f2':hb g2 n=some (.cell (rrC s (a1+1) l1 e) 89 false):=by rw [k2 _ (by omega)];exact f1'
   refine SO.more (Still.loadVA rfl rfl rfl f2' rfl Still.nil) ?_
   simp only [gOps,gRc,gTail]
   refine SO.storeAll rfl rfl rfl (by rw [k2 _ (by omega),k1 _ (by omega)];exact e2) rfl rfl (fun g3 f3 k3=>?_)
   repeat' refine SO.nilD ?_
   exact hret g3 m [.bool true,strOf [],v] (rrC s (a1+1) l1 e) _ _ (by omega) (by rw [k3 _ (by omega)];exact f2) rfl f3 rfl (fun c hc=>by rw [k3 _ (by omega),k2 _ (by omega),k1 _ (by omega)];exact hlow c hc) (hR g3 fun c hc=>by rw [k3 _ (by omega),k2 _ (by omega),k1 _ (by omega)]) rfl rfl
  have errLoop:∀ (KK:CC),KK=k34->∀ (g:Hp) (m a1 l1:Nat) (e:Int) (v:AV),e≠0->n+4<=m->a1<=s.length+d'+1->hb g n=some (.cell (rrC s a1 l1 e) 89 false)->hb g (n+1)=some (.cell xZ 56 false)->hb g (n+2)=some (.cell rrZ 89 false)->hb g (n+3)=some (.cell [.bool true,strOf [],v] 56 false)->(∀ c,c < n->hb g c=hb h c)->listS (readS d') K (s.drop (a+1)) (left - 1)=.err e->∀ R,look R r2=some (.ptr n 0)->look R r4=some (.ptr (n+1) 0)->look R r5=some (.ptr (n+2) 0)->look R r8=some (.ptr (n+3) 0)->SW E Q 34 R [.code c34x20,.inLoop c34x20,.inBlock 0,.code KK] cs g m:=by
   intro KK hKK g m a1 l1 e v he0 hm ha1 e0 e1 e2 e3 hlow hL R q2 q4 q5 q8
   refine SW.sub (R':=[(r2,.ptr n 0),(r4,.ptr (n+1) 0),(r5,.ptr (n+2) 0),(r8,.ptr (n+3) 0)]) (by simp [q2,q4,q5,q8]) ?_
   repeat' first|refine SO.loadV rfl rfl rfl e0 rfl ?_|refine SW.a rfl ?_|refine SW.reg ?_|refine SO.nil ?_|refine SO.a rfl ?_|refine SO.cF rfl (by omega) ?_|fail
   exact last KK hKK g m a1 l1 e v hm (by omega) e0 e1 e2 e3 hlow (fun g' _=>.inr ⟨_,_,_,e,a1+1,l1,by rw [hrd,hL],by omega,rfl⟩) _ rfl rfl rfl rfl
  have loop:∀ (KK:CC),KK=k34->∀ (k a1 l1:Nat) (g:Hp) (m:Nat) (v:AV) (fo:Option Nat) (xs:List XR),(s.drop a1).length < k->a1<=s.length->l1<=20000->xs.length<=a1->n+4<=m->hb g n=some (.cell (rrC s a1 l1 0) 89 false)->hb g (n+1)=some (.cell xZ 56 false)->hb g (n+2)=some (.cell rrZ 89 false)->hb g (n+3)=some (.cell [.bool true,strOf [],v] 56 false)->Own g (n+4) m 3 56 v fo (xs.flatMap xC)->Each g (n+4) m fo (fun x g m=>XOk g m x) xs->(∀ c,c < n->hb g c=hb h c) ->
    listS (readS d') K (s.drop (a+1)) (left - 1)=appL (xs.map XR.sx) (listS (readS d') k (s.drop a1) l1)->∀ R,look R r1=some (.int .i64 ((d'+1:Nat):Int))->look R r2=some (.ptr n 0)->look R r4=some (.ptr (n+1) 0)->look R r5=some (.ptr (n+2) 0)->look R r8=some (.ptr (n+3) 0)->SW E Q 34 R [.code c34x20,.inLoop c34x20,.inBlock 0,.code KK] cs g m:=by
   intro KK hKK k
   induction k with
   | zero=>intro a1 l1 g m v fo xs hk;omega
   | succ k ihk =>
    intro a1 l1 g m v fo xs hk ha1 hl1 hxl hm e0 e1 e2 e3 ho hX hlow hL R q1 q2 q4 q5 q8
    refine SW.sub (R':=[(r1,.int .i64 ((d'+1:Nat):Int)),(r2,.ptr n 0),(r4,.ptr (n+1) 0),(r5,.ptr (n+2) 0),(r8,.ptr (n+3) 0)]) (by simp [q1,q2,q4,q5,q8]) ?_
    by_cases hend1:a1=s.length
    ·
     have hS:∀ l,readS d' (s.drop a1) l=.err 11:=fun l=>by rw [hend1,List.drop_length];cases d'<;>rfl
     have hL':listS (readS d') K (s.drop (a+1)) (left - 1)=.err 11:=by rw [hL,hend1,List.drop_length];rfl
     repeat' first|refine SO.loadV rfl rfl rfl e0 rfl ?_|refine SO.loadVA rfl rfl rfl e0 rfl ?_|refine SO.subK 1 rfl rfl rfl rfl (by omega) (by show d'+1<=9223372036854775807;omega) ?_|refine SW.a rfl ?_|refine SW.reg ?_|refine SO.nil ?_|refine SO.a rfl ?_|refine SO.cT rfl (by omega) ?_|fail
     refine SO.callG rfl rfl rfl (ihd d' rfl g m a1 l1 ha1 hl1) ?_
     rintro _ g2 m2 ⟨E2',⟨x,rest,left',hr,_⟩ |⟨A,B,C,e,a',left',hr,ha',rfl⟩⟩
     ·rw [hS] at hr;simp at hr
     rw [hS] at hr
     simp only [RX.err.injEq] at hr
     subst hr
     have l2:=E2'.le
     repeat' refine SO.a rfl ?_
     refine SO.alloc rfl rfl (fun g3 f3 E3'=>?_)
     refine SO.alloc rfl rfl (fun g4 f4 E4'=>?_)
     refine SO.storeAll rfl rfl rfl (by rw [E4'.same _ (by omega)];exact f3) rfl rfl (fun g5 f5 k5=>?_)
     refine SO.storeAll rfl rfl rfl (by rw [k5 _ (by omega)];exact f4) rfl rfl (fun g6 f6 k6=>?_)
     have hk6:∀ c,c < m2->hb g6 c=hb g2 c:=fun c h1=>by rw [k6 c (by omega),k5 c (by omega),E4'.same c (by omega),E3'.same c h1]
     have p0:hb g6 n=some (.cell (rrC s a1 l1 0) 89 false):=by rw [hk6 _ (by omega),E2'.same _ (by omega)];exact e0
     repeat' first|refine SO.loadV rfl rfl rfl f6 rfl ?_|refine SO.loadV rfl rfl rfl p0 rfl ?_|refine SW.a rfl ?_|refine SW.reg ?_|refine SO.nil ?_|refine SO.a rfl ?_|refine SO.cT rfl (by omega) ?_|refine SO.cF rfl (by omega) ?_|fail
     refine SO.put1 rfl rfl rfl f6 rfl (by simp) (by simp) (fun g7 f7 k7=>?_)
     have f7':hb g7 (m2+1)=some (.cell (rrC s a' left' 11) 89 false):=f7
     repeat' first|refine SO.loadVA rfl rfl rfl f7' rfl ?_|refine SW.reg ?_|refine SO.nil ?_
     refine SO.storeAll rfl rfl rfl (by rw [k7 _ (by omega)];exact p0) rfl rfl (fun g8 f8 k8=>?_)
     have hk8:∀ c,c < m->c≠n->hb g8 c=hb g c:=fun c h1 h2=>by rw [k8 c h2,k7 c (by omega),hk6 c (by omega),E2'.same c h1]
     repeat' first|refine SW.a rfl ?_|refine SO.nil ?_
     refine SW.again ?_
     exact errLoop KK hKK g8 _ a' left' 11 v (by omega) (by omega) (by omega) f8 (by rw [hk8 _ (by omega) (by omega)];exact e1) (by rw [hk8 _ (by omega) (by omega)];exact e2) (by rw [hk8 _ (by omega) (by omega)];exact e3) (fun c hc=>by rw [hk8 _ (by omega) (by omega)];exact hlow c hc) hL' _ rfl rfl rfl rfl
    have hlt1:a1 < s.length:=by omega
    have hd1:s.drop a1=s[a1]::s.drop (a1+1):=List.drop_eq_getElem_cons hlt1
    have h41:(s[a1]=41 ↔ s[a1].toNat=41):=by
     constructor
     ·intro e;rw [e];rfl
     ·intro e;apply UInt8.toNat_inj.1;rw [e];rfl
    rw [hd1] at hL
    simp only [listS] at hL
    rw [<- hd1] at hL
    by_cases h41':s[a1].toNat=41
    ·
     rw [if_pos (h41.2 h41')] at hL
     simp only [appL,List.append_nil] at hL
     repeat' first|refine SO.loadV rfl rfl rfl e0 rfl ?_|refine SO.idxStrAt a1 rfl rfl rfl rfl rfl hlt1 ?_|refine SW.a rfl ?_|refine SW.reg ?_|refine SO.nil ?_|refine SO.a rfl ?_|refine SO.cT rfl (by omega) ?_|refine SO.cF rfl (by omega) ?_|fail
     refine last KK hKK g m a1 l1 0 v hm (by omega) e0 e1 e2 e3 hlow (fun g' hg'=>.inl ⟨.list v xs,s.drop (a1+1),l1,?_,?_,?_⟩) _ rfl rfl rfl rfl
     ·rw [hrd,hL]
      simp only [XR.sx,sxs_eq]
     ·rw [show s.length - (s.drop (a1+1)).length=a1+1 by simp;omega];rfl
     ·have ho5:Own g' (n+4) m 3 56 v fo (xs.flatMap xC):=ho.keep (Nat.le_refl _) fun x h1 _=>hg' x (by omega)
      have hX5:Each g' (n+4) m fo (fun x g m=>XOk g m x) xs:=hX.keep (Nat.le_refl _) fun x h1 _ _=>hg' x (by omega)
      intro g6 m6 hm6 hk6
      refine .list v xs ((ho5.keep hm6 fun x h1 h2=>hk6 x (by omega) h2).sl (flatMap_length xC_length xs) (by decide)) fun x hx=>?_
      obtain⟨lo,hi,l1,l2,l3,_⟩:=hX5 x hx
      exact l3 g6 m6 (by omega) fun y h1 h2=>hk6 y (by omega) (by omega)
    rw [if_neg (fun e=>h41' (h41.1 e))] at hL
    repeat' first|refine SO.loadV rfl rfl rfl e0 rfl ?_|refine SO.idxStrAt a1 rfl rfl rfl rfl rfl hlt1 ?_|refine SO.loadVA rfl rfl rfl e0 rfl ?_|refine SO.subK 1 rfl rfl rfl rfl (by omega) (by show d'+1<=9223372036854775807;omega) ?_|refine SW.a rfl ?_|refine SW.reg ?_|refine SO.nil ?_|refine SO.a rfl ?_|refine SO.cT rfl (by omega) ?_|refine SO.cF rfl (by omega) ?_|fail
    refine SO.callG rfl rfl rfl (ihd d' rfl g m a1 l1 ha1 hl1) ?_
    rintro _ g2 m2 ⟨E2',⟨x,rest,left',hr,rfl,hst⟩ |⟨A,B,C,e,a',left',hr,ha',rfl⟩⟩
    case inr =>
     have he0:=readS_err _ _ _ _ hr
     have hL':listS (readS d') K (s.drop (a+1)) (left - 1)=.err e:=by rw [hL,hr];rfl
     have l2:=E2'.le
     repeat' refine SO.a rfl ?_
     refine SO.alloc rfl rfl (fun g3 f3 E3'=>?_)
     refine SO.alloc rfl rfl (fun g4 f4 E4'=>?_)
     refine SO.storeAll rfl rfl rfl (by rw [E4'.same _ (by omega)];exact f3) rfl rfl (fun g5 f5 k5=>?_)
     refine SO.storeAll rfl rfl rfl (by rw [k5 _ (by omega)];exact f4) rfl rfl (fun g6 f6 k6=>?_)
     have hk6:∀ c,c < m2->hb g6 c=hb g2 c:=fun c h1=>by rw [k6 c (by omega),k5 c (by omega),E4'.same c (by omega),E3'.same c h1]
     have p0:hb g6 n=some (.cell (rrC s a1 l1 0) 89 false):=by rw [hk6 _ (by omega),E2'.same _ (by omega)];exact e0
     repeat' first|refine SO.loadV rfl rfl rfl f6 rfl ?_|refine SO.loadV rfl rfl rfl p0 rfl ?_|refine SO.loadVA rfl rfl rfl f6 rfl ?_|refine SW.a rfl ?_|refine SW.reg ?_|refine SO.nil ?_|refine SO.a rfl ?_|refine SO.cF rfl (by omega) ?_|fail
     refine SO.storeAll rfl rfl rfl p0 rfl rfl (fun g8 f8 k8=>?_)
     have hk8:∀ c,c < m->c≠n->hb g8 c=hb g c:=fun c h1 h2=>by rw [k8 c h2,hk6 c (by omega),E2'.same c h1]
     repeat' first|refine SW.a rfl ?_|refine SO.nil ?_
     refine SW.again ?_
     exact errLoop KK hKK g8 _ a' left' e v he0 (by omega) (by omega) f8 (by rw [hk8 _ (by omega) (by omega)];exact e1) (by rw [hk8 _ (by omega) (by omega)];exact e2) (by rw [hk8 _ (by omega) (by omega)];exact e3) (fun c hc=>by rw [hk8 _ (by omega) (by omega)];exact hlow c hc) hL' _ rfl rfl rfl rfl
    case inl =>
     rw [hr] at hL
     simp only at hL
     have l2:=E2'.le
     have hinv:=readS_inv _ _ _ _ _ _ hr
     have hra:=rest_at hinv.1 ha1
     have hsh:=readS_shorter _ _ _ _ _ _ hr
     obtain⟨A,B,C,hx3⟩:=xC_three' x
     rw [hx3]
     repeat' refine SO.a rfl ?_
     refine SO.alloc rfl rfl (fun g3 f3 E3'=>?_)
     refine SO.alloc rfl rfl (fun g4 f4 E4'=>?_)
     refine SO.storeAll rfl rfl rfl (by rw [E4'.same _ (by omega)];exact f3) rfl rfl (fun g5 f5 k5=>?_)
     refine SO.storeAll rfl rfl rfl (by rw [k5 _ (by omega)];exact f4) rfl rfl (fun g6 f6 k6=>?_)
     have hk6:∀ c,c < m2->hb g6 c=hb g2 c:=fun c h1=>by rw [k6 c (by omega),k5 c (by omega),E4'.same c (by omega),E3'.same c h1]
     have hk06:∀ c,c < m->hb g6 c=hb g c:=fun c h1=>by rw [hk6 c (by omega),E2'.same c h1]
     have p0:hb g6 n=some (.cell (rrC s a1 l1 0) 89 false):=by rw [hk06 _ (by omega)];exact e0
     have p3:hb g6 (n+3)=some (.cell [.bool true,strOf [],v] 56 false):=by rw [hk06 _ (by omega)];exact e3
     have f5':hb g6 m2=some (.cell [A,B,C] 56 false):=by rw [k6 _ (by omega)];exact f5
     repeat' first|refine SO.loadV rfl rfl rfl f6 rfl ?_|refine SO.loadV rfl rfl rfl p3 rfl ?_|refine SO.loadVA rfl rfl rfl f5' rfl ?_|refine SW.a rfl ?_|refine SW.reg ?_|refine SO.nil ?_|refine SO.a rfl ?_|refine SO.cT rfl (by omega) ?_|fail
     refine SO.bslice (us:=xC x) rfl rfl rfl (fun k=>by rw [hx3];rfl) (fun g7 f7 E7=>?_)
     have ho7:Own g7 (n+4) (m2+1+1+1) 3 56 v fo (xs.flatMap xC):=(ho.keep (n':=m2+1+1) (by omega) fun y h1 h2=>hk06 y h2).keep (by omega) fun y _ h2=>E7.same y h2
     have hx:Sl g7 (m2+1+1+1) 3 (.slc (m2+1+1) 0 1 1) 1 (xC x):=⟨xC_length x,.inr ⟨m2+1+1,0,1,_,.inl ⟨rfl,Nat.le_refl _⟩,⟨by omega,.inl ⟨_,_,f7⟩⟩,by rw [xC_length];omega,by rw [List.drop_zero,<- xC_length x,List.take_of_length_le (by omega)]⟩⟩
     refine SO.append rfl rfl rfl rfl (by decide) (by decide) ho7 (by omega) hx (by rw [flatMap_length xC_length,xC_length];omega) fun v' fo' g8 m8 ho8 hn8 hk8 hf8=>?_
     have hfo:∀ y,y < n+4->fo≠some y:=fun y hy e=>by have:=own_low ho e;omega
     have hfo2:∀ y,m<=y->fo≠some y:=fun y hy e=>by have:=own_low ho e;omega
     have d3:hb g8 (n+3)=some (.cell [.bool true,strOf [],v] 56 false):=by rw [hk8 _ (by omega) (hfo _ (by omega)),E7.same _ (by omega)];exact p3
     repeat' refine SO.a rfl ?_
     refine SO.put1 rfl rfl rfl d3 (own_one ho8).1 (own_one ho8).2 (by simp) (fun g9 f9 k9=>?_)
     have f9':hb g9 (n+3)=some (.cell [.bool true,strOf [],v'] 56 false):=f9
     have p9:hb g9 n=some (.cell (rrC s a1 l1 0) 89 false):=by rw [k9 _ (by omega),hk8 _ (by omega) (hfo _ (by omega)),E7.same _ (by omega)];exact p0
     have r9':hb g9 (m2+1)=some (.cell (rrC s (s.length - rest.length) left' 0) 89 false):=by rw [k9 _ (by omega),hk8 _ (by omega) (hfo2 _ (by omega)),E7.same _ (by omega)];exact f6
     repeat' first|refine SO.loadV rfl rfl rfl p9 rfl ?_|refine SO.loadVA rfl rfl rfl r9' rfl ?_|refine SW.a rfl ?_|refine SW.reg ?_|refine SO.nil ?_|refine SO.a rfl ?_|refine SO.cF rfl (by omega) ?_|fail
     refine SO.storeAll rfl rfl rfl p9 rfl rfl (fun g10 f10 k10=>?_)
     repeat' first|refine SW.a rfl ?_|refine SO.nil ?_
     refine SW.again ?_
     have hlow10:∀ y,y < n+4->y≠n->y≠n+3->hb g10 y=hb g y:=fun y h1 h2 h3=>by rw [k10 y h2,k9 y h3,hk8 y (by omega) (hfo y h1),E7.same y (by omega),hk06 y (by omega)]
     refine ihk (s.length - rest.length) left' g10 m8 v' fo' (xs++[x]) ?_ (by omega) (by omega) ?_ (by omega) f10 ?_ ?_ ?_ ?_ ?_ ?_ ?_ _ rfl rfl rfl rfl rfl
     ·rw [<- hra.1];omega
     ·have:=congrArg List.length hra.1
      simp only [List.length_drop,List.length_append,List.length_singleton] at hsh this ⊢
      omega
     ·rw [hlow10 _ (by omega) (by omega) (by omega)];exact e1
     ·rw [hlow10 _ (by omega) (by omega) (by omega)];exact e2
     ·rw [k10 _ (by omega)];exact f9'
     ·rw [List.flatMap_append]
      have:=ho8.keep (h':=g10) (Nat.le_refl _) fun y h1 _=>by rw [k10 y (by omega),k9 y (by omega)]
      simpa using this
     ·have h5:Each g7 (n+4) (m2+1+1+1) fo (fun x g m=>XOk g m x) (xs++[x]):=by
       refine Each.snoc (hX.keep (by omega) fun y h1 h2 _=>by rw [E7.same y (by omega),hk06 y h2]) ⟨m,m2,by omega,by omega,hst.keep fun y h1 h2=>by rw [E7.same y (by omega),hk6 y h2],fun f hf=>.inl ?_⟩
       have:=own_low ho hf;omega
      exact (h5.append hn8 hk8 hf8).keep (Nat.le_refl _) fun y h1 _ _=>by rw [k10 y (by omega),k9 y (by omega)]
     ·intro c hc
      rw [hlow10 _ (by omega) (by omega) (by omega)];exact hlow c hc
     ·rw [hL,<- hra.1]
      cases listS (readS d') k rest left'<;>simp [appL]
  repeat' first|refine SO.loadV rfl rfl rfl f1' rfl ?_|refine SO.idxStrAt a rfl rfl rfl rfl rfl hlt ?_|refine SO.build (v:=.agg [.bool true,strOf [],.nils]) rfl rfl rfl (fun K=>rfl) ?_|refine SO.alloc rfl rfl (fun g2 f2 E2'=>?_)|refine SW.a rfl ?_|refine SW.reg ?_|refine SO.nil ?_|refine SO.a rfl ?_|refine SO.cF rfl (by omega) ?_|fail
  refine SO.storeAll rfl rfl rfl f2 rfl rfl (fun g3 f3 k3=>?_)
  have hk3:∀ c,c < n+3->hb g3 c=hb g1 c:=fun c h1=>by rw [k3 c (by omega)];exact E2'.same c h1
  have p0:hb g3 n=some (.cell (rrC s a (left - 1) 0) 89 false):=by rw [hk3 _ (by omega)];exact f1'
  repeat' first|refine SO.loadV rfl rfl rfl p0 rfl ?_|refine SO.addN 1 rfl rfl rfl rfl (by show a+1<=9223372036854775807;omega) ?_|refine SW.a rfl ?_|refine SW.reg ?_|refine SO.nil ?_|refine SO.a rfl ?_
  refine SO.put1 rfl rfl rfl p0 rfl (by simp) (by simp) (fun g4 f4 k4=>?_)
  have f4':hb g4 n=some (.cell (rrC s (a+1) (left - 1) 0) 89 false):=f4
  repeat' first|refine SW.a rfl ?_|refine SO.nil ?_
  refine SW.loop ?_
  exact loop k34 rfl K (a+1) (left - 1) g4 (n+4) .nils none [] (by omega) (by omega) (by omega) (by simp) (Nat.le_refl _) f4' (by rw [k4 _ (by omega),hk3 _ (by omega),k1 _ (by omega)];exact b1) (by rw [k4 _ (by omega),hk3 _ (by omega),k1 _ (by omega)];exact b2) (by rw [k4 _ (by omega)];exact f3) (.inl ⟨rfl,rfl,rfl⟩) Each.nil (fun c hc=>by rw [k4 _ (by omega),hk3 _ (by omega),k1 _ (by omega)];exact hG3.same c hc) (by rw [List.map_nil,appL_nil]) _ rfl rfl rfl rfl rfl
theorem refRead34 (s:List UInt8) (hl:s.length<=100000):∀ (d:Nat),d<=100->∀ (h:Hp) (n a left:Nat),a<=s.length->left<=20000->Fn E 34 [.agg (rrC s a left 0),.int .i64 (d:Int)] h n fun r h' n'=>Gr h n h' n'/\RdR s a left d n r h' n':=by
 intro d
 induction d with
 | zero=>exact fun hd h n a left ha hleft=>refStep34 s hl 0 hd (fun d' e=>by omega) ha hleft
 | succ d ih=>exact fun hd h n a left ha hleft=>refStep34 s hl (d+1) hd (fun d' e=>by
   obtain rfl:d'=d:=by omega
   exact ih (by omega)) ha hleft
end Go.Ev
