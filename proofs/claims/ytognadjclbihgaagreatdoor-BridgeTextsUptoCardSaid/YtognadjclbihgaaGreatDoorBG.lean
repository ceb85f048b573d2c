/- Contract: bridge.Parse, the loop. -/
import Derived.Test.YtognadjclbihgaaGreatDoorE6
import Derived.Test.YtognadjclbihgaaGreatDoorBF
import Derived.Test.YtognadjclbihgaaGreatDoorBB
set_option linter.all false
namespace Go.Ev
set_option maxRecDepth 100000
set_option maxHeartbeats 16000000
def RP (h:Hp) (n:Nat) (bs:List UInt8) (t:Tr) (p:Nat) (acc:List (Nat × SnapR)) (sn:Option SN) (b:Bool) (g:Hp) (m:Nat):Prop :=
 (b=true/\∃ rr u v fo fa,sn=some rr.s/\PI h n bs t g m u v fo fa (acc++[(p,rr)]))\/(b=false/\∃ e,partsS bs.length 0 bs=.err p e/\PE h n t g m p e)
theorem roundErr6 {h:Hp} {n:Nat} {bs:List UInt8} {t:Tr} {g:Hp} {m p b7:Nat} {u v A B C:AV} {fo fa:Option Nat} {acc:List (Nat × SnapR)} {e:Int} {sn:Option SN} (hI:PI h n bs t g m u v fo fa acc) (hc:hb g b7=some (.cell [.int .i64 (p:Int),A,B,C,.int .i64 e] 58 false)) (hb7:n+8<=b7) (he0:e≠0) (hp:partsS bs.length 0 bs=.err p e)
  {Q':Post} {cs':List AF} (hun:unwTop cs'=false) (hq':∀ b h' n',RP h n bs t p acc sn b h' n'->Wp E Q' (.give (.bool b) cs') h' n') :
  ∀ R,look R r2=some (.ptr n 0)->look R r3=some (.ptr (n+1) 0)->look R r4=some (.ptr (n+2) 0)->look R r7=some (.ptr b7 0)->SW E Q' ⟨6,[],some (n+7)⟩ R [.beginRound,.code body6] cs' g m:=by
 intro R q2 q3 q4 q7
 refine SW.sub (R':=[(r2,.ptr n 0),(r3,.ptr (n+1) 0),(r4,.ptr (n+2) 0),(r7,.ptr b7 0)]) (by simp [q2,q3,q4,q7]) ?_
 have hle:=hI.le
 refine SW.beginRound hI.l fun g1 hl1 k1=>?_
 have c7:hb g1 b7=some (.cell [.int .i64 (p:Int),A,B,C,.int .i64 e] 58 false):=by rw [k1 _ (by omega)];exact hc
 have e2:hb g1 n=some (.cell [.nils] 23 false):=by rw [k1 _ (by omega)];exact hI.e2
 have e3:hb g1 (n+1)=some (.cell [.int .i64 0] 3 false):=by rw [k1 _ (by omega)];exact hI.e3
 have e4:hb g1 (n+2)=some (.cell [.int .i64 0] 24 false):=by rw [k1 _ (by omega)];exact hI.e4
 repeat' first|refine SO.loadV rfl rfl rfl c7 rfl ?_|refine SW.a rfl ?_|refine SW.reg ?_|refine SO.nil ?_|(refine SW.drawG ?_;simp only [gOps,gRc,gTail])|refine SO.a rfl ?_|refine SO.cT rfl (by omega) ?_|fail
 refine SO.put1 rfl rfl rfl e2 rfl (by simp) (by simp) (fun g2 f2 k2=>?_)
 have c72:hb g2 b7=some (.cell [.int .i64 (p:Int),A,B,C,.int .i64 e] 58 false):=by rw [k2 _ (by omega)];exact c7
 refine SO.more (Still.loadV (c:=⟨none,none,[],.mov⟩) rfl rfl rfl c72 rfl (Still.loadV (c:=⟨none,none,[],.mov⟩) rfl rfl rfl c72 rfl Still.nil)) ?_
 simp only [gOps,gRc,gTail]
 refine SO.put1 rfl rfl rfl (by rw [k2 _ (by omega)];exact e3) rfl (by simp) (by simp) (fun g3 f3 k3=>?_)
 have c73:hb g3 b7=some (.cell [.int .i64 (p:Int),A,B,C,.int .i64 e] 58 false):=by rw [k3 _ (by omega)];exact c72
 refine SO.more (Still.loadV (c:=⟨none,none,[],.mov⟩) rfl rfl rfl c73 rfl Still.nil) ?_
 simp only [gOps,gRc,gTail]
 refine SO.put1 rfl rfl rfl (by rw [k3 _ (by omega),k2 _ (by omega)];exact e4) rfl (by simp) (by simp) (fun g4 f4 k4=>?_)
 repeat' refine SO.nilD ?_
 have hl4:hb g4 (n+7)=some (.loop .busy none 6 t [r14] (.reg c6x4) body6 (n+6)):=by rw [k4 _ (by omega),k3 _ (by omega),k2 _ (by omega)];exact hl1
 refine SW.roundRet hun hl4 fun g5 hl5 k5=>hq' _ _ _ (.inr ⟨rfl,e,hp,⟨hle,?_,?_,?_,?_,hl5,fun b hb0=>?_⟩⟩)
 ·rw [k5 _ (by omega),k4 _ (by omega),k3 _ (by omega)];exact f2
 ·rw [k5 _ (by omega),k4 _ (by omega)];exact f3
 ·rw [k5 _ (by omega)];exact f4
 ·rw [k5 _ (by omega),k4 _ (by omega),k3 _ (by omega),k2 _ (by omega),k1 _ (by omega)];exact hI.d
 ·rw [k5 _ (by omega),k4 _ (by omega),k3 _ (by omega),k2 _ (by omega),k1 _ (by omega)];exact hI.low b hb0
theorem roundOk6 {h:Hp} {n:Nat} {bs:List UInt8} {t:Tr} {g:Hp} {m p b7:Nat} {u v A B C:AV} {fo fa:Option Nat} {acc:List (Nat × SnapR)} {x:XR} (he:Err h n) (hI:PI h n bs t g m u v fo fa acc) (hc:hb g b7=some (.cell [.int .i64 (p:Int),A,B,C,.int .i64 0] 58 false)) (hb7:n+8<=b7) (hb7':b7 < m) (hx:xC x=[A,B,C]) (hg:∀ g' m',m<=m'->(∀ c,c < m->c≠n+7->hb g' c=hb g c)->XGood g' m' x) (hbad:snapX x.sx=none->partsS bs.length 0 bs=.err p 3) (hal:acc.length<=100000)
  {Q':Post} {cs':List AF} (hun:unwTop cs'=false) (hq':∀ b h' n',RP h n bs t p acc (snapX x.sx) b h' n'->Wp E Q' (.give (.bool b) cs') h' n') :
  ∀ R,look R r2=some (.ptr n 0)->look R r3=some (.ptr (n+1) 0)->look R r4=some (.ptr (n+2) 0)->look R r5=some (.ptr (n+3) 0)->look R r6=some (.ptr (n+4) 0)->look R r7=some (.ptr b7 0)->SW E Q' ⟨6,[],some (n+7)⟩ R [.beginRound,.code body6] cs' g m:=by
 intro R q2 q3 q4 q5 q6 q7
 refine SW.sub (R':=[(r2,.ptr n 0),(r3,.ptr (n+1) 0),(r4,.ptr (n+2) 0),(r5,.ptr (n+3) 0),(r6,.ptr (n+4) 0),(r7,.ptr b7 0)]) (by simp [q2,q3,q4,q5,q6,q7]) ?_
 have hle:=hI.le
 refine SW.beginRound hI.l fun g1 hl1 k1=>?_
 have c7:hb g1 b7=some (.cell [.int .i64 (p:Int),A,B,C,.int .i64 0] 58 false):=by rw [k1 _ (by omega)];exact hc
 have e2:hb g1 n=some (.cell [.nils] 23 false):=by rw [k1 _ (by omega)];exact hI.e2
 have e3:hb g1 (n+1)=some (.cell [.int .i64 0] 3 false):=by rw [k1 _ (by omega)];exact hI.e3
 have e4:hb g1 (n+2)=some (.cell [.int .i64 0] 24 false):=by rw [k1 _ (by omega)];exact hI.e4
 have e5:hb g1 (n+3)=some (.cell [u] 23 false):=by rw [k1 _ (by omega)];exact hI.out
 have e6:hb g1 (n+4)=some (.cell [v] 34 false):=by rw [k1 _ (by omega)];exact hI.ats
 have hsn:=snapshot14 (h:=g1) (n:=m) x (hg g1 m (Nat.le_refl _) fun c _ h2=>k1 c h2) (he.ext ⟨by omega,fun c h1=>by rw [k1 c (by omega)];exact hI.low c h1⟩)
 rw [hx] at hsn
 repeat' first|refine SO.loadV rfl rfl rfl c7 rfl ?_|refine SO.loadVAo rfl rfl rfl c7 (Nat.le_of_ble_eq_true rfl) ?_|refine SW.a rfl ?_|refine SW.reg ?_|refine SO.nil ?_|refine SO.a rfl ?_|refine SO.cF rfl (by omega) ?_|fail
 refine SO.callG rfl rfl rfl hsn ?_
 rintro _ g2 m2 ⟨E2,vp,vf,rfl,hst⟩
 have l2:=E2.le
 have hsx:=snapX_eq x.sx
 repeat' first|refine SO.alloc rfl rfl (fun g3 f3 E3=>?_)|refine SO.a rfl ?_
 refine SO.storeAll rfl rfl rfl f3 rfl rfl (fun g4 f4 k4=>?_)
 have hk4:∀ c,c < m2->hb g4 c=hb g2 c:=fun c h1=>by rw [k4 c (by omega)];exact E3.same c h1
 have hk14:∀ c,c < m->hb g4 c=hb g1 c:=fun c h1=>by rw [hk4 c (by omega)];exact E2.same c h1
 have d7:hb g4 b7=some (.cell [.int .i64 (p:Int),A,B,C,.int .i64 0] 58 false):=by rw [hk14 _ (by omega)];exact c7
 have d2:hb g4 n=some (.cell [.nils] 23 false):=by rw [hk14 _ (by omega)];exact e2
 have d3:hb g4 (n+1)=some (.cell [.int .i64 0] 3 false):=by rw [hk14 _ (by omega)];exact e3
 have d4:hb g4 (n+2)=some (.cell [.int .i64 0] 24 false):=by rw [hk14 _ (by omega)];exact e4
 have d5:hb g4 (n+3)=some (.cell [u] 23 false):=by rw [hk14 _ (by omega)];exact e5
 have d6:hb g4 (n+4)=some (.cell [v] 34 false):=by rw [hk14 _ (by omega)];exact e6
 have hl4:hb g4 (n+7)=some (.loop .busy none 6 t [r14] (.reg c6x4) body6 (n+6)):=by rw [hk14 _ (by omega)];exact hl1
 have dd:hb g4 (n+6)=some (.dfr true):=by rw [hk14 _ (by omega),k1 _ (by omega)];exact hI.d
 have hlow4:∀ b,b < n->hb g4 b=hb h b:=fun b hb0=>by rw [hk14 _ (by omega),k1 _ (by omega)];exact hI.low b hb0
 generalize hrr:snapD x.sx=s at *
 cases hok:okS x.sx with
 | false =>
  rw [hok] at hsx
  have hpe:=hbad hsx
  repeat' first|refine SO.loadV rfl rfl rfl d7 rfl ?_|refine SW.a rfl ?_|refine SW.reg ?_|refine SO.nil ?_|(refine SW.drawG ?_;simp only [gOps,gRc,gTail])|refine SO.a rfl ?_
  refine SO.put1 rfl rfl rfl d2 rfl (by simp) (by simp) (fun g5 f5 k5=>?_)
  have c75:hb g5 b7=some (.cell [.int .i64 (p:Int),A,B,C,.int .i64 0] 58 false):=by rw [k5 _ (by omega)];exact d7
  refine SO.more (Still.loadV (c:=⟨none,none,[],.mov⟩) rfl rfl rfl c75 rfl Still.nil) ?_
  simp only [gOps,gRc,gTail]
  refine SO.put1 rfl rfl rfl (by rw [k5 _ (by omega)];exact d3) rfl (by simp) (by simp) (fun g6 f6 k6=>?_)
  skip
  refine SO.put1 rfl rfl rfl (by rw [k6 _ (by omega),k5 _ (by omega)];exact d4) rfl (by simp) (by simp) (fun g7 f7 k7=>?_)
  repeat' refine SO.nilD ?_
  refine SW.roundRet hun (by rw [k7 _ (by omega),k6 _ (by omega),k5 _ (by omega)];exact hl4) fun g8 hl8 k8=>hq' _ _ _ (.inr ⟨rfl,3,hpe,⟨by omega,?_,?_,?_,?_,hl8,fun b hb0=>?_⟩⟩)
  ·rw [k8 _ (by omega),k7 _ (by omega),k6 _ (by omega)];exact f5
  ·rw [k8 _ (by omega),k7 _ (by omega)];exact f6
  ·rw [k8 _ (by omega)];exact f7
  ·rw [k8 _ (by omega),k7 _ (by omega),k6 _ (by omega),k5 _ (by omega)];exact dd
  ·rw [k8 _ (by omega),k7 _ (by omega),k6 _ (by omega),k5 _ (by omega)];exact hlow4 b hb0
 | true =>
  rw [hok] at hsx
  have hsx':snapX x.sx=some s:=hsx
  rw [hsx'] at hq'
  have o1:Own g4 (n+8) (m2+1) 5 38 u fo (acc.flatMap fun a=>srC a.2):=(hI.own1.keep (Nat.le_refl _) fun b h1 _=>k1 b (by omega)).keep (by omega) fun b _ h2=>hk14 b h2
  have o2:Own g4 (n+8) (m2+1) 1 3 v fa (acc.flatMap atC):=(hI.own2.keep (Nat.le_refl _) fun b h1 _=>k1 b (by omega)).keep (by omega) fun b _ h2=>hk14 b h2
  have x4:EachX g4 (n+8) (m2+1) (fun b=>fo=some b\/fa=some b) SnP (acc.map (·.2)++[⟨vp,vf,s⟩]):=by
   refine EachX.snoc (((hI.each.keep (Nat.le_refl _) fun b h1 _ _=>k1 b (by omega))).keep (by omega) fun b _ h2 _=>hk14 b h2) ⟨m,m2,by omega,by omega,hst.keep fun b h1 h2=>hk4 b h2,fun f hf=>.inl ?_⟩
   rcases hf with hf|hf
   ·exact (own_low hI.own1 hf).2
   ·exact (own_low hI.own2 hf).2
  repeat' first|refine SO.loadV rfl rfl rfl d5 rfl ?_|refine SO.loadVA rfl rfl rfl f4 rfl ?_|refine SW.a rfl ?_|refine SW.reg ?_|refine SO.nil ?_|(refine SW.drawG ?_;simp only [gOps,gRc,gTail])|refine SO.a rfl ?_
  refine SO.bslice rfl rfl rfl (fun k=>rfl) (fun g5 f5 E5=>?_)
  have p5:hb g5 (n+3)=some (.cell [u] 23 false):=by rw [E5.same _ (by omega)];exact d5
  have p8:hb g5 m2=some (.cell (srC ⟨vp,vf,s⟩) 38 false):=by rw [E5.same _ (by omega)];exact f4
  refine SO.more (Still.loadVA rfl rfl rfl p8 rfl (Still.loadV (c:=⟨none,none,[],.mov⟩) rfl rfl rfl p5 rfl Still.nil)) ?_
  simp only [gOps,gRc,gTail]
  have p6:hb g5 (n+4)=some (.cell [v] 34 false):=by rw [E5.same _ (by omega)];exact d6
  have p7:hb g5 b7=some (.cell [.int .i64 (p:Int),A,B,C,.int .i64 0] 58 false):=by rw [E5.same _ (by omega)];exact d7
  repeat' first|refine SO.loadV rfl rfl rfl p6 rfl ?_|refine SO.loadV rfl rfl rfl p7 rfl ?_|refine SO.a rfl ?_
  refine SO.bslice rfl rfl rfl (fun k=>rfl) (fun g6 f6 E6=>?_)
  have q5':hb g6 (n+3)=some (.cell [u] 23 false):=by rw [E6.same _ (by omega)];exact p5
  have q8':hb g6 m2=some (.cell (srC ⟨vp,vf,s⟩) 38 false):=by rw [E6.same _ (by omega)];exact p8
  have q6':hb g6 (n+4)=some (.cell [v] 34 false):=by rw [E6.same _ (by omega)];exact p6
  have q7':hb g6 b7=some (.cell [.int .i64 (p:Int),A,B,C,.int .i64 0] 58 false):=by rw [E6.same _ (by omega)];exact p7
  refine SO.more (Still.loadV (c:=⟨none,none,[],.mov⟩) rfl rfl rfl q7' rfl (Still.loadV (c:=⟨none,none,[],.mov⟩) rfl rfl rfl q6' rfl (Still.loadVA rfl rfl rfl q8' rfl (Still.loadV (c:=⟨none,none,[],.mov⟩) rfl rfl rfl q5' rfl Still.nil)))) ?_
  simp only [gOps,gRc,gTail]
  have k46:∀ c,c < m2+1->hb g6 c=hb g4 c:=fun c h1=>by rw [E6.same c (by omega),E5.same c (by omega)]
  have o1':Own g6 (n+8) (m2+1+1+1) 5 38 u fo (acc.flatMap fun a=>srC a.2):=o1.keep (by omega) fun b _ h2=>k46 b h2
  have o2':Own g6 (n+8) (m2+1+1+1) 1 3 v fa (acc.flatMap atC):=o2.keep (by omega) fun b _ h2=>k46 b h2
  have x6:EachX g6 (n+8) (m2+1+1+1) (fun b=>fo=some b\/fa=some b) SnP (acc.map (·.2)++[⟨vp,vf,s⟩]):=x4.keep (by omega) fun b _ h2 _=>k46 b h2
  have y1:Sl g6 (m2+1+1+1) 5 (.slc (m2+1) 0 1 1) 1 (srC ⟨vp,vf,s⟩):=⟨rfl,.inr ⟨m2+1,0,1,_,.inl ⟨rfl,Nat.le_refl _⟩,⟨by omega,.inl ⟨_,_,by rw [E6.same _ (by omega)];exact f5⟩⟩,by simp,rfl⟩⟩
  refine SO.append rfl rfl rfl rfl (by decide) (by decide) o1' (by omega) y1 (by rw [flatMap_length (esz:=5) (fun _=>rfl)];simp;omega) fun u' fo' g7 m7 w1 wn wk wf=>?_
  have hfo:∀ c,c < n+8->fo≠some c:=fun c hc e=>by have:=own_low o1' e;omega
  have hfa:∀ c,c < n+8->fa≠some c:=fun c hc e=>by have:=own_low o2' e;omega
  have r6':hb g7 (n+4)=some (.cell [v] 34 false):=by rw [wk _ (by omega) (hfo _ (by omega))];exact q6'
  have hb7n:fo≠some b7:=fun e=>by obtain⟨lo,a,h1⟩:=own_famX o1' b7 e;rw [q7'] at h1;simp at h1
  have r7':hb g7 b7=some (.cell [.int .i64 (p:Int),A,B,C,.int .i64 0] 58 false):=by rw [wk _ (by omega) hb7n];exact q7'
  refine SO.more (Still.loadV (c:=⟨none,none,[],.mov⟩) rfl rfl rfl r7' rfl (Still.loadV (c:=⟨none,none,[],.mov⟩) rfl rfl rfl r6' rfl Still.nil)) ?_
  simp only [gOps,gRc,gTail]
  have o27:Own g7 (n+8) m7 1 3 v fa (acc.flatMap atC):=o2'.keepX wn (own_famX o1') (fun f h1 h2=>hI.dis f h1 h2) fun b _ h2 h3=>wk b h2 h3
  have x7:EachX g7 (n+8) m7 (fun b=>fo'=some b\/fa=some b) SnP (acc.map (·.2)++[⟨vp,vf,s⟩]):=by
   refine EachX.keep (EachX.more x6 (ex':=fun b=>fo'=some b\/fa=some b\/fo=some b) ?_) wn ?_ |>.more ?_
   ·rintro f (h1|h1|h1)
    ·rcases wf with h2 |⟨f',h2,h3⟩
     ·exact .inl (.inl (by rw [<- h2];exact h1))
     ·rw [h2] at h1;simp only [Option.some.injEq] at h1;exact .inr (by omega)
    ·exact .inl (.inr h1)
    ·exact .inl (.inl h1)
   ·intro b _ h2 h3
    exact wk b h2 fun e=>h3 (.inr (.inr e))
   ·rintro f (h1|h1)
    ·exact .inl (.inl h1)
    ·exact .inl (.inr (.inl h1))
  have y2:Sl g7 m7 1 (.slc (m2+1+1) 0 1 1) 1 (atC (p,(⟨vp,vf,s⟩:SnapR))):=by
   have hne:fo≠some (m2+1+1):=fun e=>by obtain⟨lo,a,h1⟩:=own_famX o1' _ e;rw [f6] at h1;simp at h1
   exact⟨rfl,.inr ⟨m2+1+1,0,1,_,.inl ⟨rfl,Nat.le_refl _⟩,⟨by omega,.inl ⟨_,_,by rw [wk _ (by omega) hne];exact f6⟩⟩,by simp,rfl⟩⟩
  refine SO.append rfl rfl rfl rfl (by decide) (by decide) o27 (by omega) y2 (by rw [flatMap_length (f:=atC) (esz:=1) (fun _=>rfl)];simp;omega) fun v' fa' g8 m8 z2 zn zk zf=>?_
  have hdis:∀ f,fa=some f->fo'≠some f:=fun f h1 h2=>by
   have hlf:=own_low o2' h1
   rcases wf with h3 |⟨f',h3,h4⟩
   ·rw [h3] at h2;exact hI.dis f h2 h1
   ·rw [h3] at h2;simp only [Option.some.injEq] at h2;omega
  have z1:Own g8 (n+8) m8 5 38 u' fo' ((acc.flatMap fun a=>srC a.2)++srC ⟨vp,vf,s⟩):=w1.keepX zn (own_famX o27) hdis fun b _ h2 h3=>zk b h2 h3
  have x8:EachX g8 (n+8) m8 (fun b=>fo'=some b\/fa'=some b) SnP (acc.map (·.2)++[⟨vp,vf,s⟩]):=by
   refine EachX.keep (EachX.more x7 (ex':=fun b=>fo'=some b\/fa'=some b\/fa=some b) ?_) zn ?_ |>.more ?_
   ·rintro f (h1|h1|h1)
    ·exact .inl (.inl h1)
    ·rcases zf with h2 |⟨f',h2,h3⟩
     ·exact .inl (.inr (by rw [<- h2];exact h1))
     ·rw [h2] at h1;simp only [Option.some.injEq] at h1;exact .inr (by omega)
    ·exact .inl (.inr h1)
   ·intro b _ h2 h3
    exact zk b h2 fun e=>h3 (.inr (.inr e))
   ·rintro f (h1|h1)
    ·exact .inl (.inl h1)
    ·exact .inl (.inr (.inl h1))
  have hdis':∀ f,fo'=some f->fa'≠some f:=fun f h1 h2=>by
   have hlf:=own_low w1 h1
   rcases zf with h3 |⟨f',h3,h4⟩
   ·rw [h3] at h2;exact hdis f h2 h1
   ·rw [h3] at h2;simp only [Option.some.injEq] at h2;omega
  have hk68:∀ c,c < n+8->hb g8 c=hb g6 c:=fun c h1=>by rw [zk c (by omega) (hfa c h1),wk c (by omega) (hfo c h1)]
  skip
  refine SO.put1 rfl rfl rfl (by rw [hk68 _ (by omega)];exact q5') (own_one z1).1 (own_one z1).2 (by simp) (fun g9 f9 k9=>?_)
  skip
  refine SO.put1 rfl rfl rfl (by rw [k9 _ (by omega),hk68 _ (by omega)];exact q6') (own_one z2).1 (own_one z2).2 (by simp) (fun g10 f10 k10=>?_)
  repeat' first|refine SW.a rfl ?_|refine SO.nilD ?_
  have hk10:∀ c,c≠n+3->c≠n+4->hb g10 c=hb g8 c:=fun c h1 h2=>by rw [k10 c h2,k9 c h1]
  have hl10:hb g10 (n+7)=some (.loop .busy none 6 t [r14] (.reg c6x4) body6 (n+6)):=by rw [hk10 _ (by omega) (by omega),hk68 _ (by omega),k46 _ (by omega)];exact hl4
  refine SW.roundEnd hun hl10 fun g11 hl11 k11=>hq' _ _ _ (.inl ⟨rfl,⟨vp,vf,s⟩,u',v',fo',fa',rfl,?_⟩)
  have hk11:∀ c,c≠n+3->c≠n+4->c≠n+7->hb g11 c=hb g8 c:=fun c h1 h2 h3=>by rw [k11 c h3,hk10 c h1 h2]
  have hkl:∀ c,c < n+8->c≠n+3->c≠n+4->c≠n+7->hb g11 c=hb g4 c:=fun c h1 h2 h3 h4=>by rw [hk11 c h2 h3 h4,hk68 c h1,k46 c (by omega)]
  refine⟨by omega,?_,?_,?_,?_,?_,?_,?_,hl11,?_,?_,hdis',?_,fun b hb0=>?_⟩
  ·rw [hkl _ (by omega) (by omega) (by omega) (by omega)];exact d2
  ·rw [hkl _ (by omega) (by omega) (by omega) (by omega)];exact d3
  ·rw [hkl _ (by omega) (by omega) (by omega) (by omega)];exact d4
  ·rw [k11 _ (by omega),k10 _ (by omega)];exact f9
  ·rw [k11 _ (by omega)];exact f10
  ·rw [hkl _ (by omega) (by omega) (by omega) (by omega),hk14 _ (by omega),k1 _ (by omega)];exact hI.s
  ·rw [hkl _ (by omega) (by omega) (by omega) (by omega)];exact dd
  ·have:=z1.keep (h':=g11) (Nat.le_refl _) fun b h1 _=>hk11 b (by omega) (by omega) (by omega)
   simpa [List.flatMap_append] using this
  ·have:=z2.keep (h':=g11) (Nat.le_refl _) fun b h1 _=>hk11 b (by omega) (by omega) (by omega)
   simpa [List.flatMap_append] using this
  ·rw [List.map_append]
   exact x8.keep (Nat.le_refl _) fun b h1 _ _=>hk11 b (by omega) (by omega) (by omega)
  ·rw [hkl _ (by omega) (by omega) (by omega) (by omega)];exact hlow4 b hb0
set_option maxRecDepth 100000
set_option maxHeartbeats 16000000
abbrev fr6 (n:Nat) (t:Tr):AF:=.mk 6 t (.inRF (n+7)::[.inBlock 0,.code k6]) [.mark (n+6)] none
abbrev R6 (n:Nat):List (Path × AV):=[(r2,.ptr n 0),(r3,.ptr (n+1) 0),(r4,.ptr (n+2) 0),(r5,.ptr (n+3) 0),(r6,.ptr (n+4) 0),(r13,.fn 28 [] [.ptr (n+5) 0])]
theorem afterE6 {h:Hp} {n:Nat} {bs:List UInt8} {Q:Post} {cs:List AF} {t:Tr} (ht:RegIs t (R6 n)) (hq:∀ v h' n',Gr h n h' n'/\ParseR bs v h' n'->Wp E Q (.give v cs) h' n') (g:Hp) (m p:Nat) (e:Int) (hp:partsS bs.length 0 bs=.err p e) (hI:PE h n t g m p e) :
  Wp E Q (.give (.tup []) (fr6 n t::cs)) g m:=by
 have hle:=hI.le
 refine Wp.afterRet ht hI.l fun g1 k1=>?_
 refine SW.retD code6 (by rw [k1 _ (by omega)];exact hI.d) fun g2 k2=>?_
 refine⟨n,0,_,_,rfl,.inl ⟨_,_,by rw [k2 _ (by omega),k1 _ (by omega)];exact hI.e2⟩,rfl,n+1,0,_,_,rfl,.inl ⟨_,_,by rw [k2 _ (by omega),k1 _ (by omega)];exact hI.e3⟩,rfl,n+2,0,_,_,rfl,.inl ⟨_,_,by rw [k2 _ (by omega),k1 _ (by omega)];exact hI.e4⟩,rfl,hq _ _ _ ⟨⟨by omega,fun b hb0=>?_⟩,.inl ⟨p,e,hist_err hp,rfl⟩⟩⟩
 rw [k2 _ (by omega),k1 _ (by omega)];exact hI.low b hb0
theorem drop_drop_off {bs rest:List UInt8} {p:Nat} {x:SX} (h:bs.drop p=x.enc++rest):rest=bs.drop (p+((bs.drop p).length - rest.length)):=by
 have h1:(bs.drop p).length - rest.length=x.enc.length:=by rw [h];simp
 rw [h1,<- List.drop_drop,h];simp
theorem loop6 {h:Hp} {n:Nat} {bs:List UInt8} {Q:Post} {cs:List AF} {t:Tr} (he:Err h n) (hbs:bs.length<=100000) (hpar:∀ L,partsS bs.length 0 bs=.ok L->∀ p ∈ L,p.2.parents.length<=1000) (ht:RegIs t (R6 n)) (hq:∀ v h' n',Gr h n h' n'/\ParseR bs v h' n'->Wp E Q (.give v cs) h' n') :
  ∀ (k p:Nat) (g:Hp) (m:Nat) (u v:AV) (fo fa:Option Nat) (acc:List (Nat × SnapR)),p<=bs.length->bs.length - p<=k->acc.length<=p->(∀ a ∈ acc,SNok a.2.s)->partsS bs.length 0 bs=preP (prs acc) (partsS k p (bs.drop p))->PI h n bs t g m u v fo fa acc ->
   ∀ R,look R r0=some (.yld (n+7))->look R r1=some (.ptr (n+5) 0)->look R r3=some (.int .i64 (p:Int))->SW E Q 28 R [.code c28x5,.inLoop c28x5,.inBlock 0] (fr6 n t::cs) g m:=by
 have fin_:∀ (k p:Nat) (g:Hp) (m:Nat) (u v:AV) (fo fa:Option Nat) (acc:List (Nat × SnapR)),bs.drop p=[]->p<=bs.length->acc.length<=p->(∀ a ∈ acc,SNok a.2.s)->partsS bs.length 0 bs=preP (prs acc) (partsS k p (bs.drop p))->PI h n bs t g m u v fo fa acc ->
   ∀ R,look R r1=some (.ptr (n+5) 0)->look R r3=some (.int .i64 (p:Int))->SW E Q 28 R [.code c28x5,.inLoop c28x5,.inBlock 0] (fr6 n t::cs) g m:=by
  intro k p g m u v fo fa acc hd hp hal hok hpp hI R q1 q3
  refine SW.sub (R':=[(r1,.ptr (n+5) 0),(r3,.int .i64 (p:Int))]) (by simp [q1,q3]) ?_
  have hs:=hI.s
  have hlen:bs.length<=p:=List.drop_eq_nil_iff.1 hd
  repeat' first|refine SO.loadV rfl rfl rfl hs rfl ?_|refine SW.a rfl ?_|refine SW.reg ?_|refine SO.nil ?_|refine SO.a rfl ?_|refine SO.cF rfl (by omega) ?_|fail
  rw [hd,partsS_nil] at hpp
  have hpo:partsS bs.length 0 bs=.ok (prs acc):=by rw [hpp];simp [preP]
  refine SW.fin code28 (after6 hbs ht hq g m u v fo fa acc hI hpo (by omega) fun a ha=>⟨hok a ha,hpar _ hpo (a.1,a.2.s) (List.mem_map.2 ⟨a,ha,rfl⟩)⟩)
 intro k
 induction k with
 | zero =>
  intro p g m u v fo fa acc hp hk hal hok hpp hI R q0 q1 q3
  exact fin_ 0 p g m u v fo fa acc (List.drop_eq_nil_iff.2 (by omega)) hp hal hok hpp hI R q1 q3
 | succ k ih =>
  intro p g m u v fo fa acc hp hk hal hok hpp hI R q0 q1 q3
  by_cases hend:bs.length<=p
  ·exact fin_ (k+1) p g m u v fo fa acc (List.drop_eq_nil_iff.2 hend) hp hal hok hpp hI R q1 q3
  have hne:bs.drop p≠[]:=fun e=>hend (List.drop_eq_nil_iff.1 e)
  have hs:=hI.s
  have hle:=hI.le
  have hdl:(bs.drop p).length=bs.length - p:=List.length_drop
  refine SW.sub (R':=[(r0,.yld (n+7)),(r1,.ptr (n+5) 0),(r3,.int .i64 (p:Int))]) (by simp [q0,q1,q3]) ?_
  have step:∀ (A B C:AV) (off:Nat) (e:Int) (sn:Option SN) (g1:Hp) (m1:Nat),Gr g m g1 m1->off<=bs.length - p ->
    (∀ (Q':Post) (cs':List AF) (g':Hp) (m' b7:Nat),unwTop cs'=false->(∀ b h' n',RP h n bs t p acc sn b h' n'->Wp E Q' (.give (.bool b) cs') h' n')->m1<=m'->PI h n bs t g' m' u v fo fa acc->(∀ c,c < m1->hb g' c=hb g1 c)->hb g' b7=some (.cell [.int .i64 (p:Int),A,B,C,.int .i64 e] 58 false)->n+8<=b7->b7 < m' ->
     ∀ R,look R r2=some (.ptr n 0)->look R r3=some (.ptr (n+1) 0)->look R r4=some (.ptr (n+2) 0)->look R r5=some (.ptr (n+3) 0)->look R r6=some (.ptr (n+4) 0)->look R r7=some (.ptr b7 0)->SW E Q' ⟨6,[],some (n+7)⟩ R [.beginRound,.code body6] cs' g' m') ->
    (∀ s,sn=some s->e=0/\1<=off/\SNok s/\partsS (k+1) p (bs.drop p)=preP [(p,s)] (partsS k (p+off) (bs.drop (p+off)))) ->
    ∀ R,look R r0=some (.yld (n+7))->look R r1=some (.ptr (n+5) 0)->look R r3=some (.int .i64 (p:Int))->look R r15=some (.tup [.agg [A,B,C],.int .i64 (off:Int),.int .i64 e]) ->
     SO E Q 28 .ops R [⟨some r11,none,[.r r15],.mov⟩,⟨some r16,none,[.r r11],.extract 0⟩,⟨some r17,none,[.r r11],.extract 1⟩,⟨some r18,none,[.r r11],.extract 2⟩,⟨some r4,none,[],.alloc [.bool false,strOf [],.nils] 56⟩,⟨none,none,[.r r4,.r r16],.store 3⟩,⟨some r5,none,[.r r17],.mov⟩,⟨some r6,none,[.r r18],.mov⟩] [.code (.seq (.seq (.reg c28x3) (.cond (.r r29) .ret .skip)) (.reg c28x4)),.inBlock 1,.inLoop c28x5,.inBlock 0] (fr6 n t::cs) g1 m1:=by
   intro A B C off e sn g1 m1 hG1 hoff hround hsn R q0 q1 q3 q15
   refine SO.forget (R':=[(r0,.yld (n+7)),(r1,.ptr (n+5) 0),(r3,.int .i64 (p:Int)),(r15,.tup [.agg [A,B,C],.int .i64 (off:Int),.int .i64 e])]) (by simp [q0,q1,q3,q15]) ?_
   have lm:=hG1.le
   repeat' first|refine SO.alloc rfl rfl (fun g2 c2 E2=>?_)|refine SO.a rfl ?_
   refine SO.storeAll rfl rfl rfl c2 rfl rfl (fun g3 c3 k3=>?_)
   have hk3:∀ c,c < m1->hb g3 c=hb g1 c:=fun c h1=>by rw [k3 c (by omega)];exact E2.same c h1
   have hI3:PI h n bs t g3 (m1+1) u v fo fa acc:=hI.grow (by omega) fun b h1=>by rw [hk3 b (by omega)];exact hG1.same b h1
   repeat' first|refine SO.loadVA rfl rfl rfl c3 rfl ?_|refine SO.build (v:=.agg [.int .i64 (p:Int),A,B,C,.int .i64 e]) rfl rfl rfl (fun K=>rfl) ?_|refine SW.a rfl ?_|refine SW.reg ?_|refine SO.nil ?_|refine SO.a rfl ?_
   refine SO.yieldB (P:=RP h n bs t p acc sn) rfl rfl rfl hI3.l ht rfl ?_ ?_
   ·intro Q' cs' hun hq'
    refine SW.reg ?_
    refine SO.alloc rfl rfl (fun g4 c4 E4=>?_)
    refine SO.storeAll rfl rfl rfl c4 rfl rfl (fun g5 c5 k5=>?_)
    refine SO.nil ?_
    have hk5:∀ c,c < m1+1->hb g5 c=hb g3 c:=fun c h1=>by rw [k5 c (by omega)];exact E4.same c h1
    exact hround Q' cs' g5 (m1+1+1) (m1+1) hun hq' (by omega) (hI3.grow (by omega) hk5) (fun c h1=>by rw [hk5 c (by omega)];exact hk3 c h1) c5 (by omega) (by omega) _ rfl rfl rfl rfl rfl rfl
   ·rintro b g4 m4 (⟨rfl,rr,u',v',fo',fa',hs',hI4⟩ |⟨rfl,e',hpe,hE4⟩)
    ·obtain⟨rfl,ho1,hk1,hps⟩:=hsn _ hs'
     repeat' first|refine SO.addN off rfl rfl rfl rfl (by show p+off<=9223372036854775807;omega) ?_|refine SW.a rfl ?_|refine SW.reg ?_|refine SO.nil ?_|refine SO.a rfl ?_|refine SO.cF rfl (by omega) ?_|fail
     refine SW.again ?_
     refine ih (p+off) g4 m4 u' v' fo' fa' (acc++[(p,rr)]) (by omega) (by omega) (by simp;omega) ?_ ?_ hI4 _ rfl rfl rfl
     ·intro a ha
      rcases List.mem_append.1 ha with ha|ha
      ·exact hok a ha
      ·simp only [List.mem_singleton] at ha
       subst ha;exact hk1
     ·rw [hpp,hps,<- preP_app]
      simp [prs]
    ·repeat' first|refine SW.a rfl ?_|refine SO.nil ?_|refine SO.a rfl ?_
     exact SW.ret code28 (afterE6 ht hq g4 m4 p e' hpe hE4)
  repeat' first|refine SO.loadV rfl rfl rfl hs rfl ?_|refine SO.sliceTFa p rfl rfl rfl rfl rfl hp ?_|refine SW.a rfl ?_|refine SW.reg ?_|refine SO.nil ?_|refine SO.a rfl ?_|refine SO.cT rfl (by omega) ?_|fail
  refine SO.callG rfl rfl rfl (read29 (bs.drop p) (by omega)) ?_
  rintro _ g1 m1 ⟨hG1,⟨x,rest,left,hr,rfl,hst⟩ |⟨e,hr,rfl⟩⟩
  ·
   obtain⟨A,B,C,hx⟩:=xC_three x
   rw [hx]
   obtain⟨hen,hfit,hnod⟩:=readS_inv _ _ _ _ _ _ hr
   have hsh:=(readS_shorter _ _ _ _ _ _ hr).1
   have hro:=drop_drop_off hen
   have hel:x.sx.enc.length<=100000:=by
    have:=congrArg List.length hen
    rw [List.length_append] at this
    omega
   have hgood:∀ g' m',m1<=m'->(∀ c,c < m1->hb g' c=hb g1 c)->XGood g' m' x:=fun g' m' h1 h2=>⟨hst g' m' h1 fun c _ h3=>h2 c h3,fit_x x 12 hfit,by rw [<- nodes_x];omega⟩
   refine step A B C ((bs.drop p).length - rest.length) 0 (snapX x.sx) g1 m1 hG1 (by omega) ?_ ?_ _ rfl rfl rfl rfl
   ·intro Q' cs' g' m' b7 hun hq' hm' hI' hk' hc7 hb7 hb7' R q2 q3 q4 q5 q6 q7
    have hl:=hG1.le
    refine roundOk6 he hI' hc7 hb7 hb7' hx (fun g2 m2 h1 h2=>?_) (fun hno=>?_) (by omega) hun hq' R q2 q3 q4 q5 q6 q7
    ·refine⟨hst g2 m2 (by omega) fun c h3 h4=>?_,fit_x x 12 hfit,by rw [<- nodes_x];omega⟩
     rw [h2 c (by omega) (by omega)];exact hk' c h4
    ·rw [hpp,partsS_bad hne hr hno];rfl
   ·intro s hs'
    have hsm:=snapX_len hs'
    refine⟨rfl,by omega,SNok.of hs' (by omega),?_⟩
    rw [partsS_step hne hr hs',<- hro]
  ·
   have he0:=readS_err _ _ _ _ hr
   refine step _ _ _ 0 e none g1 m1 hG1 (by omega) ?_ (fun s hs'=>by simp at hs') _ rfl rfl rfl rfl
   intro Q' cs' g' m' b7 hun hq' hm' hI' hk' hc7 hb7 hb7' R q2 q3 q4 q5 q6 q7
   exact roundErr6 hI' hc7 hb7 he0 (by rw [hpp,partsS_err hne hr];rfl) hun hq' R q2 q3 q4 q7
theorem parse6 {h:Hp} {n:Nat} (bs:List UInt8) (hbs:bs.length<=100000) (hpar:∀ L,partsS bs.length 0 bs=.ok L->∀ p ∈ L,p.2.parents.length<=1000) (he:Err h n):Fn E 6 [strOf bs] h n fun r h' n'=>Gr h n h' n'/\ParseR bs r h' n':=by
 refine Fn.of code6 (by decide) rfl fun Q cs hq=>?_
 show SW E Q 6 [(r0,strOf bs)] _ _ _ _
 refine SW.seq ?_
 refine SW.reg ?_
 refine SO.alloc rfl rfl (fun h1 c1 E1=>?_)
 refine SO.alloc rfl rfl (fun h2 c2 E2=>?_)
 refine SO.alloc rfl rfl (fun h3 c3 E3=>?_)
 refine SO.nil ?_
 refine SW.seq ?_
 refine SW.reg ?_
 refine SO.alloc rfl rfl (fun h4 c4 E4=>?_)
 refine SO.nil ?_
 refine SW.seq ?_
 refine SW.reg ?_
 refine SO.alloc rfl rfl (fun h5 c5 E5=>?_)
 repeat' first|refine SW.a rfl ?_|refine SW.reg ?_|refine SO.nil ?_|refine SO.a rfl ?_
 refine SO.callG rfl rfl rfl (parts13 bs) ?_
 rintro _ h6 n6 ⟨rfl,c6,E6,rfl⟩
 repeat' first|refine SW.a rfl ?_|refine SO.nil ?_
 have hG6:Gr h n h6 (n+6):=((((E1.trans E2).trans E3).trans E4).trans E5).trans E6
 have a2:hb h6 n=some (.cell [.nils] 23 false):=by rw [E6.same _ (by omega),E5.same _ (by omega),E4.same _ (by omega),E3.same _ (by omega),E2.same _ (by omega)];exact c1
 have a3:hb h6 (n+1)=some (.cell [.int .i64 0] 3 false):=by rw [E6.same _ (by omega),E5.same _ (by omega),E4.same _ (by omega),E3.same _ (by omega)];exact c2
 have a4:hb h6 (n+2)=some (.cell [.int .i64 0] 24 false):=by rw [E6.same _ (by omega),E5.same _ (by omega),E4.same _ (by omega)];exact c3
 have a5:hb h6 (n+3)=some (.cell [.nils] 23 false):=by rw [E6.same _ (by omega),E5.same _ (by omega)];exact c4
 have a6:hb h6 (n+4)=some (.cell [.nils] 34 false):=by rw [E6.same _ (by omega)];exact c5
 refine SW.sub (R':=R6 n) (fun x hx=>by simp only [R6,List.mem_cons,List.not_mem_nil,or_false] at hx;rcases hx with rfl|rfl|rfl|rfl|rfl|rfl<;>rfl) ?_
 refine SW.rangeF rfl code28 rfl fun t ht h7 hd7 hl7 E7=>?_
 have hk7:∀ c,c < n+6->hb h7 c=hb h6 c:=fun c h1=>E7.same c h1
 refine SW.run (fn:=28) (R:=[(r0,.yld (n+7)),(r1,.ptr (n+5) 0)]) ?_ _ (RegIs.first (m:=2) (by decide) rfl)
 repeat' first|refine SW.a rfl ?_|refine SW.reg ?_|refine SO.nil ?_|refine SO.a rfl ?_
 refine SW.loop ?_
 refine loop6 he hbs hpar ht hq bs.length 0 h7 (n+8) .nils .nils none none [] (by omega) (by omega) (by simp) (by simp) (by rw [List.drop_zero];cases partsS bs.length 0 bs<;>simp [preP,prs]) ?_ _ rfl rfl rfl
 exact⟨Nat.le_refl _,by rw [hk7 _ (by omega)];exact a2,by rw [hk7 _ (by omega)];exact a3,by rw [hk7 _ (by omega)];exact a4,by rw [hk7 _ (by omega)];exact a5,by rw [hk7 _ (by omega)];exact a6,by rw [hk7 _ (by omega)];exact c6,hd7,hl7,.inl ⟨rfl,rfl,rfl⟩,.inl ⟨rfl,rfl,rfl⟩,by simp,EachX.nil,fun b hb0=>by rw [hk7 b (by omega)];exact hG6.same b hb0⟩
end Go.Ev
