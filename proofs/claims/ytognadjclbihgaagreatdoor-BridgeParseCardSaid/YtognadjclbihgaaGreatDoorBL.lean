/- Contract: quiltref59.read. -/
import Derived.Test.YtognadjclbihgaaGreatDoorE6
import Derived.Test.YtognadjclbihgaaGreatDoorBK
import Derived.Test.YtognadjclbihgaaGreatDoorBE
set_option linter.all false
namespace Go.Ev
set_option maxRecDepth 100000
set_option maxHeartbeats 16000000
abbrev srZ:List AV:=[.nils,strOf [],strOf [],.int .i64 0,.nils]
theorem xC_isL (y:XR):isL y.sx=!isA y.sx:=by cases y<;>rfl
theorem refRead17 {h:Hp} {n:Nat} (x:XR) (hx:XGood h n x) :
  Fn E 17 [.agg (xC x)] h n fun r h' n'=>Gr h n h' n'/\((okS x.sx=false/\r=.tup [.agg srZ,.bool false])\/(okS x.sx=true/\∃ vp vf,r=.tup [.agg (srC ⟨vp,vf,snapD x.sx⟩),.bool true]/\Stand n n' h' (fun g k=>Sl g k 1 vp (snapD x.sx).parents.length ((snapD x.sx).parents.flatMap intC)/\Sl g k 4 vf (snapD x.sx).files.length ((snapD x.sx).files.flatMap pfC)))):=by
 refine Fn.of code17 (by decide) rfl fun Q cs hq=>?_
 show SW E Q 17 [(r0,.agg (xC x))] _ _ _ _
 refine SW.seq ?_
 refine SW.reg ?_
 refine SO.box rfl rfl rfl (by simp) (fun h1 c1 E1=>?_)
 refine SO.alloc rfl rfl (fun h2 b1 E2=>?_)
 have b0:hb h2 n=some (.cell (xC x) 56 false):=by rw [E2.same n (by omega)];exact c1
 have hG2:Gr h n h2 (n+1+1):=E1.trans E2
 have hno:∀ (R:List (Path × AV)) (g:Hp) (m:Nat) (todo:List AItem),okS x.sx=false->n+2<=m->hb g (n+1)=some (.cell srZ 38 false)->(∀ c,c < n->hb g c=hb h c)->look R r2=some (.ptr (n+1) 0)->look R r3=some (.bool false)->SW E Q 17 R (.code .ret::todo) cs g m:=fun R g m todo hk hm h1 hlow q2 q3 =>
  SW.ret code17 ⟨n+1,0,_,q2,.inl ⟨_,_,h1⟩,by simp,_,q3,hq _ _ _ ⟨⟨by omega,hlow⟩,.inl ⟨hk,rfl⟩⟩⟩
 cases x with
 | atom bs =>
  repeat' first|refine SO.loadV rfl rfl rfl b0 rfl ?_|refine SO.build (v:=.agg srZ) rfl rfl rfl (fun K=>rfl) ?_|refine SW.a rfl ?_|refine SW.reg ?_|refine SO.nil ?_|refine SO.a rfl ?_
  refine SO.storeAll rfl rfl rfl b1 rfl rfl (fun g3 f3 k3=>?_)
  repeat' first|refine SO.nil ?_|refine SO.a rfl ?_
  exact hno _ g3 _ _ rfl (by omega) f3 (fun c hc=>by rw [k3 _ (by omega)];exact hG2.same c hc) rfl rfl
 | list v xs =>
  have hE:StE (fun _=>False) n h (fun g j=>XGood g j (.list v xs)):=fun g j hj hg=>hx.ext ⟨hj,fun c hc=>hg c hc (fun e=>e)⟩
  have hY:=els_list hE
  have hs2:=(hY.now.1).ext hG2
  by_cases hlen:xs.length=5
  case neg =>
   have hk:okS (XR.list v xs).sx=false:=by simp [okS,XR.sx,isT,sxs_eq,hlen]
   repeat' first|refine SO.loadV rfl rfl rfl b0 rfl ?_|refine SO.lenSl rfl rfl rfl hs2 ?_|refine SO.build (v:=.agg srZ) rfl rfl rfl (fun K=>rfl) ?_|refine SW.a rfl ?_|refine SW.reg ?_|refine SO.nil ?_|refine SO.a rfl ?_|refine SO.cT rfl (by omega) ?_|fail
   refine SO.storeAll rfl rfl rfl b1 rfl rfl (fun g3 f3 k3=>?_)
   repeat' first|refine SO.nil ?_|refine SO.a rfl ?_
   exact hno _ g3 _ _ hk (by omega) f3 (fun c hc=>by rw [k3 _ (by omega)];exact hG2.same c hc) rfl rfl
  obtain⟨y0,y1,y2,y3,y4,rfl⟩:=five_of hlen
  have hgr:∀ (g:Hp),(∀ c,c < n->hb g c=hb h c)->∀ c,c < n->¬ False->hb g c=hb h c:=fun g hg c hc _=>hg c hc
  obtain⟨z0,hz0⟩:=xC_form y0
  obtain⟨z1,hz1⟩:=xC_form y1
  obtain⟨z2,hz2⟩:=xC_form y2
  obtain⟨z4,hz4⟩:=xC_form y4
  have hok:okS (XR.list v [y0,y1,y2,y3,y4]).sx=(isA y1.sx&&isA y2.sx&&isN y3.sx&&isL y0.sx&&(lstD y0.sx).all isN&&isL y4.sx&&(lstD y4.sx).all okF):=by simp [okS,XR.sx,isT,okZ,tupD,sxs_eq]
  have hsd:snapD (XR.list v [y0,y1,y2,y3,y4]).sx=⟨(lstD y0.sx).map numD,txtD y1.sx,txtD y2.sx,numD y3.sx,(lstD y4.sx).map fileD⟩:=by simp [snapD,XR.sx,snapY,tupD,sxs_eq]
  repeat' first|refine SO.loadV rfl rfl rfl b0 rfl ?_|refine SO.lenSl rfl rfl rfl hs2 ?_|refine SW.a rfl ?_|refine SW.reg ?_|refine SO.nil ?_|refine SO.a rfl ?_|refine SO.cF rfl (by omega) ?_|fail
  refine SO.idxX 0 rfl rfl rfl rfl rfl hY (by simp) (fun p0 o0 hp0=>?_)
  have hP0:=hp0 h2 (n+1+1) (by omega) (hgr h2 hG2.same)
  simp only [List.getElem_cons_succ,List.getElem_cons_zero,hz0] at hP0
  have hl0:=xC_isL y0
  cases ha0:isA y0.sx with
  | true =>
   rw [ha0] at hP0 hl0
   repeat' first|refine SO.load0 rfl rfl rfl hP0 (Gr.refl _ _) ?_|refine SO.build (v:=.agg srZ) rfl rfl rfl (fun K=>rfl) ?_|refine SW.a rfl ?_|refine SW.reg ?_|refine SO.nil ?_|refine SO.a rfl ?_
   refine SO.storeAll rfl rfl rfl b1 rfl rfl (fun g3 f3 k3=>?_)
   repeat' first|refine SO.nil ?_|refine SO.a rfl ?_
   exact hno _ g3 _ _ (by rw [hok];simp [hl0,ha0]) (by omega) f3 (fun c hc=>by rw [k3 _ (by omega)];exact hG2.same c hc) rfl rfl
  | false =>
   rw [ha0] at hP0 hl0
   repeat' first|refine SO.load0 rfl rfl rfl hP0 (Gr.refl _ _) ?_|refine SO.loadV rfl rfl rfl b0 rfl ?_|refine SO.a rfl ?_
   refine SO.idxX 1 rfl rfl rfl rfl rfl hY (by simp) (fun p1 o1 hp1=>?_)
   have hP1:=hp1 h2 (n+1+1) (by omega) (hgr h2 hG2.same)
   simp only [List.getElem_cons_succ,List.getElem_cons_zero,hz1] at hP1
   have hl1:=xC_isL y1
   cases ha1:isA y1.sx with
   | false =>
    rw [ha1] at hP1 hl1
    repeat' first|refine SO.load0 rfl rfl rfl hP1 (Gr.refl _ _) ?_|refine SO.build (v:=.agg srZ) rfl rfl rfl (fun K=>rfl) ?_|refine SW.a rfl ?_|refine SW.reg ?_|refine SO.nil ?_|refine SO.a rfl ?_
    refine SO.storeAll rfl rfl rfl b1 rfl rfl (fun g3 f3 k3=>?_)
    repeat' first|refine SO.nil ?_|refine SO.a rfl ?_
    exact hno _ g3 _ _ (by rw [hok];simp [hl1,ha1]) (by omega) f3 (fun c hc=>by rw [k3 _ (by omega)];exact hG2.same c hc) rfl rfl
   | true =>
    rw [ha1] at hP1 hl1
    repeat' first|refine SO.load0 rfl rfl rfl hP1 (Gr.refl _ _) ?_|refine SO.loadV rfl rfl rfl b0 rfl ?_|refine SO.a rfl ?_
    refine SO.idxX 2 rfl rfl rfl rfl rfl hY (by simp) (fun p2 o2 hp2=>?_)
    have hP2:=hp2 h2 (n+1+1) (by omega) (hgr h2 hG2.same)
    simp only [List.getElem_cons_succ,List.getElem_cons_zero,hz2] at hP2
    have hl2:=xC_isL y2
    cases ha2:isA y2.sx with
    | false =>
     rw [ha2] at hP2 hl2
     repeat' first|refine SO.load0 rfl rfl rfl hP2 (Gr.refl _ _) ?_|refine SO.build (v:=.agg srZ) rfl rfl rfl (fun K=>rfl) ?_|refine SW.a rfl ?_|refine SW.reg ?_|refine SO.nil ?_|refine SO.a rfl ?_
     refine SO.storeAll rfl rfl rfl b1 rfl rfl (fun g3 f3 k3=>?_)
     repeat' first|refine SO.nil ?_|refine SO.a rfl ?_
     exact hno _ g3 _ _ (by rw [hok];simp [hl2,ha2]) (by omega) f3 (fun c hc=>by rw [k3 _ (by omega)];exact hG2.same c hc) rfl rfl
    | true =>
     rw [ha2] at hP2 hl2
     repeat' first|refine SO.load0 rfl rfl rfl hP2 (Gr.refl _ _) ?_|refine SO.loadV rfl rfl rfl b0 rfl ?_|refine SO.a rfl ?_
     refine SO.idxX 4 rfl rfl rfl rfl rfl hY (by simp) (fun p4 o4 hp4=>?_)
     have hP4:=hp4 h2 (n+1+1) (by omega) (hgr h2 hG2.same)
     simp only [List.getElem_cons_succ,List.getElem_cons_zero,hz4] at hP4
     have hl4:=xC_isL y4
     cases ha4:isA y4.sx with
     | true =>
      rw [ha4] at hP4 hl4
      repeat' first|refine SO.load0 rfl rfl rfl hP4 (Gr.refl _ _) ?_|refine SO.build (v:=.agg srZ) rfl rfl rfl (fun K=>rfl) ?_|refine SW.a rfl ?_|refine SW.reg ?_|refine SO.nil ?_|refine SO.a rfl ?_
      refine SO.storeAll rfl rfl rfl b1 rfl rfl (fun g3 f3 k3=>?_)
      repeat' first|refine SO.nil ?_|refine SO.a rfl ?_
      exact hno _ g3 _ _ (by rw [hok];simp [hl4,ha4]) (by omega) f3 (fun c hc=>by rw [k3 _ (by omega)];exact hG2.same c hc) rfl rfl
     | false =>
      rw [ha4] at hP4 hl4
      repeat' first|refine SO.load0 rfl rfl rfl hP4 (Gr.refl _ _) ?_|refine SO.loadV rfl rfl rfl b0 rfl ?_|refine SW.a rfl ?_|refine SW.reg ?_|refine SO.nil ?_|refine SO.a rfl ?_
      have hmem:=hx.mem.2.1
      cases y0 with
      | atom bs0=>simp [XR.sx,isA] at ha0
      | list v0 xs0 =>
      cases y4 with
      | atom bs4=>simp [XR.sx,isA] at ha4
      | list v4 xs4 =>
      have hm0:=(hmem (.list v0 xs0) (by simp)).mem
      have hm4:=(hmem (.list v4 xs4) (by simp)).mem
      refine SO.idxX 0 rfl rfl rfl rfl rfl hY (by simp) (fun s0 t0 hs0=>?_)
      have hS0:=hs0 h2 (n+1+1) (by omega) (hgr h2 hG2.same)
      simp only [List.getElem_cons_zero] at hS0
      repeat' first|refine SO.loadF (off:=2) rfl rfl rfl hS0 (Gr.refl _ _) rfl ?_|refine SO.a rfl ?_
      refine SO.callG rfl rfl rfl (refNumbers35 (hm0.1.ext hG2) (fun y hy=>(hm0.2.1 y hy).ext hG2) (by have:=hm0.2.2;omega)) ?_
      rintro rr g3 m3 ⟨E3,hR0⟩
      obtain⟨W0,k0,rfl,hk0,hW0⟩:∃ W0 k0,rr=.tup [W0,.bool k0]/\k0=(xs0.map XR.sx).all isN/\(k0=true->Stand (n+1+1) m3 g3 (fun g k=>Sl g k 1 W0 xs0.length (((xs0.map XR.sx).map numD).flatMap intC))):=by
       rcases hR0 with ⟨q1,q2⟩ |⟨q1,w0,q2,q3⟩
       ·exact⟨_,_,q2,q1.symm,fun e=>by simp at e⟩
       ·exact⟨_,_,q2,q1.symm,fun _=>q3⟩
      have l3:=E3.le
      have c0:hb g3 n=some (.cell (xC (.list v [.list v0 xs0,y1,y2,y3,.list v4 xs4])) 56 false):=by rw [E3.same _ (by omega)];exact b0
      have hG3:Gr h n g3 m3:=hG2.trans E3
      repeat' first|refine SO.loadV rfl rfl rfl c0 rfl ?_|refine SW.a rfl ?_|refine SW.reg ?_|refine SO.nil ?_|refine SO.a rfl ?_
      refine SO.sliceSlTT 3 4 xC_length rfl rfl rfl rfl rfl rfl rfl ((hY.now.1).ext hG3) (by omega) (by simp) (fun w hw=>?_)
      have hw':Sl g3 m3 3 w ([y3]:List XR).length (([y3]:List XR).flatMap xC):=hw
      refine SO.callG rfl rfl rfl (refNumbers35 hw' (fun y hy=>(hmem y (by simp at hy;subst hy;simp)).ext hG3) (by simp)) ?_
      rintro rr3 g4 m4 ⟨E4,hR3⟩
      obtain⟨W3,k3,rfl,hk3,hW3⟩:∃ W3 k3,rr3=.tup [W3,.bool k3]/\k3=isN y3.sx/\(k3=true->Stand m3 m4 g4 (fun g k=>Sl g k 1 W3 1 (intC (numD y3.sx)))):=by
       rcases hR3 with ⟨q1,q2⟩ |⟨q1,w0,q2,q3⟩
       ·exact⟨_,_,q2,by simpa using q1.symm,fun e=>by simp at e⟩
       ·exact⟨_,_,q2,by simpa using q1.symm,fun _=>q3⟩
      have l4:=E4.le
      have hG4:Gr h n g4 m4:=hG3.trans E4
      have hps:lstD (XR.list v0 xs0).sx=xs0.map XR.sx:=by simp [XR.sx,sxs_eq,lstD]
      have hfs:lstD (XR.list v4 xs4).sx=xs4.map XR.sx:=by simp [XR.sx,sxs_eq,lstD]
      have hok':okS (XR.list v [.list v0 xs0,y1,y2,y3,.list v4 xs4]).sx=(k0&&k3&&(xs4.map XR.sx).all okF):=by
       rw [hok,hps,hfs,ha1,ha2,<- hk0,<- hk3,show isL (XR.list v0 xs0).sx=true by simp [XR.sx,isL],show isL (XR.list v4 xs4).sx=true by simp [XR.sx,isL]]
       cases k0<;>cases k3<;>rfl
      rw [hps,hfs] at hsd
      have d0:hb g4 n=some (.cell (xC (.list v [.list v0 xs0,y1,y2,y3,.list v4 xs4])) 56 false):=by rw [E4.same _ (by omega)];exact c0
      have d1:hb g4 (n+1)=some (.cell srZ 38 false):=by rw [E4.same _ (by omega),E3.same _ (by omega)];exact b1
      cases k0 with
      | false =>
       repeat' first|refine SO.build (v:=.agg srZ) rfl rfl rfl (fun K=>rfl) ?_|refine SW.a rfl ?_|refine SW.reg ?_|refine SO.nil ?_|refine SO.a rfl ?_
       refine SO.storeAll rfl rfl rfl d1 rfl rfl (fun g5 f5 k5=>?_)
       repeat' first|refine SO.nil ?_|refine SO.a rfl ?_
       exact hno _ g5 _ _ (by rw [hok'];rfl) (by omega) f5 (fun c hc=>by rw [k5 _ (by omega)];exact hG4.same c hc) rfl rfl
      | true =>
      cases k3 with
      | false =>
       repeat' first|refine SO.build (v:=.agg srZ) rfl rfl rfl (fun K=>rfl) ?_|refine SW.a rfl ?_|refine SW.reg ?_|refine SO.nil ?_|refine SO.a rfl ?_
       refine SO.storeAll rfl rfl rfl d1 rfl rfl (fun g5 f5 k5=>?_)
       repeat' first|refine SO.nil ?_|refine SO.a rfl ?_
       exact hno _ g5 _ _ (by rw [hok'];rfl) (by omega) f5 (fun c hc=>by rw [k5 _ (by omega)];exact hG4.same c hc) rfl rfl
      | true =>
      rw [Bool.and_self,Bool.true_and] at hok'
      have hsl3:Sl g4 m4 1 W3 1 (intC (numD y3.sx)):=(hW3 rfl).now (Nat.le_refl _)
      obtain⟨a3,o3,kx3,qx3⟩:=ex_idxSlA (i:=0) hsl3 (by omega)
      have qx3':Pt g4 m4 (.ptr a3 o3) [.int .i64 (numD y3.sx)]:=qx3
      have hbld:∀ (g:Hp) (m:Nat) K,execV (.build [.nils,strOf [],strOf [],.int .i64 0,.nils] [(0,1),(1,1),(2,1),(3,1)]) [W0,strOf (txtD y1.sx),strOf (txtD y2.sx),.int .i64 (numD y3.sx)] g m K=K.v (.agg [W0,strOf (txtD y1.sx),strOf (txtD y2.sx),.int .i64 (numD y3.sx),.nils]) g m:=by
       obtain⟨_,⟨e1,_⟩ |⟨_,_,_,_,⟨e1,_⟩ |⟨e1,_⟩,_⟩⟩:=(hW0 rfl).now (Nat.le_refl _)<;>(intro g m K;rw [e1];rfl)
      repeat' first|refine SO.loadV rfl rfl rfl d0 rfl ?_|refine SW.a rfl ?_|refine SW.reg ?_|refine SO.nil ?_|(refine SW.drawG ?_;simp only [gOps,gRc,gTail])|refine SO.a rfl ?_
      refine SO.idxX 1 rfl rfl rfl rfl rfl hY (by simp) (fun s1 t1 hs1=>?_)
      have hS1:=hs1 g4 m4 (by omega) (hgr g4 hG4.same)
      simp only [List.getElem_cons_succ,List.getElem_cons_zero,hz1] at hS1
      have hT1:Pt g4 m4 (.ptr s1 (t1+1)) [strOf (txtD y1.sx),z1]:=hS1.drop 1 (by simp)
      repeat' first|refine SO.load0 rfl rfl rfl hT1 (Gr.refl _ _) ?_|refine SO.loadV rfl rfl rfl d0 rfl ?_|refine SO.a rfl ?_
      refine SO.idxX 2 rfl rfl rfl rfl rfl hY (by simp) (fun s2 t2 hs2=>?_)
      have hS2:=hs2 g4 m4 (by omega) (hgr g4 hG4.same)
      simp only [List.getElem_cons_succ,List.getElem_cons_zero,hz2] at hS2
      have hT2:Pt g4 m4 (.ptr s2 (t2+1)) [strOf (txtD y2.sx),z2]:=hS2.drop 1 (by simp)
      repeat' first|refine SO.load0 rfl rfl rfl hT2 (Gr.refl _ _) ?_|refine SO.val (oc:=.idxSlA 1) (v:=.ptr a3 o3) rfl rfl (two rfl rfl) (kx3 _ _) ?_|refine SO.load0 rfl rfl rfl qx3' (Gr.refl _ _) ?_|refine SO.build rfl rfl rfl (hbld _ _) ?_|refine SO.a rfl ?_
      refine SO.alloc rfl rfl (fun g5 c5 E5=>?_)
      have e5n:hb g5 n=some (.cell (xC (.list v [.list v0 xs0,y1,y2,y3,.list v4 xs4])) 56 false):=by rw [E5.same _ (by omega)];exact d0
      refine SO.more (Still.loadP (c:=⟨none,none,[],.mov⟩) rfl rfl rfl qx3' E5 (Still.loadP (c:=⟨none,none,[],.mov⟩) rfl rfl rfl hT2 E5 (Still.loadV (c:=⟨none,none,[],.mov⟩) rfl rfl rfl e5n rfl (Still.loadP (c:=⟨none,none,[],.mov⟩) rfl rfl rfl hT1 E5 (Still.loadV (c:=⟨none,none,[],.mov⟩) rfl rfl rfl e5n rfl Still.nil))))) ?_
      simp only [gOps,gRc,gTail]
      refine SO.storeAll rfl rfl rfl c5 rfl rfl (fun g6 c6 k6=>?_)
      repeat' first|refine SW.a rfl ?_|refine SW.reg ?_|refine SO.nil ?_|refine SO.nilD ?_|refine SO.a rfl ?_
      refine SW.loop ?_
      have g6k:∀ c,c < m4->hb g6 c=hb g4 c:=fun c hc=>by rw [k6 _ (by omega)];exact E5.same c hc
      have hl4:xs4.length<=20000:=by have:=hm4.2.2;omega
      have loop:∀ (k i:Nat) (g:Hp) (m:Nat) (uf:AV) (ff:Option Nat),i+k=xs4.length->m4+1<=m->(∀ c,c < m4->hb g c=hb g4 c)->((xs4.take i).map XR.sx).all okF=true->hb g m4=some (.cell [W0,strOf (txtD y1.sx),strOf (txtD y2.sx),.int .i64 (numD y3.sx),uf] 38 false)->Own g (m4+1) m 4 68 uf ff ((((xs4.take i).map XR.sx).map fileD).flatMap pfC)->∀ R,look R r1=some (.ptr n 0)->look R r2=some (.ptr (n+1) 0)->look R r8=some (.ptr m4 0)->look R r9=some (.int .i64 (i:Int))->SW E Q 17 R [.code c17x15,.inLoop c17x15,.inBlock 0,.code (.seq (.reg c17x16) .ret)] cs g m:=by
       intro k
       induction k with
       | zero =>
        intro i g m uf ff hi hm hg hall e8 of R q1 q2 q8 q9
        rw [show i=xs4.length by omega,List.take_length] at hall of
        refine SW.sub (R':=[(r1,.ptr n 0),(r2,.ptr (n+1) 0),(r8,.ptr m4 0),(r9,.int .i64 (i:Int))]) (by simp [q1,q2,q8,q9]) ?_
        have en:hb g n=some (.cell (xC (.list v [.list v0 xs0,y1,y2,y3,.list v4 xs4])) 56 false):=by rw [hg _ (by omega)];exact d0
        have hlow:∀ c,c < n->hb g c=hb h c:=fun c hc=>by rw [hg c (by omega)];exact hG4.same c hc
        have hsl:=hm4.1.ext (show Gr h n g m from ⟨by omega,hlow⟩)
        repeat' first|refine SO.loadV rfl rfl rfl en rfl ?_|refine SW.a rfl ?_|refine SW.reg ?_|refine SO.a rfl ?_
        refine SO.idxX 4 rfl rfl rfl rfl rfl hY (by simp) (fun s4 t4 hs4=>?_)
        have hS4:=hs4 g m (by omega) (hgr g hlow)
        simp only [List.getElem_cons_succ,List.getElem_cons_zero] at hS4
        repeat' first|refine SO.loadF (off:=2) rfl rfl rfl hS4 (Gr.refl _ _) rfl ?_|refine SO.lenSl rfl rfl rfl hsl ?_|refine SO.loadVA rfl rfl rfl e8 rfl ?_|refine SW.a rfl ?_|refine SW.reg ?_|refine SO.nil ?_|refine SO.a rfl ?_|refine SO.cF rfl (by omega) ?_|fail
        refine SO.storeAll rfl rfl rfl (by rw [hg _ (by omega)];exact d1) rfl rfl (fun g7 e7 k7=>?_)
        repeat' first|refine SO.nil ?_|refine SO.a rfl ?_
        have of':Own g7 (m4+1) m 4 68 uf ff ((((xs4.map XR.sx)).map fileD).flatMap pfC):=of.keep (Nat.le_refl _) fun c h1 _=>k7 c (by omega)
        refine SW.ret code17 ⟨n+1,0,_,rfl,.inl ⟨_,_,e7⟩,by simp,_,rfl,hq _ _ _ ⟨⟨by omega,fun c hc=>by rw [k7 c (by omega)];exact hlow c hc⟩,.inr ⟨by rw [hok'];exact hall,W0,uf,?_,?_⟩⟩⟩
        ·rw [hsd];rfl
        ·rw [hsd]
         refine fun g' k' hk' hg'=>⟨?_,?_⟩
         ·have hW:=(hW0 rfl) g' k' (by omega) (fun c h1 h2=>by rw [hg' c (by omega) (by omega),k7 c (by omega),hg c (by omega)];exact E4.same c (by omega))
          simpa using hW
         ·have:=(of'.keep hk' fun c h1 h2=>hg' c (by omega) h2).sl (l:=xs4.length) (by rw [flatMap_length (f:=pfC) (esz:=4) (fun _=>rfl)];simp) (by decide)
          simpa using this
       | succ k ih =>
        intro i g m uf ff hi hm hg hall e8 of R q1 q2 q8 q9
        have hi':i < xs4.length:=by omega
        refine SW.sub (R':=[(r1,.ptr n 0),(r2,.ptr (n+1) 0),(r8,.ptr m4 0),(r9,.int .i64 (i:Int))]) (by simp [q1,q2,q8,q9]) ?_
        have en:hb g n=some (.cell (xC (.list v [.list v0 xs0,y1,y2,y3,.list v4 xs4])) 56 false):=by rw [hg _ (by omega)];exact d0
        have e1:hb g (n+1)=some (.cell srZ 38 false):=by rw [hg _ (by omega)];exact d1
        have hlow:∀ c,c < n->hb g c=hb h c:=fun c hc=>by rw [hg c (by omega)];exact hG4.same c hc
        have hGg:Gr h n g m:=⟨by omega,hlow⟩
        have hsl:=hm4.1.ext hGg
        have hsn:(xs4.take (i+1)).map XR.sx=(xs4.take i).map XR.sx++[xs4[i].sx]:=by rw [List.take_succ_eq_append_getElem hi',List.map_append];rfl
        have htl:(((xs4.take i).map XR.sx).map fileD).length=i:=by simp;omega
        have hxi:=(hm4.2.1 _ (List.getElem_mem hi')).ext hGg
        repeat' first|refine SO.loadV rfl rfl rfl en rfl ?_|refine SW.a rfl ?_|refine SW.reg ?_|refine SO.a rfl ?_
        refine SO.idxX 4 rfl rfl rfl rfl rfl hY (by simp) (fun s4 t4 hs4=>?_)
        have hS4:=hs4 g m (by omega) (hgr g hlow)
        simp only [List.getElem_cons_succ,List.getElem_cons_zero] at hS4
        repeat' first|refine SO.loadF (off:=2) rfl rfl rfl hS4 (Gr.refl _ _) rfl ?_|refine SO.lenSl rfl rfl rfl hsl ?_|refine SO.loadV rfl rfl rfl en rfl ?_|refine SW.a rfl ?_|refine SW.reg ?_|refine SO.nil ?_|refine SO.a rfl ?_|refine SO.cT rfl (by omega) ?_|fail
        refine SO.idxX 4 rfl rfl rfl rfl rfl hY (by simp) (fun s5 t5 hs5=>?_)
        have hS5:=hs5 g m (by omega) (hgr g hlow)
        simp only [List.getElem_cons_succ,List.getElem_cons_zero] at hS5
        repeat' first|refine SO.loadF (off:=2) rfl rfl rfl hS5 (Gr.refl _ _) rfl ?_|refine SO.idxOf xC_length rfl rfl rfl rfl hsl hi' (fun a o hp=>?_)|refine SO.loadA rfl rfl rfl (by assumption) (Gr.refl _ _) (xC_length _) ?_|refine SO.a rfl ?_
        refine SO.callG rfl rfl rfl (refFile36 xs4[i] hxi) ?_
        rintro _ g5 m5 ⟨E5',⟨hf,rfl⟩ |⟨hf,rfl⟩⟩
        ·have l5:=E5'.le
         repeat' first|refine SO.alloc rfl rfl (fun g7 c7 E7=>?_)|refine SO.a rfl ?_
         refine SO.storeAll rfl rfl rfl c7 rfl rfl (fun g8 c8 k8=>?_)
         repeat' first|refine SO.build (v:=.agg srZ) rfl rfl rfl (fun K=>rfl) ?_|refine SW.a rfl ?_|refine SW.reg ?_|refine SO.nil ?_|refine SO.a rfl ?_
         refine SO.storeAll rfl rfl rfl (by rw [k8 _ (by omega),E7.same _ (by omega),E5'.same _ (by omega)];exact e1) rfl rfl (fun g9 f9 k9=>?_)
         repeat' first|refine SO.nil ?_|refine SO.a rfl ?_
         refine hno _ g9 _ _ ?_ (by omega) f9 (fun c hc=>by rw [k9 _ (by omega),k8 _ (by omega),E7.same _ (by omega),E5'.same _ (by omega)];exact hlow c hc) rfl rfl
         rw [hok']
         cases ha:(xs4.map XR.sx).all okF with
         | false=>rfl
         | true =>
          rw [List.all_eq_true] at ha
          rw [ha _ (List.mem_map_of_mem (List.getElem_mem hi'))] at hf
          simp at hf
        ·have l5:=E5'.le
         repeat' first|refine SO.alloc rfl rfl (fun g7 c7 E7=>?_)|refine SO.a rfl ?_
         refine SO.storeAll rfl rfl rfl c7 rfl rfl (fun g8 c8 k8=>?_)
         have x8:∀ c,c < m->hb g8 c=hb g c:=fun c hc=>by rw [k8 _ (by omega),E7.same _ (by omega),E5'.same _ (by omega)]
         have f8:hb g8 m4=some (.cell [W0,strOf (txtD y1.sx),strOf (txtD y2.sx),.int .i64 (numD y3.sx),uf] 38 false):=by rw [x8 _ (by omega)];exact e8
         repeat' first|refine SO.loadV rfl rfl rfl f8 rfl ?_|refine SO.loadVA rfl rfl rfl c8 rfl ?_|refine SW.a rfl ?_|refine SW.reg ?_|refine SO.nil ?_|refine SO.a rfl ?_
         refine SO.bslice rfl rfl rfl (fun k=>rfl) (fun g9 e9 hE9=>?_)
         have of9:Own g9 (m4+1) (m5+1+1) 4 68 uf ff ((((xs4.take i).map XR.sx).map fileD).flatMap pfC):=of.keep (by omega) fun c h1 h2=>by rw [hE9.same c (by omega)];exact x8 c h2
         have f9:hb g9 m4=some (.cell [W0,strOf (txtD y1.sx),strOf (txtD y2.sx),.int .i64 (numD y3.sx),uf] 38 false):=by rw [hE9.same _ (by omega)];exact f8
         have hx9:Sl g9 (m5+1+1) 4 (.slc (m5+1) 0 1 1) 1 (pfC (fileD xs4[i].sx)):=⟨rfl,.inr ⟨m5+1,0,1,_,.inl ⟨rfl,Nat.le_refl _⟩,⟨by omega,.inl ⟨_,_,e9⟩⟩,by simp,rfl⟩⟩
         refine SO.append rfl rfl rfl rfl (by decide) (by decide) of9 (by omega) hx9 (by rw [flatMap_length (f:=pfC) (esz:=4) (fun _=>rfl),htl];simp;omega) fun uf' ff' g10 m10 of10 hn10 hk10 hf10=>?_
         have hfo:∀ c,c < m4+1->ff≠some c:=fun c hc e=>by have:=own_low of e;omega
         have f10:hb g10 m4=some (.cell [W0,strOf (txtD y1.sx),strOf (txtD y2.sx),.int .i64 (numD y3.sx),uf] 38 false):=by rw [hk10 _ (by omega) (hfo _ (by omega))];exact f9
         repeat' refine SO.a rfl ?_
         refine SO.put1 rfl rfl rfl f10 (own_one of10).1 (own_one of10).2 (by simp) (fun g11 e11 k11=>?_)
         repeat' first|refine SW.a rfl ?_|refine SW.reg ?_|refine SO.nil ?_|refine SO.a rfl ?_|refine SO.add rfl rfl rfl rfl (by omega) ?_|fail
         refine SW.again ?_
         refine ih (i+1) g11 m10 uf' ff' (by omega) (by omega) ?_ ?_ e11 ?_ _ rfl rfl rfl rfl
         ·intro c hc
          rw [k11 c (by omega),hk10 c (by omega) (hfo c (by omega)),hE9.same c (by omega),x8 c (by omega)];exact hg c hc
         ·rw [hsn,List.all_append,hall];simp [hf]
         ·rw [hsn,List.map_append]
          have:=of10.keep (h':=g11) (Nat.le_refl _) fun c h1 _=>k11 c (by omega)
          simpa [List.flatMap_append] using this
      exact loop xs4.length 0 g6 (m4+1) .nils none (by omega) (Nat.le_refl _) g6k (by simp) c6 (.inl ⟨rfl,rfl,rfl⟩) _ rfl rfl rfl rfl
end Go.Ev
