/- Contracts: SameTree on equal lists. -/
import Derived.Test.YtognadjclbihgaaGreatDoorE6
import Derived.Test.YtognadjclbihgaaGreatDoorBA
import Derived.Test.YtognadjclbihgaaGreatDoorKCodeB
import Derived.Test.YtognadjclbihgaaGreatDoorFH
set_option linter.all false
namespace Go.Ev
set_option maxRecDepth 100000
set_option maxHeartbeats 16000000
theorem eql_pf (f:PF):eqlB (.agg [.str,.int,.int,.str]) (.agg (pfC f)) (.agg (pfC f))=some true:=by
 simp only [eqlB]
 simp [fits,flatEq,scalarEq,strOf_eq,kindEq,intEq]
theorem sameTree38 {h:Hp} {n:Nat} {v w:AV} {fs:List PF} (hv:Sl h n 4 v fs.length (fs.flatMap pfC)) (hw:Sl h n 4 w fs.length (fs.flatMap pfC)) (hl:fs.length<=4000000000000000000):Fn E 38 [v,w] h n fun r h' n'=>r=.bool true/\h'=h/\n'=n:=by
 refine Fn.of code38 (by decide) rfl fun Q cs hq=>?_
 show SW E Q 38 [(r0,v),(r1,w)] _ _ _ _
 have loop:∀ (k i:Nat),i+k=fs.length->∀ R,look R r0=some v->look R r1=some w->look R r5=some (.int .i64 (i:Int))->SW E Q 38 R [.code c38x8,.inLoop c38x8,.inBlock 0,.code (.seq (.reg c38x9) .ret)] cs h n:=by
  intro k
  induction k with
  | zero =>
   intro i hi R q0 q1 q5
   refine SW.sub (R':=[(r0,v),(r1,w),(r5,.int .i64 (i:Int))]) (by simp [q0,q1,q5]) ?_
   repeat' first|refine SO.lenSl rfl rfl rfl hv ?_|refine SW.a rfl ?_|refine SW.reg ?_|refine SO.nil ?_|refine SO.a rfl ?_|refine SO.cF rfl (by omega) ?_|fail
   exact SW.ret code38 ⟨_,rfl,hq _ _ _ ⟨rfl,rfl,rfl⟩⟩
  | succ k ih =>
   intro i hi R q0 q1 q5
   have hi':i < fs.length:=by omega
   refine SW.sub (R':=[(r0,v),(r1,w),(r5,.int .i64 (i:Int))]) (by simp [q0,q1,q5]) ?_
   repeat' first|refine SO.lenSl rfl rfl rfl hv ?_|refine SW.a rfl ?_|refine SW.reg ?_|refine SO.nil ?_|(refine SW.drawO rfl ?_;simp only [List.map_cons,List.map_nil])|refine SO.a rfl ?_|refine SO.cT rfl (by omega) ?_|fail
   refine SO.idxOf (f:=pfC) (fun _=>rfl) rfl rfl rfl rfl hv hi' (fun a o hp=>?_)
   refine SO.loadA rfl rfl rfl hp (Gr.refl _ _) rfl ?_
   repeat' refine SO.a rfl ?_
   refine SO.idxOf (f:=pfC) (fun _=>rfl) rfl rfl rfl rfl hw hi' (fun a o hp=>?_)
   refine SO.loadA rfl rfl rfl hp (Gr.refl _ _) rfl ?_
   refine SO.val (v:=.bool false) rfl rfl (two rfl rfl) (fun K=>by
    show optB (eqlB (.agg [.str,.int,.int,.str]) (.agg (pfC fs[i])) (.agg (pfC fs[i]))) (fun z=>forceB (z != true) fun z=>K.v (.bool z) h n)=_
    rw [eql_pf];rfl) ?_
   repeat' first|refine SW.a rfl ?_|refine SW.reg ?_|refine SO.nil ?_|refine SO.nilD ?_|refine SO.a rfl ?_|refine SO.add rfl rfl rfl rfl (by omega) ?_|fail
   refine SW.again ?_
   exact ih (i+1) (by omega) _ rfl rfl rfl
 repeat' first|refine SO.lenSl rfl rfl rfl hv ?_|refine SO.lenSl rfl rfl rfl hw ?_|refine SW.a rfl ?_|refine SW.reg ?_|refine SO.nil ?_|refine SO.a rfl ?_|refine SO.cF rfl (by omega) ?_|fail
 refine SW.loop ?_
 exact loop fs.length 0 (by omega) _ rfl rfl rfl
set_option maxRecDepth 100000
set_option maxHeartbeats 16000000
theorem sameSnap19 {h:Hp} {n:Nat} {vp vf wp wf:AV} {s:SN} (hvp:Sl h n 1 vp s.parents.length (s.parents.flatMap intC)) (hvf:Sl h n 4 vf s.files.length (s.files.flatMap pfC)) (hwp:Sl h n 1 wp s.parents.length (s.parents.flatMap intC)) (hwf:Sl h n 4 wf s.files.length (s.files.flatMap pfC)) (hl:s.parents.length<=4000000000000000000) (hl2:s.files.length<=4000000000000000000) :
  Fn E 19 [.agg (srC ⟨vp,vf,s⟩),.agg (srC ⟨wp,wf,s⟩)] h n fun r h' n'=>r=.bool true/\Gr h n h' n':=by
 refine Fn.of code19 (by decide) rfl fun Q cs hq=>?_
 show SW E Q 19 [(r0,.agg (srC ⟨vp,vf,s⟩)),(r1,.agg (srC ⟨wp,wf,s⟩))] _ _ _ _
 refine SW.seq ?_
 refine SW.reg ?_
 refine SO.box rfl rfl rfl (by simp) (fun h1 c1 E1=>?_)
 refine SO.box rfl rfl rfl (by simp) (fun h2 b3 E2=>?_)
 have b2:hb h2 n=some (.cell (srC ⟨vp,vf,s⟩) 38 false):=by rw [E2.same n (by omega)];exact c1
 have b3':hb h2 (n+1)=some (.cell (srC ⟨wp,wf,s⟩) 38 false):=b3
 have hG:Gr h n h2 (n+1+1):=E1.trans E2
 have hvp':=hvp.ext hG
 have hwp':=hwp.ext hG
 have loop:∀ (k i:Nat),i+k=s.parents.length->∀ R,look R r2=some (.ptr n 0)->look R r3=some (.ptr (n+1) 0)->look R r5=some (.int .i64 (i:Int))->SW E Q 19 R [.code c19x8,.inLoop c19x8,.inBlock 0,.code (.seq (.reg c19x9) .ret)] cs h2 (n+1+1):=by
  intro k
  induction k with
  | zero =>
   intro i hi R q2 q3 q5
   refine SW.sub (R':=[(r2,.ptr n 0),(r3,.ptr (n+1) 0),(r5,.int .i64 (i:Int))]) (by simp [q2,q3,q5]) ?_
   repeat' first|refine SO.loadV rfl rfl rfl b2 rfl ?_|refine SO.loadV rfl rfl rfl b3' rfl ?_|refine SO.lenSl rfl rfl rfl hvp' ?_|refine SO.strEq rfl rfl rfl rfl (fun _=>?_) (fun hne=>absurd rfl hne)|refine SO.eqiT rfl rfl rfl rfl rfl ?_|refine SW.a rfl ?_|refine SW.reg ?_|refine SO.nil ?_|refine SO.a rfl ?_|refine SO.cF rfl (by omega) ?_|fail
   refine SO.callG rfl rfl rfl (sameTree38 (hvf.ext hG) (hwf.ext hG) hl2) ?_
   rintro _ h3 n3 ⟨rfl,e1,e2⟩
   rw [e1,e2]
   repeat' first|refine SO.nil ?_|refine SO.a rfl ?_
   exact SW.ret code19 ⟨_,rfl,hq _ _ _ ⟨rfl,hG⟩⟩
  | succ k ih =>
   intro i hi R q2 q3 q5
   have hi':i < s.parents.length:=by omega
   refine SW.sub (R':=[(r2,.ptr n 0),(r3,.ptr (n+1) 0),(r5,.int .i64 (i:Int))]) (by simp [q2,q3,q5]) ?_
   repeat' first|refine SO.loadV rfl rfl rfl b2 rfl ?_|refine SO.lenSl rfl rfl rfl hvp' ?_|refine SW.a rfl ?_|refine SW.reg ?_|refine SO.nil ?_|(refine SW.drawO rfl ?_;simp only [List.map_cons,List.map_nil])|refine SO.a rfl ?_|refine SO.cT rfl (by omega) ?_|fail
   refine SO.idxOf (f:=intC) (fun _=>rfl) rfl rfl rfl rfl hvp' hi' (fun a o hp=>?_)
   refine SO.load0 rfl rfl rfl hp (Gr.refl _ _) ?_
   repeat' first|refine SO.loadV rfl rfl rfl b3' rfl ?_|refine SO.a rfl ?_
   refine SO.idxOf (f:=intC) (fun _=>rfl) rfl rfl rfl rfl hwp' hi' (fun a o hp=>?_)
   refine SO.load0 rfl rfl rfl hp (Gr.refl _ _) ?_
   repeat' first|refine SO.neiF rfl rfl rfl rfl rfl ?_|refine SW.a rfl ?_|refine SW.reg ?_|refine SO.nil ?_|refine SO.nilD ?_|refine SO.a rfl ?_|refine SO.add rfl rfl rfl rfl (by omega) ?_|fail
   refine SW.again ?_
   exact ih (i+1) (by omega) _ rfl rfl rfl
 repeat' first|refine SO.loadV rfl rfl rfl b2 rfl ?_|refine SO.loadV rfl rfl rfl b3' rfl ?_|refine SO.lenSl rfl rfl rfl hvp' ?_|refine SO.lenSl rfl rfl rfl hwp' ?_|refine SW.a rfl ?_|refine SW.reg ?_|refine SO.nil ?_|refine SO.a rfl ?_|refine SO.cF rfl (by omega) ?_|fail
 refine SW.loop ?_
 exact loop s.parents.length 0 (by omega) _ rfl rfl rfl
set_option maxRecDepth 100000
set_option maxHeartbeats 16000000
theorem same8 {h:Hp} {n:Nat} {v w:AV} {rs qs:List SnapR} (hv:Sn h n v rs) (hw:Sn h n w qs) (he:rs.map (·.s)=qs.map (·.s)):Fn E 8 [v,w] h n fun r h' n'=>r=.bool true/\Gr h n h' n':=by
 refine Fn.of code8 (by decide) rfl fun Q cs hq=>?_
 show SW E Q 8 [(r0,v),(r1,w)] _ _ _ _
 have hlen:rs.length=qs.length:=by have:=congrArg List.length he;simpa using this
 have hll:=hv.len
 have loop:∀ (k i:Nat) (g:Hp) (m:Nat),i+k=rs.length->Gr h n g m->∀ R,look R r0=some v->look R r1=some w->look R r5=some (.int .i64 (i:Int))->SW E Q 8 R [.code c8x8,.inLoop c8x8,.inBlock 0,.code (.seq (.reg c8x9) .ret)] cs g m:=by
  intro k
  induction k with
  | zero =>
   intro i g m hi hG R q0 q1 q5
   refine SW.sub (R':=[(r0,v),(r1,w),(r5,.int .i64 (i:Int))]) (by simp [q0,q1,q5]) ?_
   have hs:=(hv.ext hG).sl
   repeat' first|refine SO.lenSl rfl rfl rfl hs ?_|refine SW.a rfl ?_|refine SW.reg ?_|refine SO.nil ?_|refine SO.a rfl ?_|refine SO.cF rfl (by omega) ?_|fail
   exact SW.ret code8 ⟨_,rfl,hq _ _ _ ⟨rfl,hG⟩⟩
  | succ k ih =>
   intro i g m hi hG R q0 q1 q5
   have hi':i < rs.length:=by omega
   have hi2:i < qs.length:=by omega
   refine SW.sub (R':=[(r0,v),(r1,w),(r5,.int .i64 (i:Int))]) (by simp [q0,q1,q5]) ?_
   have hv':=hv.ext hG
   have hw':=hw.ext hG
   have hs:=hv'.sl
   have hs2:=hw'.sl
   have hes:qs[i].s=rs[i].s:=by
    have:=congrArg (fun l=>l[i]?) he
    simpa [hi',hi2] using this.symm
   have m1:=List.getElem_mem hi'
   have m2:=List.getElem_mem hi2
   have x1:=hv'.ps _ m1
   have x2:=hv'.fs _ m1
   have y1:=hw'.ps _ m2
   have y2:=hw'.fs _ m2
   have k1:=hv'.ok _ m1
   repeat' first|refine SO.lenSl rfl rfl rfl hs ?_|refine SW.a rfl ?_|refine SW.reg ?_|refine SO.nil ?_|(refine SW.drawO rfl ?_;simp only [List.map_cons,List.map_nil])|refine SO.a rfl ?_|refine SO.cT rfl (by omega) ?_|fail
   refine SO.idxOf (f:=srC) (fun _=>rfl) rfl rfl rfl rfl hs hi' (fun a o hp=>?_)
   refine SO.loadA rfl rfl rfl hp (Gr.refl _ _) rfl ?_
   repeat' refine SO.a rfl ?_
   refine SO.idxOf (f:=srC) (fun _=>rfl) rfl rfl rfl rfl hs2 hi2 (fun a o hp=>?_)
   refine SO.loadA rfl rfl rfl hp (Gr.refl _ _) rfl ?_
   generalize rs[i]=ri at *
   generalize qs[i]=qi at *
   obtain⟨vp,vf,s⟩:=ri
   obtain⟨wp,wf,s'⟩:=qi
   simp only at hes x1 x2 y1 y2 k1
   subst hes
   refine SO.callG rfl rfl rfl (sameSnap19 x1 x2 y1 y2 k1.parents k1.files) ?_
   rintro _ g2 m2' ⟨rfl,E2⟩
   repeat' first|refine SW.a rfl ?_|refine SW.reg ?_|refine SO.nil ?_|refine SO.nilD ?_|refine SO.a rfl ?_|refine SO.add rfl rfl rfl rfl (by omega) ?_|fail
   refine SW.again ?_
   exact ih (i+1) g2 m2' (by omega) (hG.trans E2) _ rfl rfl rfl
 have hs:=hv.sl
 have hs2:=hw.sl
 repeat' first|refine SO.lenSl rfl rfl rfl hs ?_|refine SO.lenSl rfl rfl rfl hs2 ?_|refine SW.a rfl ?_|refine SW.reg ?_|refine SO.nil ?_|refine SO.a rfl ?_|refine SO.cF rfl (by omega) ?_|fail
 refine SW.loop ?_
 exact loop rs.length 0 h n (by omega) (Gr.refl _ _) _ rfl rfl rfl
end Go.Ev
