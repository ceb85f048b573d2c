/- The abstract interpreter: each of its steps is the machine's. -/
import Derived.Test.YtognadjclbihgaaGreatDoorE4
set_option linter.all false
namespace Go.Ev
section
variable {X:Ctx} {f0:FuncId} {cs0:List Frame} {fin:AV->Bool} {φ:Phi} {h:Hp} {n:Nat} {w:World} {K:Kont}
theorem W.loop (hw:W X φ h n w) {l:Nat} {p:Pl} {st:LoopState} {pend:Option CC} {fn:FuncId} {regs:Tr} {ps:List Path} {asg body:CC} {d:Nat} (ha:φ l=some p) (hb0:hb h l=some (.loop st pend fn regs ps asg body d)) :
  ∃ L,w.heap[p.blk]?=some (.loop L)/\LoopRel X φ st pend fn regs ps asg body d L/\X.w0.heap.size<=p.blk:=by
 obtain⟨_,b,ob,h1,h2,h3⟩:=hw.dom l p ha
 rw [hb0] at h1;simp at h1;subst h1
 obtain⟨L,rfl,hH,r⟩:=h3
 exact⟨L,h2,r,hH⟩
theorem leave_fn {fn:FuncId} {regs:Tr} {rest todo':List AItem} {defers:List Df} {cs:List AF} {nt:Nat} {T:Array Value} {k todo:List Item} {ds:List Deferred} {frs:List Frame} {m:Nat} {jump:Option CC}
  (hK:leaveK (env X fin) (.mk fn regs rest defers none) cs jump h n K=true) (hw:W X φ h n w) (fb:FB X φ All nt fn regs todo' defers none T k ds none) (hm:m<=n) (hst:Stack X f0 φ h m cs frs) (hbot:cs=[]->fn=f0) :
  Nx X fin f0 cs0 φ K (lone (mkU .returning (kdOf cs) fn T todo ds) (frs++cs0) w):=by
 cases hall:allMarks defers with
 | false =>
  have hK':K (.unw .ret (.mk fn regs [] defers none) cs) h n=true:=by
   have:Bool.rec (motive:=fun _=>Bool) (K (.unw .ret (.mk fn regs [] defers none) cs) h n) (marksK defers h fun h=>Option.casesOn (motive:=fun _=>Bool) ((env X fin).func fn) false fun cf=>CF.casesOn (motive:=fun _=>Bool) cf fun _ rs _=>resultsK rs regs h fun vs=>packK vs fun v=>K (.give v cs) h n) (allMarks defers)=true:=hK
   rw [hall] at this;exact this
  exact .inr ⟨_,_,_,φ,w,_,Phi.le_refl _,hK',.refl _ _,⟨nt,T,todo,ds,.returning,frs,m,rfl,rfl,⟨fb.func,fb.small,fb.size,fb.regs,rfl,fb.dfr,rfl⟩,hm,hst,hbot⟩,hw⟩
 | true =>
 have hK':(marksK defers h fun h=>Option.casesOn (motive:=fun _=>Bool) ((env X fin).func fn) false fun cf=>CF.casesOn (motive:=fun _=>Bool) cf fun _ rs _=>resultsK rs regs h fun vs=>packK vs fun v=>K (.give v cs) h n)=true:=by
  have:Bool.rec (motive:=fun _=>Bool) (K (.unw .ret (.mk fn regs [] defers none) cs) h n) (marksK defers h fun h=>Option.casesOn (motive:=fun _=>Bool) ((env X fin).func fn) false fun cf=>CF.casesOn (motive:=fun _=>Bool) cf fun _ rs _=>resultsK rs regs h fun vs=>packK vs fun v=>K (.give v cs) h n) (allMarks defers)=true:=hK
  rw [hall] at this;exact this
 obtain⟨h1,w1,hk1,s1,hw1,g1⟩:=marks_steps (X:=X) (kd:=kdOf cs) (fn:=fn) (T:=T) (todo:=todo) (cs:=frs++cs0) fb.dfr hw hK'
 obtain⟨F,hF,hnt⟩:=fb.func
 cases hE:(env X fin).func fn with
 | none=>rw [hE] at hk1;exact Bool.noConfusion (hk1:false=true)
 | some cf =>
  rw [hE] at hk1
  simp only [env] at hE
  rw [hF] at hE
  simp only [Option.bind_some] at hE
  obtain⟨body,rs,e1,e2,e3,e4,rfl⟩:=compF_inv hE
  rw [hnt] at e2
  obtain⟨vs,cvs,hk2,hr2,hrun⟩:=results_rel hw1 (fb.regs.all fun _=>trivial) fb.small e2 (hk1:resultsK rs regs h1 _=true)
  obtain⟨v,hk3,hr3⟩:=packK_rel hr2 hk2
  refine .inr ⟨_,_,_,φ,w1,_,Phi.le_refl _,hk3,s1,⟨_,frs,m,hr3,hm,hst.grow (g1.b hm) (Nat.le_refl _),.inl ⟨_,rfl,⟨rfl,rfl,rfl,F,hF,?_⟩,hbot⟩⟩,hw1⟩
  have hres:results F (mkU .returning (kdOf cs) fn T todo []).tmps=(do let vs <- F.results.mapM (resOf T);pure (if h:vs.size=1 then vs[0] else .tuple vs)):=rfl
  rw [hres,Array.mapM_eq_mapM_toList,Sem.run_bind,Sem.run_map,hrun]
  simp
theorem st_roundEnd {P:Program} {kd:CallKind} (hkd:kd=.normal) {fn:FuncId} {T:Array Value} {todo:List Item} {ds:List Deferred} {c:Frame} {cs:List Frame} {l:Nat} {L:Loop} {jump:Option Code} (hl:w.heap[l]?=some (.loop L))
  (ht:(todo=[]/\jump=none)\/(∃ k,todo=.code .ret::k/\jump=some .ret)\/(∃ id k,todo=.code (.exit id)::k/\exitTo id k=none/\jump=some (.exit id))) :
  step P (lone (mkF kd fn T todo ds (some l)) (c::cs) w)=.next (lone (c.finish (.bool jump.isNone)) cs { w with heap:=w.heap.setIfInBounds l (.loop { L with state:=if jump.isNone then .ready else .done,pending:=jump }) }):=by
 have hg:=getObj_run (P:=P) hl (by simp)
 have hs:∀ o,(setObj l o).run P w=.ok () { w with heap:=w.heap.setIfInBounds l o }:=fun o=>setObj_run (P:=P) o hl (by simp)
 subst hkd
 refine step_lone_go ?_
 rcases ht with ⟨rfl,rfl⟩ |⟨k,rfl,rfl⟩ |⟨id,k,rfl,he,rfl⟩
 ·simp [stepG,stepG.exec,mkF,Instr.endRound,Instr.getLoop,hg,hs,doReturn]
 ·simp [stepG,stepG.exec,mkF,Instr.endRound,Instr.getLoop,hg,hs,doReturn]
 ·simp [stepG,stepG.exec,mkF,he,Instr.endRound,Instr.getLoop,hg,hs,doReturn]
def JRel:Option Code->Option CC->Prop:=fun j c=>(c=none/\j=none)\/(c=some .ret/\j=some .ret)\/∃ id,c=some (.exit id)/\j=some (.exit id)
theorem leave_round {fn:FuncId} {regs:Tr} {rest todo':List AItem} {defers:List Df} {l:Nat} {cs:List AF} {nt:Nat} {T:Array Value} {k todo:List Item} {ds:List Deferred} {ro:Option Nat} {frs:List Frame} {m:Nat} {jump:Option Code} {cjump:Option CC}
  (hj:JRel jump cjump) (ht:(todo=[]/\jump=none)\/(∃ k,todo=.code .ret::k/\jump=some .ret)\/(∃ id k,todo=.code (.exit id)::k/\exitTo id k=none/\jump=some (.exit id)))
  (hK:leaveK (env X fin) (.mk fn regs rest defers (some l)) cs cjump h n K=true) (hw:W X φ h n w) (fb:FB X φ All nt fn regs todo' defers (some l) T k ds ro) (hm:m<=n) (hst:Stack X f0 φ h m cs frs) (hbot:cs=[]->fn=f0/\(some l:Option Nat)=none) :
  Nx X fin f0 cs0 φ K (lone (mkF (kdOf cs) fn T todo ds ro) (frs++cs0) w):=by
 obtain⟨p,hp,rfl⟩:=fb.round
 cases cs with
 | nil=>exact absurd (hbot rfl).2 (by simp)
 | cons f cs =>
  obtain⟨fr,frs',lo,hi,rfl,h2⟩:=hst
  obtain⟨hun,hK1⟩:=guardB_iff.1 (hK:guardB (!unwTop (f::cs)) _=true)
  have hun':unwTop (f::cs)=false:=by simpa using hun
  have hkd:kdOf (f::cs)=.normal:=by simp [kdOf,hun']
  have hK':(blkK h l fun b=>ifLoop b fun _ _ fn' regs' ps asg body d=>Option.casesOn (motive:=fun _=>Bool) cjump
   (putK l (.loop .ready none fn' regs' ps asg body d) h fun h=>K (.give (.bool true) (f::cs)) h n)
   (fun c=>putK l (.loop .done (some c) fn' regs' ps asg body d) h fun h=>K (.give (.bool false) (f::cs)) h n))=true:=hK1
  obtain⟨b,hb0,hk1⟩:=blkK_iff.1 hK'
  obtain⟨st,pend,fn',regs',ps,asg,body,d,rfl,hk2⟩:=ifLoop_iff.1 hk1
  obtain⟨L,hL,hr,hH⟩:=hw.loop hp hb0
  have hstep:=st_roundEnd (P:=X.P) hkd (fn:=fn) (T:=T) (ds:=ds) (c:=fr) (cs:=frs'++cs0) hL ht
  have hst':Stack X f0 φ h m (f::cs) (fr::frs'):=⟨fr,frs',lo,hi,rfl,h2⟩
  have some_:∀ (c:CC) (j:Code),cjump=some c->jump=some j->JRel (some j) (some c)->Nx X fin f0 cs0 φ K (lone (mkF (kdOf (f::cs)) fn T todo ds (some p.blk)) (fr::frs'++cs0) w):=by
   intro c j e1 e2 hjr
   subst e1 e2
   have hk3:K (.give (.bool false) (f::cs)) (hput l (.loop .done (some c) fn' regs' ps asg body d) h) n=true:=by
    rw [<- putK_eq (k:=fun h=>K (.give (.bool false) (f::cs)) h n)]
    exact hk2
   obtain⟨g1,g2⟩:=hw.turn (b':=.loop .done (some c) fn' regs' ps asg body d) (o':=.loop { L with state:=.done,pending:=some j }) hp hb0 (by simp) (by simp) hH ⟨_,rfl,hH,⟨rfl,hjr,hr.same,hr.code,hr.rr,hr.defers⟩⟩
   exact .inr ⟨_,_,_,φ,_,_,Phi.le_refl _,hk3,.one hstep,⟨.bool false,fr::frs',m,by simp [VRel],hm,hst'.grow (g2.b hm) (Nat.le_refl _),.inr ⟨fr,frs',rfl,hun',rfl⟩⟩,g1⟩
  have hj':=hj
  rcases hj with ⟨rfl,rfl⟩ |⟨e1,e2⟩ |⟨id,e1,e2⟩
  ·have hk3:K (.give (.bool true) (f::cs)) (hput l (.loop .ready none fn' regs' ps asg body d) h) n=true:=by
    rw [<- putK_eq (k:=fun h=>K (.give (.bool true) (f::cs)) h n)]
    exact hk2
   obtain⟨g1,g2⟩:=hw.turn (b':=.loop .ready none fn' regs' ps asg body d) (o':=.loop { L with state:=.ready,pending:=none }) hp hb0 (by simp) (by simp) hH ⟨_,rfl,hH,⟨rfl,.inl ⟨rfl,rfl⟩,hr.same,hr.code,hr.rr,hr.defers⟩⟩
   exact .inr ⟨_,_,_,φ,_,_,Phi.le_refl _,hk3,.one hstep,⟨.bool true,fr::frs',m,by simp [VRel],hm,hst'.grow (g2.b hm) (Nat.le_refl _),.inr ⟨fr,frs',rfl,hun',rfl⟩⟩,g1⟩
  ·exact some_ _ _ e1 e2 (.inr (.inl ⟨rfl,rfl⟩))
  ·exact some_ _ _ e1 e2 (.inr (.inr ⟨id,rfl,rfl⟩))
theorem st_beginRound {P:Program} {kd:CallKind} {fn:FuncId} {T:Array Value} {k:List Item} {ds:List Deferred} {cs:List Frame} {l:Nat} {L:Loop} (hl:w.heap[l]?=some (.loop L)) (hs:L.state=.ready) :
  step P (lone (mkF kd fn T (.beginRound::k) ds (some l)) cs w)=.next (lone (mkF kd fn T k ds (some l)) cs { w with heap:=w.heap.setIfInBounds l (.loop { L with state:=.busy }) }):=by
 have hg:=getObj_run (P:=P) hl (by simp)
 have hs':∀ o,(setObj l o).run P w=.ok () { w with heap:=w.heap.setIfInBounds l o }:=fun o=>setObj_run (P:=P) o hl (by simp)
 exact step_lone_go (by simp [stepG,stepG.exec,stepG.apply,mkF,Instr.beginRound,Instr.getLoop,hg,hs',hs,Frame.finish])
theorem st_endLoop {P:Program} {kd:CallKind} {fn:FuncId} {T:Array Value} {k:List Item} {ds:List Deferred} {ro:Option Nat} {cs:List Frame} {l:Nat} {L:Loop} {pend:Option Code} (hl:w.heap[l]?=some (.loop L)) (hs:L.state=.ready\/L.state=.done) (hpd:L.pending=pend) :
  step P (lone (mkF kd fn T (.endRangeFunc l::k) ds ro) cs w)=.next (lone (mkF kd fn T ((pend.map Item.code).toList++k) ds ro) cs { w with heap:=w.heap.setIfInBounds l (.loop { L with state:=.exhausted }) }):=by
 have hg:=getObj_run (P:=P) hl (by simp)
 have hs':∀ o,(setObj l o).run P w=.ok () { w with heap:=w.heap.setIfInBounds l o }:=fun o=>setObj_run (P:=P) o hl (by simp)
 subst hpd
 have hb:¬ L.state=LoopState.busy:=by rcases hs with hs|hs<;>rw [hs]<;>simp
 exact step_lone_go (by simp [stepG,stepG.exec,mkF,Instr.endLoop,Instr.getLoop,hg,hs',hb])
theorem st_rangeTop {P:Program} {kd:CallKind} {fn:FuncId} {T:Array Value} {k:List Item} {ds:List Deferred} {cs:List Frame} {x:Operand} {ps:Array Tmp} {asg body:Code} {g:FuncId} {a b:Array Value} {w2:World} (hx:ev T x=.func (.func g) a b)
  (hw2:w2={ w with heap:=(w.heap.push (.deferred (some []))).push (.loop { state:=.ready,pending:=none,fn,tmps:=T,params:=ps,assign:=asg,body,defers:=w.heap.size }) })
  (hc:(callFunc g (a++#[.func (.yield (w.heap.size+1)) #[] #[]]++b)).run P w2=.ok (.enter g (a++#[.func (.yield (w.heap.size+1)) #[] #[]]++b)) w2) :
  step P (lone (mkF kd fn T (.code (.rangeFunc x ps asg body)::k) ds none) cs w) =
   .next (lone (Frame.enter P g (a++#[.func (.yield (w.heap.size+1)) #[] #[]]++b) .normal) (mkF kd fn T (.inRangeFunc (w.heap.size+1)::k) ({ target:=.collected w.heap.size,args:=#[] }::ds) none::cs) w2):=by
 have hev:=eval_mkF kd fn T (.inRangeFunc (w.heap.size+1)::k) ({ target:=.collected w.heap.size,args:=#[] }::ds) none
 simp only [mkF] at hev
 refine step_lone_go ?_
 have hl:(Instr.enterLoop fn T ps asg body none).run P w=.ok (w.heap.size+1,[{ target:=.collected w.heap.size,args:=#[] }]) w2:=by
  subst hw2
  simp [Instr.enterLoop]
  rfl
 have hcall:(do let d <- resolve (ev T) { callee:=.value x,args:=#[.const (.func (.yield (w.heap.size+1)) #[] #[])],argTypes:=#[] } 0;invoke d.target d.args:Sem Next).run P w2=.ok (.enter g (a++#[.func (.yield (w.heap.size+1)) #[] #[]]++b)) w2:=by
  simp only [resolve,hx,Deferred.ofValue,Sem.run_bind,Sem.run_pure,Result.andThen_ok,invoke,List.map_toArray,List.map_cons,List.map_nil,ev_const]
  exact hc
 simp [stepG,stepG.exec,stepG.apply,mkF,hl,hev,hcall]
theorem st_rangeIn {P:Program} {kd:CallKind} {fn:FuncId} {T:Array Value} {k:List Item} {ds:List Deferred} {cs:List Frame} {x:Operand} {ps:Array Tmp} {asg body:Code} {g l:Nat} {L:Loop} {a b:Array Value} {w2:World} (hx:ev T x=.func (.func g) a b) (hl:w.heap[l]?=some (.loop L))
  (hw2:w2={ w with heap:=w.heap.push (.loop { state:=.ready,pending:=none,fn,tmps:=T,params:=ps,assign:=asg,body,defers:=L.defers }) })
  (hc:(callFunc g (a++#[.func (.yield w.heap.size) #[] #[]]++b)).run P w2=.ok (.enter g (a++#[.func (.yield w.heap.size) #[] #[]]++b)) w2) :
  step P (lone (mkF kd fn T (.code (.rangeFunc x ps asg body)::k) ds (some l)) cs w) =
   .next (lone (Frame.enter P g (a++#[.func (.yield w.heap.size) #[] #[]]++b) .normal) (mkF kd fn T (.inRangeFunc w.heap.size::k) ds (some l)::cs) w2):=by
 have hg:=getObj_run (P:=P) hl (by simp)
 have hev:=eval_mkF kd fn T (.inRangeFunc w.heap.size::k) ds (some l)
 simp only [mkF] at hev
 refine step_lone_go ?_
 have hlp:(Instr.enterLoop fn T ps asg body (some l)).run P w=.ok (w.heap.size,[]) w2:=by
  subst hw2
  simp [Instr.enterLoop,Instr.getLoop,hg]
 have hcall:(do let d <- resolve (ev T) { callee:=.value x,args:=#[.const (.func (.yield w.heap.size) #[] #[])],argTypes:=#[] } 0;invoke d.target d.args:Sem Next).run P w2=.ok (.enter g (a++#[.func (.yield w.heap.size) #[] #[]]++b)) w2:=by
  simp only [resolve,hx,Deferred.ofValue,Sem.run_bind,Sem.run_pure,Result.andThen_ok,invoke,List.map_toArray,List.map_cons,List.map_nil,ev_const]
  exact hc
 simp [stepG,stepG.exec,stepG.apply,mkF,hlp,hev,hcall]
end
section
variable {X:Ctx} {f0:FuncId} {cs0:List Frame} {fin:AV->Bool} {φ:Phi} {h:Hp} {n:Nat} {w:World} {K:Kont}
theorem tpaths_inv {nt:Nat}:∀ {ts:List Tmp} {ps:List Path},tpaths nt ts=some ps->ps=ts.map (pathOf depth)/\∀ t ∈ ts,t < nt
 | [],ps,h=>by simp [tpaths] at h;subst h;simp
 | t::ts,ps,h=>by
  simp only [tpaths] at h
  split at h
  ·rename_i p ps' h1 h2
   simp at h;subst h
   obtain⟨h3,rfl⟩:=tpath_some h1
   obtain⟨rfl,h4⟩:=tpaths_inv h2
   refine⟨rfl,fun u hu=>?_⟩
   rcases List.mem_cons.1 hu with rfl|hu
   ·exact h3
   ·exact h4 u hu
  ·simp at h
theorem setAll_rel {nt:Nat} (hnt:nt<=256):∀ {ts:List Tmp} {vs:List AV} {cs:List Value} {t:Tr} {T:Array Value},(∀ u ∈ ts,u < nt)->ts.length=vs.length->T.size=nt->VRels φ vs cs->RRel φ t T ->
  RRel φ (setAll (ts.map (pathOf depth)) vs t) ((ts.zip cs).foldl (fun T p=>T.setIfInBounds p.1 p.2) T)/\((ts.zip cs).foldl (fun T p=>T.setIfInBounds p.1 p.2) T).size=nt
 | [],vs,cs,t,T,h1,h2,h3,h4,h5=>by
  cases vs with
  | nil=>exact⟨h5,h3⟩
  | cons v vs=>simp at h2
 | u::ts,vs,cs,t,T,h1,h2,h3,h4,h5=>by
  cases vs with
  | nil=>simp at h2
  | cons v vs =>
   obtain⟨c,r,rfl,h6,h7⟩:=VRels.cons_iff.1 h4
   simp only [List.map_cons,setAll,List.zip_cons_cons,List.foldl_cons]
   refine setAll_rel hnt (fun x hx=>h1 x (List.mem_cons_of_mem _ hx)) (by simpa using h2) (by simpa using h3) h7 ?_
   exact (RRelOn.set (S:=All) (nt:=nt) (fun i v _=>h5 i v) h3 (h1 u (by simp)) hnt h6).all fun _=>trivial
theorem zip_foldl (ps:Array Tmp) (args:Array Value) (T:Array Value):(ps.zip args).foldl (fun tmps (x:Tmp × Value)=>tmps.setIfInBounds x.1 x.2) T=(ps.toList.zip args.toList).foldl (fun T p=>T.setIfInBounds p.1 p.2) T:=by
 rw [<- Array.foldl_toList,Array.toList_zip]
theorem yield_frame {l:Nat} {p:Pl} {args:List AV} {cargs:Array Value} {f:AF} {cs:List AF} (hw:W X φ h n w) (hl:φ l=some p) (hK:yieldK l args f cs h n K=true) (hr:VRels φ args cargs.toList) :
  ∃ fn t nt asg body T,K (.run (.mk fn t [.code (compC X.P X.N nt asg),.beginRound,.code (compC X.P X.N nt body)] [] (some l)) (f::cs)) h n=true/\(Instr.yield p.blk cargs).run X.P w=.ok (.round p.blk fn T asg body) w /\
   FB X φ All nt fn t [.code (compC X.P X.N nt asg),.beginRound,.code (compC X.P X.N nt body)] [] (some l) T [.code asg,.beginRound,.code body] [] (some p.blk):=by
 obtain⟨b,hb0,hk1⟩:=blkK_iff.1 (hK:blkK h l _=true)
 obtain⟨st,pend,fn,regs,ps,asg,body,d,rfl,hk2⟩:=ifLoop_iff.1 hk1
 obtain⟨L,hL,hr0,hH⟩:=hw.loop hl hb0
 obtain⟨hlen,hk3⟩:=setsK_iff.1 hk2
 obtain⟨F,hF,h256,hsz,htp,rfl,rfl⟩:=hr0.code
 obtain⟨rfl,hlt⟩:=tpaths_inv htp
 have hcl:=hr.length
 have hps:L.params.toList.length=args.length:=by simpa using hlen
 obtain⟨g1,g2⟩:=setAll_rel (φ:=φ) h256 hlt hps hsz hr hr0.rr
 refine⟨fn,_,F.ntmps,L.assign,L.body,_,hk3,?_,⟨⟨F,hF,rfl⟩,h256,g2,g1.on,?_,rfl,⟨p,hl,rfl⟩⟩⟩
 ·have hg:=getObj_run (P:=X.P) hL (by simp)
  have hsz':cargs.size=L.params.size:=by simp at hps hcl;omega
  have hz:=zip_foldl L.params cargs L.tmps
  have hzs:L.params.size=(L.params.zip cargs).size:=by simp [hsz']
  simp [Instr.yield,Instr.getLoop,hg,hsz',hr0.same]
  rw [hzs]
  exact hz
 ·exact .cons (.code _) (.cons .beginRound (.cons (.code _) rfl))
theorem stOps_cons (E:Env) (c:COp) (os:List COp) (fn:FuncId) (regs:Tr) (todo:List AItem) (defers:List Df) (round:Option Nat) (cs:List AF) (h:Hp) (n:Nat) (K:Kont) :
  stOps E (c::os) (.mk fn regs todo defers round) cs h n K =
   wantK c.guard regs
    (rds c.xs regs fun vs=>specK c.k (execV c.k vs h n
     ⟨fun v h n=>putD c.dst v regs fun regs=>K (.ops os (.mk fn regs todo defers round) cs) h n,
      fun g args h n=>enterK E g args (.mk fn regs (.inReg c.dst os::todo) defers round) cs h n K,
      fun l args h n=>yieldK l args (.mk fn regs (.inReg c.dst os::todo) defers round) cs h n K,
      E.meth⟩) (panicK vs fn regs defers round cs h n K) (deferK vs c.dst os fn regs todo defers round cs h n K) (recoverK vs c.dst os fn regs todo defers round cs h n K))
    (putD c.dst undefA regs fun regs=>K (.ops os (.mk fn regs todo defers round) cs) h n):=by
 cases c;rfl
theorem badS_false {t:Tr} {h:Hp} {n:Nat} {K':KS} {no:Bool} {a b c:List AV->Bool} (hk:wantK badOp.guard t (rds badOp.xs t fun vs=>specK badOp.k (execV badOp.k vs h n K') (a vs) (b vs) (c vs)) no=true):False:=by
 rcases want_cases hk with ⟨_,h1⟩ |⟨⟨p,b,v,h1,_⟩,_⟩
 ·exact Bool.noConfusion (h1:false=true)
 ·simp [badOp] at h1
theorem bad_false {t:Tr} {h:Hp} {n:Nat} {K':KS} {no:Bool} (hk:wantK badOp.guard t (rds badOp.xs t fun vs=>execV badOp.k vs h n K') no=true):False:=by
 rcases want_cases hk with ⟨_,h1⟩ |⟨⟨p,b,v,h1,_⟩,_⟩
 ·exact Bool.noConfusion (h1:false=true)
 ·simp [badOp] at h1
theorem spec_cases (oc:OC):oc=.panic\/oc=.defer\/oc=.recover\/(oc≠.defer/\∀ no pan dfr rcv,specK oc no pan dfr rcv=no):=by
 cases oc<;>first|exact .inl rfl|exact .inr (.inl rfl)|exact .inr (.inr (.inl rfl))|exact .inr (.inr (.inr ⟨by simp,fun _ _ _ _=>rfl⟩))
section
variable {o:Oper} {ops:Array Oper} {i:Nat} {is:List Nat} {nt:Nat} {fn:FuncId} {regs:Tr} {todo:List AItem} {defers:List Df} {round:Option Nat} {T:Array Value} {k:List Item} {ds:List Deferred} {ro:Option Nat} {cs:List AF} {frs:List Frame} {m:Nat} {oxs:List Operand} {vs:List AV} {dst:Option Path}
theorem st_opPanic {P:Program} {kd:CallKind} {cfs:List Frame} {v:Value} (ho:ops[i]?=some o) (hwt:Region.wanted o (yielded ops T)=true) (hd:∀ c,o.op≠.defer c) (hr:(execOp (ev T) o).run P w=.halt (.panic v) w) :
  step P (lone (mkF kd fn T (.inRegion ops (i::is)::k) ds none) cfs w)=.next (lone (mkU (.panicking [{ v,recovered:=false }]) kd fn T (.inRegion ops (i::is)::k) ds) cfs w):=by
 refine step_lone_go ?_
 rw [stG_op ho hwt hd]
 simp [stepG.apply,hr,mkF,mkU,Frame.raise]
theorem panic_step (hop:compOp X.P X.N o=some (.panic,oxs)) (ho:ops[i]?=some o) (hwt:Region.wanted o (yielded ops T)=true) (fb:FB X φ All nt fn regs todo defers round T k ds ro) (hw:W X φ h n w) (hm:m<=n) (hst:Stack X f0 φ h m cs frs) (hbot:cs=[]->fn=f0/\round=none)
  (hr:VRels φ vs (oxs.map (ev T))) (hK:panicK vs fn regs defers round cs h n K=true):Nx X fin f0 cs0 φ K (lone (mkF (kdOf cs) fn T (.inRegion ops (i::is)::k) ds ro) (frs++cs0) w):=by
 have his:=compOp_is hop
 generalize hop':o.op=op at his
 cases his
 rename_i x
 obtain⟨v,rfl,hk1⟩:=un1_iff.1 (hK:un1 _ vs=true)
 obtain⟨t,u,rfl,hk2⟩:=ifIfc_iff.1 hk1
 cases round with
 | some l=>exact Bool.noConfusion (hk2:false=true)
 | none =>
  have hro:ro=none:=fb.round
  subst hro
  have hr1:=rel1 hr
  have hr1':=hr1
  simp only [VRel] at hr1'
  obtain⟨c,hc,hcr⟩:=hr1'
  have hrun:(execOp (ev T) o).run X.P w=.halt (.panic (.iface t c)) w:=by
   simp [execOp,hop',Instr.panic,hc,goPanic,Sem.run]
  have hnd:∀ c,o.op≠.defer c:=fun c e=>by rw [hop'] at e;simp at e
  exact .inr ⟨_,_,_,φ,w,_,Phi.le_refl _,(hk2:K (.unw (.pan (.ifc t u) false) (.mk fn regs [] defers none) cs) h n=true),.one (st_opPanic ho hwt hnd hrun),
   ⟨nt,T,_,ds,_,frs,m,rfl,⟨_,by rw [<- hc];exact hr1,rfl⟩,⟨fb.func,fb.small,fb.size,fb.regs,rfl,fb.dfr,rfl⟩,hm,hst,fun e=>(hbot e).1⟩,hw⟩
theorem st_opDefer {P:Program} {kd:CallKind} {cfs:List Frame} {d:Deferred} (ho:ops[i]?=some o) (hwt:Region.wanted o (yielded ops T)=true) (hr:(execOp (ev T) o).run P w=.ok (.defer d) w) :
  step P (lone (mkF kd fn T (.inRegion ops (i::is)::k) ds none) cfs w)=.next (lone (mkF kd fn (putT T o.dst undef) (.inRegion ops is::k) (d::ds) none) cfs w):=by
 rw [<- finish_mkF ho]
 refine step_lone_go ?_
 have he:=eval_mkF kd fn T (.inRegion ops (i::is)::k) ds none
 simp only [mkF] at he
 simp [stepG,stepG.exec,mkF,ho,hwt,stepG.oper,Frame.oper?,he,stepG.apply,hr,Frame.finish]
theorem defer_step (hop:compOp X.P X.N o=some (.defer,oxs)) (ho:ops[i]?=some o) (hwt:Region.wanted o (yielded ops T)=true) (hdst:(o.dst=none/\dst=none)\/∃ t,o.dst=some t/\t < nt/\dst=some (pathOf depth t)) (hrest:∀ j ∈ is,j < ops.size)
  (fb:FB X φ All nt fn regs todo defers round T k ds ro) (hw:W X φ h n w) (hm:m<=n) (hst:Stack X f0 φ h m cs frs) (hbot:cs=[]->fn=f0/\round=none)
  (hr:VRels φ vs (oxs.map (ev T))) (hK:deferK vs dst (opsOf X nt ops is) fn regs todo defers round cs h n K=true):Nx X fin f0 cs0 φ K (lone (mkF (kdOf cs) fn T (.inRegion ops (i::is)::k) ds ro) (frs++cs0) w):=by
 have his:=compOp_is hop
 generalize hop':o.op=op at his
 cases his
 rename_i c x hc
 obtain⟨fv,args,rfl,hk1⟩:=consK_iff.1 (hK:List.casesOn (motive:=fun _=>Bool) vs false _=true)
 rw [List.map_cons,VRels.cons_cons] at hr
 obtain⟨r1,r2⟩:=hr
 rcases ifFn_iff.1 hk1 with ⟨g,a,b,rfl,hk2⟩ |⟨l,rfl,hk2⟩
 ·rw [appK_eq,appK_eq] at hk2
  cases round with
  | some l=>exact Bool.noConfusion (hk2:false=true)
  | none =>
   have hro:ro=none:=fb.round
   subst hro
   have hk3:putD dst undefA regs (fun regs=>K (.ops (opsOf X nt ops is) (.mk fn regs todo (.call g (a++(args++b))::defers) none) cs) h n)=true:=hk2
   rw [putD_eq] at hk3
   simp only [VRel] at r1
   obtain⟨ca,cb,hg,r3,r4⟩:=r1
   have hrun:(execOp (ev T) o).run X.P w=.ok (.defer { target:=.fn (.func g) cb,args:=ca++c.args.map (ev T) }) w:=by
    simp [execOp,hop',resolve,hc,hg,Deferred.ofValue]
   have fb':=fb.put (dst:=dst) hdst undef_rel
   refine .inr ⟨_,_,_,φ,w,_,Phi.le_refl _,hk3,.one (st_opDefer ho hwt hrun),⟨nt,_,k,_,none,frs,m,ops,is,rfl,⟨fb'.func,fb'.small,fb'.size,fb'.regs,fb'.rest,⟨_,_,ds,rfl,?_,fb.dfr⟩,rfl⟩,rfl,hrest,hm,hst,hbot⟩,hw⟩
   have:=r3.append (r2.append r4)
   simpa using this
 ·exact Bool.noConfusion (hk2:false=true)
theorem st_opRecover {P:Program} {fr:Frame} {cfs:List Frame} {v:Value} {fr':Frame} (ho:ops[i]?=some o) (hwt:Region.wanted o (yielded ops T)=true) (hd:∀ c,o.op≠.defer c) (hr:(execOp (ev T) o).run P w=.ok .recover w)
  (hv:(∃ older,fr.mode=.panicking ({ v,recovered:=false }::older)/\fr'={ fr with mode:=.panicking ({ v,recovered:=true }::older) })\/(fr.mode=.returning/\v=.nilIface/\fr'=fr)) :
  step P (lone (mkF .deferred fn T (.inRegion ops (i::is)::k) ds none) (fr::cfs) w)=.next (lone (mkF .deferred fn (putT T o.dst v) (.inRegion ops is::k) ds none) (fr'::cfs) w):=by
 rw [<- finish_mkF ho]
 refine step_lone_go ?_
 rw [stG_op ho hwt hd]
 rcases hv with ⟨older,h1,rfl⟩ |⟨h1,rfl,rfl⟩
 ·simp [stepG.apply,hr,mkF,tryRecover,h1]
 ·simp [stepG.apply,hr,mkF,tryRecover,h1]
theorem recover_step (hop:compOp X.P X.N o=some (.recover,oxs)) (ho:ops[i]?=some o) (hwt:Region.wanted o (yielded ops T)=true) (hdst:(o.dst=none/\dst=none)\/∃ t,o.dst=some t/\t < nt/\dst=some (pathOf depth t)) (hrest:∀ j ∈ is,j < ops.size)
  (fb:FB X φ All nt fn regs todo defers round T k ds ro) (hw:W X φ h n w) (hm:m<=n) (hst:Stack X f0 φ h m cs frs) (hbot:cs=[]->fn=f0/\round=none)
  (hK:recoverK vs dst (opsOf X nt ops is) fn regs todo defers round cs h n K=true):Nx X fin f0 cs0 φ K (lone (mkF (kdOf cs) fn T (.inRegion ops (i::is)::k) ds ro) (frs++cs0) w):=by
 have his:=compOp_is hop
 generalize hop':o.op=op at his
 cases his
 rename_i c hc ha
 have hrun:(execOp (ev T) o).run X.P w=.ok .recover w:=by
  simp [execOp,hop',resolve,hc,invoke,builtin]
 have hnd:∀ c,o.op≠.defer c:=fun c e=>by rw [hop'] at e;simp at e
 cases vs with
 | cons _ _=>exact Bool.noConfusion (hK:false=true)
 | nil =>
 cases round with
 | some l=>exact Bool.noConfusion (hK:false=true)
 | none =>
 have hro:ro=none:=fb.round
 subst hro
 cases cs with
 | nil=>exact Bool.noConfusion (hK:false=true)
 | cons g cs =>
 obtain⟨fn',regs',todo',ds',ro'⟩:=g
 cases todo' with
 | nil=>exact Bool.noConfusion (hK:false=true)
 | cons it r =>
 cases it<;>try exact Bool.noConfusion (hK:false=true)
 rename_i u
 obtain⟨fr,frs',lo,hi,rfl,h1,h2,h3,h4,h5⟩:=hst
 obtain⟨nt',T',k',cds,md,rfl,hu,hro',fb'⟩:=h3
 have hkd:∀ u',kdOf (AF.mk fn' regs' (.inUnw u'::r) ds' ro'::cs)=.deferred:=fun u'=>rfl
 rw [hkd]
 cases u with
 | ret =>
  have hk3:putD dst .nili regs (fun regs=>K (.ops (opsOf X nt ops is) (.mk fn regs todo defers none) (.mk fn' regs' (.inUnw .ret::r) ds' ro'::cs)) h n)=true:=hK
  rw [putD_eq] at hk3
  have hmd:md=.returning:=hu
  subst hmd
  exact .inr ⟨_,_,_,φ,w,_,Phi.le_refl _,hk3,.one (st_opRecover (fr:=mkU .returning (kdOf cs) fn' T' k' cds) ho hwt hnd hrun (.inr ⟨rfl,rfl,rfl⟩)),⟨nt,_,k,ds,none,_,m,ops,is,rfl,fb.put hdst (by simp [VRel]),rfl,hrest,hm,⟨_,frs',lo,hi,rfl,h1,h2,⟨nt',T',k',cds,_,rfl,rfl,hro',fb'⟩,h4,h5⟩,hbot⟩,hw⟩
 | pan v got =>
  cases got with
  | true=>exact Bool.noConfusion (hK:false=true)
  | false =>
   have hk3:putD dst v regs (fun regs=>K (.ops (opsOf X nt ops is) (.mk fn regs todo defers none) (.mk fn' regs' (.inUnw (.pan v true)::r) ds' ro'::cs)) h n)=true:=hK
   rw [putD_eq] at hk3
   obtain⟨cv,hcv,rfl⟩:=hu
   exact .inr ⟨_,_,_,φ,w,_,Phi.le_refl _,hk3,.one (st_opRecover (fr:=mkU (.panicking [{ v:=cv,recovered:=false }]) (kdOf cs) fn' T' k' cds) (fr':=mkU (.panicking [{ v:=cv,recovered:=true }]) (kdOf cs) fn' T' k' cds) ho hwt hnd hrun (.inl ⟨[],rfl,rfl⟩)),⟨nt,_,k,ds,none,_,m,ops,is,rfl,fb.put hdst hcv,rfl,hrest,hm,⟨_,frs',lo,hi,rfl,h1,h2,⟨nt',T',k',cds,_,rfl,⟨cv,hcv,rfl⟩,hro',fb'⟩,h4,h5⟩,fun e=>by simp at e⟩,hw⟩
end
theorem ops_step (hP:POk X) {os:List COp} {f:AF} {cs:List AF} {M:Machine} (hs:SR X f0 cs0 φ h n w (.ops os f cs) M) (hw:W X φ h n w) (hK:stOps (env X fin) os f cs h n K=true):Nx X fin f0 cs0 φ K M:=by
 obtain⟨fn,regs,todo,defers,round⟩:=f
 obtain⟨nt,T,k,ds,ro,frs,m,ops,is,rfl,fb,rfl,his,hm,hst,hbot⟩:=hs
 cases is with
 | nil =>
  have hk1:K (.run (.mk fn regs todo defers round) cs) h n=true:=hK
  exact .inr ⟨_,_,_,φ,w,_,Phi.le_refl _,hk1,.one st_regionEnd,⟨nt,T,k,ds,ro,frs,m,rfl,fb,hm,hst,hbot⟩,hw⟩
 | cons i is =>
  have hi:i < ops.size:=his i (by simp)
  obtain⟨o,ho⟩:∃ o,ops[i]?=some o:=⟨_,Array.getElem?_eq_getElem hi⟩
  have hK':stOps (env X fin) (compO X.P X.N nt ops o::opsOf X nt ops is) (.mk fn regs todo defers round) cs h n K=true:=by
   have:opsOf X nt ops (i::is)=compO X.P X.N nt ops o::opsOf X nt ops is:=by simp only [opsOf,List.map_cons,CS_getD ho]
   rw [<- this];exact hK
  rw [stOps_cons] at hK'
  have hrest:∀ j ∈ is,j < ops.size:=fun j hj=>his j (List.mem_cons_of_mem _ hj)
  rcases compO_cases X nt ops o with hbad |⟨oxs,hk⟩
  ·rw [hbad] at hK';exact (badS_false hK').elim
  ·have hG:GuardIn All ops o:=fun _ _ _ _ _=>trivial
   rcases want_cases hK' with ⟨hwt,h1⟩ |⟨hwt,h1⟩
   ·obtain⟨vs,hvs,h2⟩:=rds_iff.1 h1
    have hr:=vals_rel hw.glob hk.xs hvs (fun _ _=>trivial) fb.regs
    have hwanted:=wanted_yes hk fb.small fb.regs hG hwt
    rcases spec_cases (compO X.P X.N nt ops o).k with hsp|hsp|hsp |⟨hnd0,hsp⟩
    ·rw [hsp] at h2
     exact panic_step (hk.op.trans (by rw [hsp])) ho hwanted fb hw hm hst hbot hr h2
    ·rw [hsp] at h2
     exact defer_step (hk.op.trans (by rw [hsp])) ho hwanted hk.dst hrest fb hw hm hst hbot hr h2
    ·rw [hsp] at h2
     exact recover_step (hk.op.trans (by rw [hsp])) ho hwanted hk.dst hrest fb hw hm hst hbot h2
    rw [hsp] at h2
    have hnd:=compOp_noDefer hk.op hnd0
    cases hcall:isCall (compO X.P X.N nt ops o).k with
    | false =>
     obtain⟨v,h',n',φ',w',c,h3,h4,h5,h6,h7⟩:=op_out hP.ext hk.op hcall h2 hw (ev_const T) (ev_func T) hr
     dsimp only at h3
     rw [putD_eq] at h3
     refine .inr ⟨_,_,_,φ',w',_,h7.phi,h3,.one (st_opValue ho hwanted hnd h4),⟨nt,_,k,ds,ro,frs,m,ops,is,rfl,(fb.mono h7.phi).put hk.dst h5,rfl,hrest,?_,hst.grow (h7.b hm) (Nat.le_refl _),hbot⟩,h6⟩
     have:=h7.le;omega
    | true =>
     rcases calls_out (X:=X) (w:=w) hk.op hcall rfl (ev_func T) h2 hr with ⟨g,args,cargs,h3,h4,h5⟩ |⟨l,args,cargs,p,h3,h4,h5,h6⟩
     ·obtain⟨t,nt',body,T',h6,h7,h8,h9⟩:=enter_frame (kd:=.normal) (w:=w) hP h3 h4
      rw [h7] at h5
      have hstep:=st_opEnter (kd:=kdOf cs) (fn:=fn) (k:=k) (ds:=ds) (ro:=ro) (cs:=frs++cs0) (rest:=is) ho hwanted hnd h5
      rw [h8] at hstep
      exact .inr ⟨_,_,_,φ,w,_,Phi.le_refl _,h6,.one hstep,⟨nt',T',_,[],none,mkF (kdOf cs) fn T (.inRegion ops (i::is)::k) ds ro::frs,n,rfl,h9,Nat.le_refl _,
       ⟨_,frs,m,m,rfl,Nat.le_refl _,hm,⟨nt,T,k,ds,ro,ops,i,is,o,rfl,fb,ho,hk.dst,rfl,hrest⟩,hbot,hst⟩,by simp⟩,hw⟩
     ·obtain⟨fn',t,nt',asg,body,T',h7,h8,h9⟩:=yield_frame hw h4 h3 h5
      rw [h8] at h6
      have hstep:=st_opRound (kd:=kdOf cs) (fn:=fn) (k:=k) (ds:=ds) (ro:=ro) (cs:=frs++cs0) (rest:=is) ho hwanted hnd h6
      exact .inr ⟨_,_,_,φ,w,_,Phi.le_refl _,h7,.one hstep,⟨nt',T',_,[],some p.blk,mkF (kdOf cs) fn T (.inRegion ops (i::is)::k) ds ro::frs,n,rfl,h9,Nat.le_refl _,
       ⟨_,frs,m,m,rfl,Nat.le_refl _,hm,⟨nt,T,k,ds,ro,ops,i,is,o,rfl,fb,ho,hk.dst,rfl,hrest⟩,hbot,hst⟩,by simp⟩,hw⟩
   ·rw [putD_eq] at h1
    have hwanted:=wanted_no hk fb.small fb.regs hG hwt
    exact .inr ⟨_,_,_,φ,w,_,Phi.le_refl _,h1,.one (st_opSkip ho hwanted),⟨nt,_,k,ds,ro,frs,m,ops,is,rfl,fb.put hk.dst undef_rel,rfl,hrest,hm,hst,hbot⟩,hw⟩
theorem draw_step (hP:POk X) {ds':List DStep} {f:AF} {cs:List AF} {M:Machine} (hs:SR X f0 cs0 φ h n w (.draw ds' f cs) M) (hw:W X φ h n w) (hK:stDraw (env X fin) ds' f cs h n K=true):Nx X fin f0 cs0 φ K M:=by
 obtain⟨fn,regs,todo,defers,round⟩:=f
 rcases hs with rfl |⟨nt,T,k,ds,ro,frs,m,ops,L,A,C,is,α,rfl,hd,rfl,hm,hst,hbot⟩
 ·rw [stDraw_cons] at hK;exact (bad_false hK).elim
 ·cases L with
  | nil =>
   have hk1:K (.run (.mk fn regs todo defers round) cs) h n=true:=hK
   obtain⟨φ',w',T',C',is',s1,hd',hw',g1,hend⟩:=mach_catch (kd:=kdOf cs) (cs:=frs++cs0) (.inl rfl) is hd hw
   rcases hend with ⟨_,rfl⟩ |⟨i,L',is'',e,_⟩
   ·exact .inr ⟨_,_,_,φ',w',_,g1.phi,hk1,s1.trans (.one st_regionEnd),⟨nt,T',k,ds,ro,frs,m,rfl,hd'.done,hm,hst.grow g1 (Nat.le_refl _),hbot⟩,hw'⟩
   ·simp at e
  | cons i L =>
   cases he:isEff (QS X nt ops) i with
   | false =>
    obtain⟨regs',h',n',α',h1,h2,h3,h4,h5⟩:=draw_quiet hd hw hm he hK
    exact .inr ⟨_,_,_,φ,w,_,Phi.le_refl _,h1,.refl _ _,.inr ⟨nt,T,k,ds,ro,frs,m,ops,L,i::A,C,is,α',rfl,h2,rfl,by omega,hst.grow h4 (Nat.le_refl _),hbot⟩,h3⟩
   | true =>
    obtain⟨φ1,w1,T1,C1,is1,s1,hd1,hw1,g1,hend⟩:=mach_catch (kd:=kdOf cs) (cs:=frs++cs0) (.inr ⟨i,L,rfl,he⟩) is hd hw
    rcases hend with ⟨e,_⟩ |⟨i',L',is2,e,rfl⟩
    ·simp at e
    ·simp only [List.cons.injEq] at e
     obtain⟨rfl,rfl⟩:=e
     refine Nx.of_steps g1.phi s1 ?_
     have hst1:=hst.grow g1 (Nat.le_refl _)
     have hi:i < ops.size:=hd1.ord.1
     obtain⟨o,ho⟩:∃ o,ops[i]?=some o:=⟨_,Array.getElem?_eq_getElem hi⟩
     obtain⟨oxs,hk⟩:=hd1.ok.good i o ho
     obtain⟨hs1,hs2⟩:=hd1.settled ho hk hd1.sch.2.2.1
     have hnd:=compOp_noDefer hk.op (hd1.ok.nodf i o ho)
     simp only [dsteps] at hK
     rw [stDraw_cons,CS_getD ho] at hK
     rcases want_cases hK with ⟨hwt,h1⟩ |⟨hwt,h1⟩
     ·obtain⟨vs,hvs,h2⟩:=rds_iff.1 h1
      have hr:=vals_rel hw1.glob hk.xs hvs hs1 hd1.fb.regs
      have hwanted:=wanted_yes hk hd1.fb.small hd1.fb.regs hs2 hwt
      cases hcall:isCall (compO X.P X.N nt ops o).k with
      | false =>
       obtain⟨v,h',n',φ',w',c,h3,h4,h5,h6,h7⟩:=op_out hP.ext hk.op hcall h2 hw1 (ev_const T1) (ev_func T1) hr
       dsimp only at h3
       rw [putD_eq] at h3
       have hdg:=hd1.grow (h7.b (Nat.le_refl n)) (Nat.le_refl n) h7.le
       obtain⟨h8,h9⟩:=hdg.resume ho he h5 h3
       refine .inr ⟨_,_,_,φ',w',_,h7.phi,h8,.one (st_opValue ho hwanted hnd h4),.inr ⟨nt,_,k,ds,ro,frs,m,ops,L,i::A,i::C1,is2,α,rfl,h9,rfl,?_,hst1.grow (h7.b hm) (Nat.le_refl _),hbot⟩,h6⟩
       have:=h7.le;omega
      | true =>
       rcases calls_out (X:=X) (w:=w1) hk.op hcall rfl (ev_func T1) h2 hr with ⟨g,args,cargs,h3,h4,h5⟩ |⟨l,args,cargs,p,h3,h4,h5,h6⟩
       ·obtain⟨t,nt',body,T',h6,h7,h8,h9⟩:=enter_frame (kd:=.normal) (w:=w1) hP h3 h4
        rw [h7] at h5
        have hstep:=st_opEnter (kd:=kdOf cs) (fn:=fn) (k:=k) (ds:=ds) (ro:=ro) (cs:=frs++cs0) (rest:=is2) ho hwanted hnd h5
        rw [h8] at hstep
        exact .inr ⟨_,_,_,φ1,w1,_,Phi.le_refl _,h6,.one hstep,⟨nt',T',_,[],none,mkF (kdOf cs) fn T1 (.inRegion ops (i::is2)::k) ds ro::frs,n,rfl,h9,Nat.le_refl _,
         ⟨_,frs,m,n,rfl,hm,Nat.le_refl _,⟨nt,T1,k,ds,ro,ops,i,L,A,C1,is2,α,o,true,rfl,hd1,ho,he,rfl,rfl,rfl⟩,hbot,hst1⟩,by simp⟩,hw1⟩
       ·obtain⟨fn',t,nt',asg,body,T',h7,h8,h9⟩:=yield_frame hw1 h4 h3 h5
        rw [h8] at h6
        have hstep:=st_opRound (kd:=kdOf cs) (fn:=fn) (k:=k) (ds:=ds) (ro:=ro) (cs:=frs++cs0) (rest:=is2) ho hwanted hnd h6
        exact .inr ⟨_,_,_,φ1,w1,_,Phi.le_refl _,h7,.one hstep,⟨nt',T',_,[],some p.blk,mkF (kdOf cs) fn T1 (.inRegion ops (i::is2)::k) ds ro::frs,n,rfl,h9,Nat.le_refl _,
         ⟨_,frs,m,n,rfl,hm,Nat.le_refl _,⟨nt,T1,k,ds,ro,ops,i,L,A,C1,is2,α,o,true,rfl,hd1,ho,he,rfl,rfl,rfl⟩,hbot,hst1⟩,by simp⟩,hw1⟩
     ·rw [putD_eq] at h1
      have hwanted:=wanted_no hk hd1.fb.small hd1.fb.regs hs2 hwt
      exact .inr ⟨_,_,_,φ1,w1,_,Phi.le_refl _,h1,.one (st_opSkip ho hwanted),.inr ⟨nt,_,k,ds,ro,frs,m,ops,L,i::A,i::C1,is2,α,rfl,hd1.pass ho undef_rel,rfl,hm,hst1,hbot⟩,hw1⟩
theorem give_step {v:AV} {cs:List AF} {M:Machine} (hs:SR X f0 cs0 φ h n w (.give v cs) M) (hw:W X φ h n w) (hK:stGive (env X fin) v cs h n K=true):Nx X fin f0 cs0 φ K M:=by
 obtain⟨c,frs,m,hv,hm,hst,hM⟩:=hs
 cases cs with
 | nil =>
  have hfin:fin v=true:=hK
  rw [show frs=[] from hst] at hM
  rcases hM with ⟨fr,rfl,hl,hf⟩ |⟨fr,frs',e,_⟩
  ·exact .inl ⟨v,c,φ,h,n,w,fr,hfin,hv,hw,.refl _ _,hf rfl,Leaves.normal hl⟩
  ·simp at e
 | cons f cs =>
  obtain⟨fr,frs',lo,hi,rfl,hlo,hhi,hsus,hbot,hst'⟩:=hst
  have hM':unwTop (f::cs)=false->Steps X.P M (lone (fr.finish c) (frs'++cs0) w):=fun hun=>by
   rcases hM with ⟨fr',rfl,hl,_⟩ |⟨fr',frs'',e,_,rfl⟩
   ·rw [show kdOf (f::cs)=.normal by simp [kdOf,hun]] at hl
    exact .one (step_leave_returned hl.normal)
   ·simp only [List.cons.injEq] at e
    obtain⟨rfl,rfl⟩:=e
    exact .refl _ _
  obtain⟨fn,regs,todo,defers,round⟩:=f
  cases todo with
  | nil=>exact hsus.elim
  | cons it rest =>
   cases it with
   | inUnw u =>
    obtain⟨nt,T,k,ds,md,rfl,hu,hro,fb⟩:=hsus
    rcases hM with ⟨fr',rfl,hl,_⟩ |⟨fr',frs'',e,hun,_⟩
    ·have hl':Leaves X.P fr' w c .deferred:=hl
     have hstep:=step_leave_deferred (c:=mkU md (kdOf cs) fn T k ds) (cs:=frs'++cs0) hl'
     have hbot':cs=[]->fn=f0:=fun e=>(hbot e).1
     cases u with
     | ret =>
      have hmd:md=.returning:=hu
      subst hmd
      exact .inr ⟨_,_,_,φ,w,_,Phi.le_refl _,(hK:K (.unw .ret (.mk fn regs [] defers none) cs) h n=true),.one hstep,⟨nt,T,k,ds,_,frs',lo,rfl,rfl,fb,by omega,hst',hbot'⟩,hw⟩
     | pan v got =>
      obtain⟨cv,hcv,rfl⟩:=hu
      cases got with
      | false=>exact .inr ⟨_,_,_,φ,w,_,Phi.le_refl _,(hK:K (.unw (.pan v false) (.mk fn regs [] defers none) cs) h n=true),.one hstep,⟨nt,T,k,ds,_,frs',lo,rfl,⟨cv,hcv,rfl⟩,fb,by omega,hst',hbot'⟩,hw⟩
      | true=>exact .inr ⟨_,_,_,φ,w,_,Phi.le_refl _,(hK:K (.unw .ret (.mk fn regs [] defers none) cs) h n=true),.one hstep,⟨nt,T,k,ds,.returning,frs',lo,rfl,rfl,fb,by omega,hst',hbot'⟩,hw⟩
    ·exact Bool.noConfusion (hun:true=false)
   | inReg dst os =>
    refine Nx.of_steps (Phi.le_refl _) (hM' rfl) ?_
    obtain⟨nt,T,k,ds,ro,ops,i,is,o,rfl,fb,ho,hd,rfl,his⟩:=hsus
    have hk1:putD dst v regs (fun regs=>K (.ops (is.map fun i=>(CS X nt ops).getD i badOp) (.mk fn regs rest defers round) cs) h n)=true:=hK
    rw [putD_eq] at hk1
    rw [finish_mkF ho]
    exact .inr ⟨_,_,_,φ,w,_,Phi.le_refl _,hk1,.refl _ _,⟨nt,_,k,ds,ro,frs',lo,ops,is,rfl,fb.put hd hv,rfl,his,by omega,hst',hbot⟩,hw⟩
   | inDraw dst rc ds' =>
    refine Nx.of_steps (Phi.le_refl _) (hM' rfl) ?_
    obtain⟨nt,T,k,ds,ro,ops,i,L,A,C,is,α,o,live,rfl,hd,ho,he,rfl,rfl,rfl⟩:=hsus
    have hk1:putD (compO X.P X.N nt ops o).dst v regs (fun regs=>recheckK (again (CS X nt ops) (QS X nt ops) (BS ops) i A) regs h n (K (.draw (dsteps (CS X nt ops) (QS X nt ops) (BS ops) L (i::A)) (.mk fn regs rest defers round) cs) h n))=true:=hK
    rw [putD_eq] at hk1
    rw [finish_mkF ho]
    obtain⟨h1,h2⟩:=hd.resume ho he hv hk1
    have h2':DR X φ h n lo nt fn (putR regs (compO X.P X.N nt ops o).dst v) rest defers round (putT T o.dst c) k ds ro ops L (i::A) (i::C) is α true :=
     ⟨h2.ok,h2.ord,h2.sch,h2.sub,h2.eff,h2.closed,h2.lt,h2.fb,h2.pend,h2.inj,fun j a ha=>by have:=h2.bnd j a ha;omega⟩
    exact .inr ⟨_,_,_,φ,w,_,Phi.le_refl _,h1,.refl _ _,.inr ⟨nt,_,k,ds,ro,frs',lo,ops,L,i::A,i::C,is,α,rfl,h2',rfl,by omega,hst',hbot⟩,hw⟩
   | inRF l =>
    refine Nx.of_steps (Phi.le_refl _) (hM' rfl) ?_
    obtain⟨nt,T,k,ds,ro,p,hp,rfl,fb⟩:=hsus
    have hk1:K (.run (.mk fn regs (.endRF l::rest) defers round) cs) h n=true:=hK
    have hfin:(mkF (kdOf cs) fn T (.inRangeFunc p.blk::k) ds ro).finish c=mkF (kdOf cs) fn T (.endRangeFunc p.blk::k) ds ro:=rfl
    rw [hfin]
    exact .inr ⟨_,_,_,φ,w,_,Phi.le_refl _,hk1,.refl _ _,⟨nt,T,_,ds,ro,frs',lo,rfl,⟨fb.func,fb.small,fb.size,fb.regs,.cons (.endRF l p hp) fb.rest,fb.dfr,fb.round⟩,by omega,hst',hbot⟩,hw⟩
   | code c=>exact hsus.elim
   | inBlock id=>exact hsus.elim
   | inLoop c=>exact hsus.elim
   | endRF l=>exact hsus.elim
   | beginRound=>exact hsus.elim
theorem st_callDeferred {P:Program} {md:FrameMode} {kd:CallKind} (hmd:md≠.run) {fn g:FuncId} {T:Array Value} {todo:List Item} {ds:List Deferred} {cs:List Frame} {ca cb:Array Value}
  (hc:(callFunc g (ca++cb)).run P w=.ok (.enter g (ca++cb)) w) :
  step P (lone (mkU md kd fn T todo ({ target:=.fn (.func g) cb,args:=ca }::ds)) cs w)=.next (lone (Frame.enter P g (ca++cb) .deferred) (mkU md kd fn T todo ds::cs) w):=by
 have hi:(invoke (.fn (.func g) cb) ca).run P w=.ok (.enter g (ca++cb)) w:=by simpa [invoke] using hc
 cases md with
 | run=>exact absurd rfl hmd
 | _=>exact step_lone_go (by simp [stepG,unwind,mkU,callDeferred,hi])
theorem UnRel.ne {φ:Phi} {u:Un} {md:FrameMode} (r:UnRel φ u md):md≠.run:=by
 cases u with
 | ret=>rw [show md=.returning from r];simp
 | pan v got=>obtain⟨c,_,rfl⟩:=r;simp
theorem unw_step (hP:POk X) {u:Un} {f:AF} {cs:List AF} {M:Machine} (hs:SR X f0 cs0 φ h n w (.unw u f cs) M) (hw:W X φ h n w) (hK:stUnw (env X fin) u f cs h n K=true):Nx X fin f0 cs0 φ K M:=by
 obtain⟨fn,regs,todo,defers,round⟩:=f
 obtain⟨nt,T,k,ds,md,frs,m,rfl,hu,fb,hm,hst,hbot⟩:=hs
 cases defers with
 | nil =>
  have hds:ds=[]:=fb.dfr
  subst hds
  obtain⟨F,hF,hnt⟩:=fb.func
  cases u with
  | ret =>
   have hmd:md=.returning:=hu
   subst hmd
   have hk1:Option.casesOn (motive:=fun _=>Bool) ((env X fin).func fn) false (fun cf=>CF.casesOn (motive:=fun _=>Bool) cf fun _ rs _=>resultsK rs regs h fun vs=>packK vs fun v=>K (.give v cs) h n)=true:=hK
   cases hE:(env X fin).func fn with
   | none=>rw [hE] at hk1;exact Bool.noConfusion (hk1:false=true)
   | some cf =>
    rw [hE] at hk1
    simp only [env] at hE
    rw [hF] at hE
    simp only [Option.bind_some] at hE
    obtain⟨body,rs,e1,e2,e3,e4,rfl⟩:=compF_inv hE
    rw [hnt] at e2
    obtain⟨vs,cvs,hk2,hr2,hrun⟩:=results_rel hw (fb.regs.all fun _=>trivial) fb.small e2 (hk1:resultsK rs regs h _=true)
    obtain⟨v,hk3,hr3⟩:=packK_rel hr2 hk2
    refine .inr ⟨_,_,_,φ,w,_,Phi.le_refl _,hk3,.refl _ _,⟨_,frs,m,hr3,hm,hst,.inl ⟨_,rfl,⟨rfl,rfl,rfl,F,hF,?_⟩,hbot⟩⟩,hw⟩
    have hres:results F (mkU .returning (kdOf cs) fn T k []).tmps=(do let vs <- F.results.mapM (resOf T);pure (if h:vs.size=1 then vs[0] else .tuple vs)):=rfl
    rw [hres,Array.mapM_eq_mapM_toList,Sem.run_bind,Sem.run_map,hrun]
    simp
  | pan v got =>
   obtain⟨cv,hcv,rfl⟩:=hu
   cases got with
   | true=>exact Bool.noConfusion (hK:false=true)
   | false=>exact .inr ⟨_,_,_,φ,w,_,Phi.le_refl _,(hK:K (.raise v cs) h n=true),.refl _ _,⟨cv,frs,m,_,hcv,hm,hst,rfl,⟨rfl,rfl,F,hF⟩⟩,hw⟩
 | cons d r =>
  cases d with
  | mark d =>
   obtain⟨p,ds',hp,rfl,hd'⟩:=fb.dfr
   obtain⟨b,hb0,hk1⟩:=blkK_iff.1 (hK:blkK h d _=true)
   obtain⟨o,rfl,hk2⟩:=ifDfr_iff.1 hk1
   obtain⟨ho,hk3⟩:=guardB_iff.1 hk2
   subst ho
   rw [putK_eq] at hk3
   obtain⟨_,b',ob,hb1,hob,hbr⟩:=hw.dom d p hp
   rw [hb0] at hb1;simp at hb1;subst hb1
   obtain⟨rfl,hH⟩:=hbr
   obtain⟨g1,g2⟩:=hw.turn (b':=.dfr false) (o':=.deferred none) hp hb0 (by simp) (by simp) hH ⟨rfl,hH⟩
   exact .inr ⟨_,_,_,φ,_,_,Phi.le_refl _,hk3,.one (st_take hu.ne hob),⟨nt,T,k,ds',md,frs,m,rfl,hu,⟨fb.func,fb.small,fb.size,fb.regs,rfl,hd',rfl⟩,hm,hst.grow (g2.b hm) (Nat.le_refl _),hbot⟩,g1⟩
  | call g args =>
   obtain⟨ca,cb,ds',rfl,hra,hd'⟩:=fb.dfr
   obtain⟨t,nt',body,T',h6,h7,h8,h9⟩:=enter_frame (kd:=.deferred) (w:=w) hP (hK:enterK (env X fin) g args (.mk fn regs [.inUnw u] r none) cs h n K=true) hra
   have hstep:=st_callDeferred (md:=md) (kd:=kdOf cs) hu.ne (fn:=fn) (T:=T) (todo:=k) (ds:=ds') (cs:=frs++cs0) h7
   rw [h8] at hstep
   exact .inr ⟨_,_,_,φ,w,_,Phi.le_refl _,h6,.one hstep,⟨nt',T',_,[],none,mkU md (kdOf cs) fn T k ds'::frs,n,rfl,h9,Nat.le_refl _,
    ⟨_,frs,m,m,rfl,Nat.le_refl _,hm,⟨nt,T,k,ds',md,rfl,hu,rfl,⟨fb.func,fb.small,fb.size,fb.regs,rfl,hd',rfl⟩⟩,fun e=>⟨hbot e,rfl⟩,hst⟩,by simp⟩,hw⟩
theorem raise_step {v:AV} {cs:List AF} {M:Machine} (hs:SR X f0 cs0 φ h n w (.raise v cs) M) (hw:W X φ h n w) (hK:stRaise v cs h n K=true):Nx X fin f0 cs0 φ K M:=by
 obtain⟨c,frs,m,fr,hv,hm,hst,rfl,hl⟩:=hs
 cases cs with
 | nil=>exact Bool.noConfusion (hK:false=true)
 | cons f cs =>
  obtain⟨fr2,frs',lo,hi,rfl,hlo,hhi,hsus,hbot,hst'⟩:=hst
  have hstep:=step_leave_panicked (c:=fr2) (cs:=frs'++cs0) hl
  obtain⟨fn,regs,todo,defers,round⟩:=f
  cases round with
  | some l=>exact Bool.noConfusion (hK:false=true)
  | none =>
  cases todo with
  | nil=>exact hsus.elim
  | cons it rest =>
   cases it with
   | inReg dst os =>
    obtain⟨nt,T,k,ds,ro,ops,i,is,o,rfl,fb,ho,hd,rfl,his⟩:=hsus
    have hro:ro=none:=fb.round
    subst hro
    exact .inr ⟨_,_,_,φ,w,_,Phi.le_refl _,(hK:K (.unw (.pan v false) (.mk fn regs [] defers none) cs) h n=true),.one hstep,⟨nt,T,_,ds,_,frs',lo,rfl,⟨c,hv,rfl⟩,⟨fb.func,fb.small,fb.size,fb.regs,rfl,fb.dfr,rfl⟩,by omega,hst',fun e=>(hbot e).1⟩,hw⟩
   | inDraw dst rc ds' =>
    obtain⟨nt,T,k,ds,ro,ops,i,L,A,C,is,α,o,live,rfl,hd,ho,he,rfl,rfl,rfl⟩:=hsus
    have hro:ro=none:=hd.fb.round
    subst hro
    cases defers with
    | cons _ _=>exact Bool.noConfusion (hK:false=true)
    | nil =>
     have hds:ds=[]:=hd.fb.dfr
     subst hds
     obtain⟨F,hF,_⟩:=hd.fb.func
     exact .inr ⟨_,_,_,φ,w,_,Phi.le_refl _,(hK:K (.raise v cs) h n=true),.one hstep,⟨c,frs',lo,_,hv,by omega,hst',rfl,⟨rfl,rfl,F,hF⟩⟩,hw⟩
   | inRF l=>exact Bool.noConfusion (hK:false=true)
   | code c=>exact hsus.elim
   | inBlock id=>exact hsus.elim
   | inLoop c=>exact hsus.elim
   | endRF l=>exact hsus.elim
   | beginRound=>exact hsus.elim
   | inUnw u=>exact Bool.noConfusion (hK:false=true)
end
section
variable {X:Ctx} {f0:FuncId} {cs0:List Frame} {fin:AV->Bool} {φ:Phi} {h:Hp} {n:Nat} {w:World} {K:Kont}
theorem opsOf_range (X:Ctx) (nt:Nat) (ops:Array Oper):opsOf X nt ops (List.range ops.size)=CS X nt ops:=by
 apply List.ext_getElem?
 intro i
 simp only [opsOf,List.getElem?_map]
 by_cases hi:i < ops.size
 ·obtain⟨o,ho⟩:∃ o,ops[i]?=some o:=⟨_,Array.getElem?_eq_getElem hi⟩
  rw [List.getElem?_range hi,Option.map_some,CS_getD ho,CS_at ho]
 ·rw [List.getElem?_eq_none (by simp;omega),List.getElem?_eq_none (by rw [CS_length];omega)]
  rfl
theorem range_step (hP:POk X) {fn:FuncId} {regs:Tr} {rest:List AItem} {defers:List Df} {round:Option Nat} {cs:List AF} {nt:Nat} {T:Array Value} {k:List Item} {ds:List Deferred} {ro:Option Nat} {frs:List Frame} {m:Nat}
  {x:Operand} {params:Array Tmp} {asg body:Code} {fv:AV} {ps:List Path} (hps:tpaths nt params.toList=some ps) (hfv:VRel φ fv (ev T x)) (fb:FB X φ All nt fn regs rest defers round T k ds ro) (hw:W X φ h n w) (hm:m<=n) (hst:Stack X f0 φ h m cs frs) (hbot:cs=[]->fn=f0/\round=none)
  (hK:rangeK (env X fin) fv ps (compC X.P X.N nt asg) (compC X.P X.N nt body) fn regs rest defers round cs h n K=true) :
  Nx X fin f0 cs0 φ K (lone (mkF (kdOf cs) fn T (.code (.rangeFunc x params asg body)::k) ds ro) (frs++cs0) w):=by
 obtain⟨F,hF,hnt⟩:=fb.func
 have hcode:∃ F,X.P.funcs[fn]?=some F/\F.ntmps<=256/\T.size=F.ntmps/\tpaths F.ntmps params.toList=some ps/\compC X.P X.N nt asg=compC X.P X.N F.ntmps asg/\compC X.P X.N nt body=compC X.P X.N F.ntmps body :=
  ⟨F,hF,by rw [hnt];exact fb.small,by rw [hnt];exact fb.size,by rw [hnt];exact hps,by rw [hnt],by rw [hnt]⟩
 rcases ifFn_iff.1 (hK:ifFn fv _ _=true) with ⟨g,a,b,rfl,hk1⟩ |⟨l,rfl,hk1⟩
 ·simp only [VRel] at hfv
  obtain⟨ca,cb,hev,ra,rb⟩:=hfv
  cases round with
  | none =>
   obtain⟨hn1,hk2⟩:=newK_iff.1 (hk1:newK _ h n _=true)
   obtain⟨hn2,hk3⟩:=newK_iff.1 hk2
   rw [appK_eq] at hk3
   obtain⟨g1,g2⟩:=hw.new (b:=.dfr true) (o:=.deferred (some [])) (sz:=0) hn1 (by simp) ⟨rfl,hw.size⟩
   have hle1:=g2.phi
   have hD:(φ.put n ⟨w.heap.size,0,0⟩) n=some ⟨w.heap.size,0,0⟩:=Phi.put_self _ _ _
   obtain⟨g3,g4⟩:=g1.new (b:=.loop .ready none fn regs ps (compC X.P X.N nt asg) (compC X.P X.N nt body) n) (o:=.loop { state:=.ready,pending:=none,fn,tmps:=T,params:=params,assign:=asg,body,defers:=w.heap.size }) (sz:=0) hn2 (by simp)
    ⟨_,rfl,by have:=hw.size;simp;omega,⟨rfl,.inl ⟨rfl,rfl⟩,rfl,hcode,(fb.regs.all fun _=>trivial).mono (Phi.le_trans hle1 (g1.le_put (Nat.le_refl _) _)),⟨_,g1.le_put (Nat.le_refl _) _ _ _ hD,rfl⟩⟩⟩
   simp only [Array.size_push] at g3 g4
   have hle:=Phi.le_trans g2.phi g4.phi
   have hr2:VRels ((φ.put n ⟨w.heap.size,0,0⟩).put (n+1) ⟨w.heap.size+1,0,0⟩) (a++(AV.yld (n+1)::b)) (ca++#[Value.func (.yield (w.heap.size+1)) #[] #[]]++cb).toList:=by
    have h1:=VRels.append (VRels.mono hle _ _ ra) (VRels.cons (v:=.yld (n+1)) (c:=.func (.yield (w.heap.size+1)) #[] #[]) (by simp only [VRel];exact⟨_,Phi.put_self _ _ _,rfl⟩) (VRels.mono hle _ _ rb))
    simpa using h1
   obtain⟨t,nt',bd,T',h6,h7,h8,h9⟩:=enter_frame (kd:=.normal) hP hk3 hr2
   have hstep:=st_rangeTop (P:=X.P) (kd:=kdOf cs) (fn:=fn) (T:=T) (k:=k) (ds:=ds) (cs:=frs++cs0) (x:=x) (ps:=params) (asg:=asg) (body:=body) (w:=w) hev rfl h7
   rw [h8] at hstep
   have hro:ro=none:=fb.round
   subst hro
   refine .inr ⟨_,_,_,_,_,_,hle,h6,.one hstep,⟨nt',T',_,[],none,_::frs,n+1+1,rfl,h9,Nat.le_refl _,
    ⟨_,frs,m,m,rfl,Nat.le_refl _,by omega,⟨nt,T,k,_,none,⟨w.heap.size+1,0,0⟩,?_,rfl,⟨fb.func,fb.small,fb.size,fb.regs.mono hle,fb.rest.mono hle,⟨_,ds,g4.phi _ _ hD,rfl,fb.dfr.mono hle⟩,rfl⟩⟩,hbot,
     (hst.grow (g2.b hm) (Nat.le_refl _)).grow (g4.b (by omega)) (Nat.le_refl _)⟩,by simp⟩,g3⟩
   rw [Phi.put_self]
  | some l0 =>
   obtain⟨p0,hp0,rfl⟩:=fb.round
   obtain⟨b0,hb0,hk2⟩:=blkK_iff.1 (hk1:blkK h l0 _=true)
   obtain⟨st,pend,fn',regs',ps',asg',body',d,rfl,hk3⟩:=ifLoop_iff.1 hk2
   obtain⟨L,hL,hr,hH⟩:=hw.loop hp0 hb0
   obtain⟨hn2,hk4⟩:=newK_iff.1 hk3
   rw [appK_eq] at hk4
   obtain⟨pd,hpd,hLd⟩:=hr.defers
   obtain⟨g3,g4⟩:=hw.new (b:=.loop .ready none fn regs ps (compC X.P X.N nt asg) (compC X.P X.N nt body) d) (o:=.loop { state:=.ready,pending:=none,fn,tmps:=T,params:=params,assign:=asg,body,defers:=L.defers }) (sz:=0) hn2 (by simp)
    ⟨_,rfl,hw.size,⟨rfl,.inl ⟨rfl,rfl⟩,rfl,hcode,(fb.regs.all fun _=>trivial).mono (hw.le_put (Nat.le_refl _) _),⟨pd,hw.le_put (Nat.le_refl _) _ _ _ hpd,hLd⟩⟩⟩
   have hle:=g4.phi
   have hr2:VRels (φ.put n ⟨w.heap.size,0,0⟩) (a++(AV.yld n::b)) (ca++#[Value.func (.yield w.heap.size) #[] #[]]++cb).toList:=by
    have h1:=VRels.append (VRels.mono hle _ _ ra) (VRels.cons (v:=.yld n) (c:=.func (.yield w.heap.size) #[] #[]) (by simp only [VRel];exact⟨_,Phi.put_self _ _ _,rfl⟩) (VRels.mono hle _ _ rb))
    simpa using h1
   obtain⟨t,nt',bd,T',h6,h7,h8,h9⟩:=enter_frame (kd:=.normal) hP hk4 hr2
   have hstep:=st_rangeIn (P:=X.P) (kd:=kdOf cs) (fn:=fn) (T:=T) (k:=k) (ds:=ds) (cs:=frs++cs0) (x:=x) (ps:=params) (asg:=asg) (body:=body) (w:=w) hev hL rfl h7
   rw [h8] at hstep
   exact .inr ⟨_,_,_,_,_,_,hle,h6,.one hstep,⟨nt',T',_,[],none,_::frs,n+1,rfl,h9,Nat.le_refl _,
    ⟨_,frs,m,m,rfl,Nat.le_refl _,by omega,⟨nt,T,k,ds,some p0.blk,⟨w.heap.size,0,0⟩,Phi.put_self _ _ _,rfl,fb.mono hle⟩,hbot,hst.grow (g4.b hm) (Nat.le_refl _)⟩,by simp⟩,g3⟩
 ·exact Bool.noConfusion (hk1:false=true)
theorem code_step (hP:POk X) {fn:FuncId} {regs:Tr} {rest:List AItem} {defers:List Df} {round:Option Nat} {cs:List AF} {nt:Nat} {T:Array Value} {k:List Item} {ds:List Deferred} {ro:Option Nat} {frs:List Frame} {m:Nat} (c:Code)
  (fb:FB X φ All nt fn regs rest defers round T k ds ro) (hw:W X φ h n w) (hm:m<=n) (hst:Stack X f0 φ h m cs frs) (hbot:cs=[]->fn=f0/\round=none)
  (hK:codeStep (env X fin) (compC X.P X.N nt c) fn regs rest defers round cs h n K=true) :
  Nx X fin f0 cs0 φ K (lone (mkF (kdOf cs) fn T (.code c::k) ds ro) (frs++cs0) w):=by
 have go:∀ (todo:List AItem) (k':List Item) (M':Machine),K (.run (.mk fn regs todo defers round) cs) h n=true->Steps X.P (lone (mkF (kdOf cs) fn T (.code c::k) ds ro) (frs++cs0) w) (lone (mkF (kdOf cs) fn T k' ds ro) (frs++cs0) w)->IRels X φ nt todo k' ->
   Nx X fin f0 cs0 φ K (lone (mkF (kdOf cs) fn T (.code c::k) ds ro) (frs++cs0) w):=by
  intro todo k' M' h1 h2 h3
  exact .inr ⟨_,_,_,φ,w,_,Phi.le_refl _,h1,h2,⟨nt,T,k',ds,ro,frs,m,rfl,⟨fb.func,fb.small,fb.size,fb.regs,h3,fb.dfr,fb.round⟩,hm,hst,hbot⟩,hw⟩
 cases c with
 | skip =>
  simp only [compC] at hK
  exact go rest k default hK (.one st_skip) fb.rest
 | seq a b =>
  simp only [compC] at hK
  exact go _ _ default hK (.one st_seq) (.cons (.code a) (.cons (.code b) fb.rest))
 | block id a =>
  simp only [compC] at hK
  exact go _ _ default hK (.one st_block) (.cons (.code a) (.cons (.inBlock id) fb.rest))
 | loop a =>
  simp only [compC] at hK
  exact go _ _ default hK (.one st_loop) (.cons (.code a) (.cons (.inLoop a) fb.rest))
 | cond x a b =>
  simp only [compC] at hK
  cases hx:cx X.N x with
  | none=>rw [hx] at hK;exact Bool.noConfusion (hK:false=true)
  | some cxv =>
   rw [hx] at hK
   obtain⟨v,hv,hk1⟩:=rd_iff.1 (hK:rd cxv regs _=true)
   obtain⟨t,rfl,hk2⟩:=ifBool_iff.1 hk1
   have hr:=val_rel hx hv (fun _ _=>trivial) fb.regs hw.glob
   simp only [VRel] at hr
   cases t with
   | false=>exact go _ _ default hk2 (.one (st_cond hr)) (.cons (.code b) fb.rest)
   | true=>exact go _ _ default hk2 (.one (st_cond hr)) (.cons (.code a) fb.rest)
 | exit id =>
  simp only [compC] at hK
  rcases exit_rel (id:=id) fb.rest with ⟨is',ks',e1,e2,e3⟩ |⟨e1,e2⟩
  ·have hk1:K (.run (.mk fn regs is' defers round) cs) h n=true:=by
    have:=hK
    unfold codeStep at this
    simp only at this
    rw [e1] at this
    exact this
   exact go _ _ default hk1 (.one (st_exit e2)) e3
  ·have hk1:Option.casesOn (motive:=fun _=>Bool) round false (fun _=>leaveK (env X fin) (.mk fn regs rest defers round) cs (some (.exit id)) h n K)=true:=by
    have:=hK
    unfold codeStep at this
    simp only at this
    rw [e1] at this
    exact this
   cases round with
   | none=>exact Bool.noConfusion (hk1:false=true)
   | some l=>exact leave_round (jump:=some (.exit id)) (.inr (.inr ⟨id,rfl,rfl⟩)) (.inr (.inr ⟨id,k,rfl,e2,rfl⟩)) hk1 hw fb hm hst hbot
 | ret =>
  simp only [compC] at hK
  have hk1:leaveK (env X fin) (.mk fn regs rest defers round) cs (some .ret) h n K=true:=hK
  cases round with
  | none =>
   have hro:ro=none:=fb.round
   subst hro
   exact Nx.of_steps (Phi.le_refl _) (.one st_ret) (leave_fn (todo:=.code .ret::k) hk1 hw fb hm hst fun e=>(hbot e).1)
  | some l=>exact leave_round (jump:=some .ret) (.inr (.inl ⟨rfl,rfl⟩)) (.inr (.inl ⟨k,rfl,rfl⟩)) hk1 hw fb hm hst hbot
 | region id ops draw =>
  cases draw with
  | false =>
   simp only [compC] at hK
   have hk1:K (.ops (CS X nt ops) (.mk fn regs rest defers round) cs) h n=true:=hK
   rw [<- opsOf_range] at hk1
   exact .inr ⟨_,_,_,φ,w,_,Phi.le_refl _,hk1,.one st_region,⟨nt,T,k,ds,ro,frs,m,ops,List.range ops.size,rfl,fb,rfl,fun i hi=>List.mem_range.1 hi,hm,hst,hbot⟩,hw⟩
  | true =>
   simp only [compC] at hK
   have hk1:K (.draw (compDraw X.P X.N nt ops) (.mk fn regs rest defers round) cs) h n=true:=hK
   have hcd:compDraw X.P X.N nt ops=drawOf ops (CS X nt ops) (QS X nt ops) (BS ops) (eager (QS X nt ops) (BS ops) ops.size ops.size 0 []):=rfl
   rw [hcd] at hk1
   unfold drawOf at hk1
   split at hk1
   ·rename_i hok
    have hstep:=st_regionD (P:=X.P) (kd:=kdOf cs) (fn:=fn) (T:=T) (k:=k) (ds:=ds) (ro:=ro) (cs:=frs++cs0) (w:=w) (ops:=ops) (id:=id)
    rw [hP.mixed] at hstep
    exact .inr ⟨_,_,_,φ,_,_,Phi.le_refl _,hk1,.one hstep,.inr ⟨nt,T,k,ds,ro,frs,m,ops,_,[],[],_,_,rfl,DR.begin fb hok _ _,rfl,hm,hst,hbot⟩,hw.draw _⟩
   ·exact .inr ⟨_,_,_,φ,w,_,Phi.le_refl _,hk1,.refl _ _,.inl rfl,hw⟩
 | rangeFunc x ps asg body =>
  simp only [compC] at hK
  split at hK
  ·rename_i cxv pps h1 h2
   obtain⟨v,hv,hk1⟩:=rd_iff.1 (hK:rd cxv regs _=true)
   exact range_step hP h2 (val_rel h1 hv (fun _ _=>trivial) fb.regs hw.glob) fb hw hm hst hbot hk1
  ·exact Bool.noConfusion (hK:false=true)
 | _=>exact Bool.noConfusion (hK:false=true)
theorem run_step (hP:POk X) {f:AF} {cs:List AF} {M:Machine} (hs:SR X f0 cs0 φ h n w (.run f cs) M) (hw:W X φ h n w) (hK:stRun (env X fin) f cs h n K=true):Nx X fin f0 cs0 φ K M:=by
 obtain⟨fn,regs,todo,defers,round⟩:=f
 obtain⟨nt,T,k,ds,ro,frs,m,rfl,fb,hm,hst,hbot⟩:=hs
 cases todo with
 | nil =>
  have hk1:leaveK (env X fin) (.mk fn regs [] defers round) cs none h n K=true:=hK
  have hk:k=[]:=fb.rest
  subst hk
  cases round with
  | none =>
   have hro:ro=none:=fb.round
   subst hro
   exact Nx.of_steps (Phi.le_refl _) (.one st_end) (leave_fn (todo:=[]) hk1 hw fb hm hst fun e=>(hbot e).1)
  | some l=>exact leave_round (jump:=none) (.inl ⟨rfl,rfl⟩) (.inl ⟨rfl,rfl⟩) hk1 hw fb hm hst hbot
 | cons it rest =>
  obtain⟨kk,ks,rfl,hi,hrest⟩:=fb.rest
  have fb':FB X φ All nt fn regs rest defers round T ks ds ro:=⟨fb.func,fb.small,fb.size,fb.regs,hrest,fb.dfr,fb.round⟩
  have hk1:itemStep (env X fin) it fn regs rest defers round cs h n K=true:=hK
  cases hi with
  | code c=>exact code_step hP c fb' hw hm hst hbot hk1
  | inBlock id=>exact .inr ⟨_,_,_,φ,w,_,Phi.le_refl _,(hk1:K (.run (.mk fn regs rest defers round) cs) h n=true),.one st_inBlock,⟨nt,T,ks,ds,ro,frs,m,rfl,fb',hm,hst,hbot⟩,hw⟩
  | inLoop c =>
   exact .inr ⟨_,_,_,φ,w,_,Phi.le_refl _,(hk1:K (.run (.mk fn regs (.code (compC X.P X.N nt c)::.inLoop (compC X.P X.N nt c)::rest) defers round) cs) h n=true),.one st_inLoop,
    ⟨nt,T,_,ds,ro,frs,m,rfl,⟨fb.func,fb.small,fb.size,fb.regs,.cons (.code c) (.cons (.inLoop c) hrest),fb.dfr,fb.round⟩,hm,hst,hbot⟩,hw⟩
  | beginRound =>
   cases round with
   | none=>exact Bool.noConfusion (hk1:false=true)
   | some l =>
    obtain⟨p,hp,rfl⟩:=fb.round
    obtain⟨b,hb0,hk2⟩:=blkK_iff.1 (hk1:blkK h l _=true)
    obtain⟨st,pend,fn',regs',ps,asg,body,d,rfl,hk3⟩:=ifLoop_iff.1 hk2
    obtain⟨L,hL,hr,hH⟩:=hw.loop hp hb0
    cases st with
    | ready =>
     have hk4:K (.run (.mk fn regs rest defers (some l)) cs) (hput l (.loop .busy pend fn' regs' ps asg body d) h) n=true:=by
      have:=(hk3:putK l _ h _=true);rwa [putK_eq] at this
     obtain⟨g1,g2⟩:=hw.turn (b':=.loop .busy pend fn' regs' ps asg body d) (o':=.loop { L with state:=.busy }) hp hb0 (by simp) (by simp) hH ⟨_,rfl,hH,⟨rfl,hr.pending,hr.same,hr.code,hr.rr,hr.defers⟩⟩
     exact .inr ⟨_,_,_,φ,_,_,Phi.le_refl _,hk4,.one (st_beginRound hL hr.state),⟨nt,T,ks,ds,some p.blk,frs,m,rfl,fb',hm,hst.grow (g2.b hm) (Nat.le_refl _),hbot⟩,g1⟩
    | busy=>exact Bool.noConfusion (hk3:false=true)
    | done=>exact Bool.noConfusion (hk3:false=true)
    | exhausted=>exact Bool.noConfusion (hk3:false=true)
  | endRF l p hp =>
   obtain⟨b,hb0,hk2⟩:=blkK_iff.1 (hk1:blkK h l _=true)
   obtain⟨st,pend,fn',regs',ps,asg,body,d,rfl,hk3⟩:=ifLoop_iff.1 hk2
   obtain⟨L,hL,hr,hH⟩:=hw.loop hp hb0
   have fin_:(st=.ready\/st=.done)->putK l (.loop .exhausted pend fn' regs' ps asg body d) h (fun h=>Option.casesOn (motive:=fun _=>Bool) pend (K (.run (.mk fn regs rest defers round) cs) h n) fun c=>K (.run (.mk fn regs (.code c::rest) defers round) cs) h n)=true ->
     Nx X fin f0 cs0 φ K (lone (mkF (kdOf cs) fn T (.endRangeFunc p.blk::ks) ds ro) (frs++cs0) w):=by
    intro hst' hk4
    rw [putK_eq] at hk4
    obtain⟨g1,g2⟩:=hw.turn (b':=.loop .exhausted pend fn' regs' ps asg body d) (o':=.loop { L with state:=.exhausted }) hp hb0 (by simp) (by simp) hH ⟨_,rfl,hH,⟨rfl,hr.pending,hr.same,hr.code,hr.rr,hr.defers⟩⟩
    have hstep:=fun pd=>st_endLoop (P:=X.P) (kd:=kdOf cs) (fn:=fn) (T:=T) (k:=ks) (ds:=ds) (ro:=ro) (cs:=frs++cs0) (pend:=pd) hL (by rw [hr.state];exact hst')
    rcases hr.pending with ⟨rfl,e2⟩ |⟨rfl,e2⟩ |⟨id,rfl,e2⟩
    ·exact .inr ⟨_,_,_,φ,_,_,Phi.le_refl _,hk4,.one (hstep _ e2),⟨nt,T,ks,ds,ro,frs,m,rfl,fb',hm,hst.grow (g2.b hm) (Nat.le_refl _),hbot⟩,g1⟩
    ·exact .inr ⟨_,_,_,φ,_,_,Phi.le_refl _,hk4,.one (hstep _ e2),⟨nt,T,_,ds,ro,frs,m,rfl,⟨fb.func,fb.small,fb.size,fb.regs,⟨_,_,rfl,.code .ret,hrest⟩,fb.dfr,fb.round⟩,hm,hst.grow (g2.b hm) (Nat.le_refl _),hbot⟩,g1⟩
    ·exact .inr ⟨_,_,_,φ,_,_,Phi.le_refl _,hk4,.one (hstep _ e2),⟨nt,T,_,ds,ro,frs,m,rfl,⟨fb.func,fb.small,fb.size,fb.regs,⟨_,_,rfl,.code (.exit id),hrest⟩,fb.dfr,fb.round⟩,hm,hst.grow (g2.b hm) (Nat.le_refl _),hbot⟩,g1⟩
   cases st with
   | ready=>exact fin_ (.inl rfl) hk3
   | busy=>exact Bool.noConfusion (hk3:false=true)
   | done=>exact fin_ (.inr rfl) hk3
   | exhausted=>exact Bool.noConfusion (hk3:false=true)
theorem runK_succ (E:Env) (fuel:Nat) (st:St) (h:Hp) (n:Nat):runK E (fuel+1) st h n=stepK E st h n (runK E fuel):=rfl
theorem sim (hP:POk X):∀ (fuel:Nat) (st:St) (h:Hp) (n:Nat) (φ:Phi) (w:World) (M:Machine),runK (env X fin) fuel st h n=true->SR X f0 cs0 φ h n w st M->W X φ h n w->Ends X fin f0 cs0 M
 | 0,st,h,n,φ,w,M,hk,hs,hw=>Bool.noConfusion (hk:false=true)
 | fuel+1,st,h,n,φ,w,M,hk,hs,hw=>by
  rw [runK_succ] at hk
  have hx:Nx X fin f0 cs0 φ (runK (env X fin) fuel) M:=by
   cases st with
   | run f cs=>exact run_step hP hs hw hk
   | ops os f cs=>exact ops_step hP hs hw hk
   | draw ds f cs=>exact draw_step hP hs hw hk
   | give v cs=>exact give_step hs hw hk
   | unw u f cs=>exact unw_step hP hs hw hk
   | raise v cs=>exact raise_step hs hw hk
  rcases hx with hx |⟨st',h',n',φ',w',M',_,h1,h2,h3,h4⟩
  ·exact hx
  ·obtain⟨v,c,φ2,h5,n2,w2,fr,e1,e2,e3,e4,e5⟩:=sim hP fuel st' h' n' φ' w' M' h1 h3 h4
   exact⟨v,c,φ2,h5,n2,w2,fr,e1,e2,e3,h2.trans e4,e5⟩
end
theorem closed_call {P:Program} {N:FuncId->Option Ext} {w:World} (hP:POk ⟨P,N,w⟩) {f:FuncId} {F:Func} {body:Code} (hF:P.funcs[f]?=some F) (hbd:F.body=some body) (hnt:F.ntmps<=256) (hN:∀ g,N (1000000+g)=none) {n:Nat} {fuel:Nat}
  (hk:runK (env ⟨P,N,w⟩ fun v=>ifBool v id) fuel (.run (.mk f .nil [.code (compC P N F.ntmps body)] [] none) []) ⟨.nil,fun _=>none⟩ n=true) :
  Calls P f #[] w fun e w'=>e=.returned (.bool true)/\(∀ b,b < w.heap.size->w'.heap[b]?=w.heap[b]?)/\w.heap.size<=w'.heap.size/\w'.os=w.os/\w'.output=w.output/\w'.tape=w.tape:=by
 intro cs0
 have hw:W ⟨P,N,w⟩ (fun _=>none) ⟨.nil,fun _=>none⟩ n w:=by
  refine⟨by simp,by simp,by simp,fun a h1 h2=>?_,fun _ _=>rfl,Nat.le_refl _,trivial,rfl,rfl,rfl,fun g hg=>absurd (hN g) hg⟩
  unfold hb
  have hnil:∀ d a,hget d a .nil=.nil:=by
   intro d
   induction d with
   | zero=>intro a;rfl
   | succ d ih=>intro a;rw [hget_succ];split<;>exact ih _
  split
  ·rw [hnil]
  ·rfl
 have hs:SR ⟨P,N,w⟩ f cs0 (fun _=>none) ⟨.nil,fun _=>none⟩ n w (.run (.mk f .nil [.code (compC P N F.ntmps body)] [] none) []) (lone (mkF .normal f (Array.replicate F.ntmps undef) [.code body] [] none) ([]++cs0) w):=by
  refine⟨F.ntmps,_,_,[],none,[],n,rfl,⟨⟨F,hF,rfl⟩,hnt,by simp,?_,.cons (.code body) rfl,rfl,rfl⟩,Nat.le_refl _,rfl,fun _=>⟨rfl,rfl⟩⟩
  intro i v _ _ hv
  rw [reg_nil] at hv
  simp at hv
 obtain⟨v,c,φ,h,n',w',fr,e1,e2,e3,e4,e5,e6⟩:=sim (fin:=fun v=>ifBool v id) (f0:=f) (cs0:=cs0) hP fuel _ _ _ _ _ _ hk hs hw
 obtain⟨b,rfl,hb1⟩:=ifBool_iff.1 e1
 obtain rfl:b=true:=hb1
 simp only [VRel] at e2
 subst e2
 refine⟨.returned (.bool true),w',fr,⟨rfl,e3.old,e3.size,e3.os,e3.output,e3.tape⟩,?_,e5,e6⟩
 rw [enter_mkF #[] hF hbd]
 show Steps P _ _
 simpa using e4
end Go.Ev
