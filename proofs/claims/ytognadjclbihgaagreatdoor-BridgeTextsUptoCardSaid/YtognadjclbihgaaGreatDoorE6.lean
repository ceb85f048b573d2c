/- A logic for runs of the interpreter whose values are not all known. -/
import Derived.Test.YtognadjclbihgaaGreatDoorE5
import Derived.IntWalk
set_option linter.all false
namespace Go.Ev
abbrev Post:=St->Hp->Nat->Prop
noncomputable def dec (p:Prop):Bool:=@decide p (Classical.propDecidable p)
theorem dec_iff {p:Prop}:dec p=true ↔ p:=by unfold dec;simp
inductive Wp (E:Env) (Q:Post):St->Hp->Nat->Prop where
 | done {st:St} {h:Hp} {n:Nat}:Q st h n->Wp E Q st h n
 | step {st:St} {h:Hp} {n:Nat} (R:Post):stepK E st h n (fun st h n=>dec (R st h n))=true->(∀ st' h' n',R st' h' n'->Wp E Q st' h' n')->Wp E Q st h n
theorem wp_sim {X:Ctx} {f0:FuncId} {cs0:List Frame} {fin:AV->Bool} (hP:POk X) {Q:Post} {st:St} {h:Hp} {n:Nat} (hwp:Wp (env X fin) Q st h n):∀ {φ:Phi} {w:World} {M:Machine},SR X f0 cs0 φ h n w st M->W X φ h n w ->
  Ends X fin f0 cs0 M\/∃ st' h' n' φ' w' M',φ.le φ'/\Q st' h' n'/\Steps X.P M M'/\SR X f0 cs0 φ' h' n' w' st' M'/\W X φ' h' n' w':=by
 induction hwp with
 | @done st h n hq=>exact fun hs hw=>.inr ⟨st,h,n,_,_,_,Phi.le_refl _,hq,.refl _ _,hs,hw⟩
 | @step st h n R hst hnext ih =>
  intro φ w M hs hw
  have hx:Nx X fin f0 cs0 φ (fun st h n=>dec (R st h n)) M:=by
   cases st with
   | run f cs=>exact run_step hP hs hw hst
   | ops os f cs=>exact ops_step hP hs hw hst
   | draw ds f cs=>exact draw_step hP hs hw hst
   | give v cs=>exact give_step hs hw hst
   | unw u f cs=>exact unw_step hP hs hw hst
   | raise v cs=>exact raise_step hs hw hst
  rcases hx with hx |⟨st',h',n',φ',w',M',h0,h1,h2,h3,h4⟩
  ·exact .inl hx
  ·rcases ih st' h' n' (dec_iff.1 h1) h3 h4 with ⟨v,c,φ2,h5,n2,w2,fr,e1,e2,e3,e4,e5⟩ |⟨st2,h5,n2,φ2,w2,M2,e0,e1,e2,e3,e4⟩
   ·exact .inl ⟨v,c,φ2,h5,n2,w2,fr,e1,e2,e3,h2.trans e4,e5⟩
   ·exact .inr ⟨st2,h5,n2,φ2,w2,M2,Phi.le_trans h0 e0,e1,h2.trans e2,e3,e4⟩
section
variable {E:Env} {Q:Post}
theorem Wp.next {st st':St} {h h':Hp} {n n':Nat} (e:∀ K:Kont,stepK E st h n K=K st' h' n') (hw:Wp E Q st' h' n'):Wp E Q st h n :=
 .step (fun a b c=>a=st'/\b=h'/\c=n') (by rw [e];exact dec_iff.2 ⟨rfl,rfl,rfl⟩) (by rintro _ _ _ ⟨rfl,rfl,rfl⟩;exact hw)
def look:List (Path × AV)->Path->Option AV
 | [],_=>none
 |(q,v)::r,p=>match q.beq p with
  | true=>some v
  | false=>look r p
def lookX (R:List (Path × AV)):CX->Option AV
 | .r p=>look R p
 | .c v=>some v
def lookXs (R:List (Path × AV)):List CX->Option (List AV)
 | []=>some []
 | x::xs=>match lookX R x,lookXs R xs with
  | some v,some vs=>some (v::vs)
  | _,_=>none
def RegIs (t:Tr) (R:List (Path × AV)):Prop:=∀ p v,look R p=some v->getP p t=.leaf v/\p.len=depth
def putL (R:List (Path × AV)) (d:Option Path) (v:AV):List (Path × AV):=match d with
 | some p=>(p,v)::R
 | none=>R
def dstOk (d:Option Path):Bool:=match d with
 | some p=>Nat.beq p.len depth
 | none=>true
theorem RegIs.put {t:Tr} {R:List (Path × AV)} (h:RegIs t R) (d:Option Path) (hd:dstOk d=true) (v:AV):RegIs (putR t d v) (putL R d v):=by
 cases d with
 | none=>exact h
 | some p =>
  have hl:p.len=depth:=Nat.eq_of_beq_eq_true hd
  intro q u hu
  simp only [putL,look] at hu
  cases hb:p.beq q with
  | true =>
   rw [hb] at hu
   simp at hu;subst hu
   rw [Path.beq_iff.1 hb] at hl ⊢
   exact⟨getP_setP_same _ _ _,hl⟩
  | false =>
   rw [hb] at hu
   obtain⟨h1,h2⟩:=h q u hu
   refine⟨?_,h2⟩
   have hne:p≠q:=fun e=>by rw [Path.beq_iff.2 e] at hb;simp at hb
   rw [show putR t (some p) v=setP p v t from rfl,getP_setP_ne _ _ _ _ (by rw [hl,h2]) hne]
   exact h1
theorem RegIs.sub {t:Tr} {R R':List (Path × AV)} (h:RegIs t R) (hs:∀ p v,look R' p=some v->look R p=some v):RegIs t R':=fun p v hv=>h p v (hs p v hv)
theorem lookX_val {t:Tr} {R:List (Path × AV)} (h:RegIs t R) {x:CX} {v:AV} (hv:lookX R x=some v):x.val t=some v:=by
 cases x with
 | r p=>simp only [CX.val,(h p v hv).1]
 | c u=>exact hv
theorem lookXs_vals {t:Tr} {R:List (Path × AV)} (h:RegIs t R):∀ {xs:List CX} {vs:List AV},lookXs R xs=some vs->vals xs t=some vs
 | [],vs,hv=>hv
 | x::xs,vs,hv=>by
  simp only [lookXs] at hv
  split at hv
  ·rename_i v vs' h1 h2
   simp at hv;subst hv
   simp only [vals,lookX_val h h1,lookXs_vals h h2]
  ·simp at hv
theorem look_sub:∀ {R R':List (Path × AV)},(∀ x ∈ R',look R x.1=some x.2)->∀ p v,look R' p=some v->look R p=some v
 | R,[],h,p,v,hv=>by simp [look] at hv
 | R,x::R',h,p,v,hv=>by
  simp only [look] at hv
  split at hv
  ·rename_i hb
   simp at hv;subst hv
   rw [<- Path.beq_iff.1 hb]
   exact h x (by simp)
  ·exact look_sub (fun y hy=>h y (List.mem_cons_of_mem _ hy)) p v hv
structure Fr where
 f:FuncId
 d:List Df
 r:Option Nat
instance (k:Nat):OfNat Fr k:=⟨⟨k,[],none⟩⟩
structure SW (E:Env) (Q:Post) (fn:Fr) (R:List (Path × AV)) (todo:List AItem) (cs:List AF) (h:Hp) (n:Nat):Prop where
 run:∀ t,RegIs t R->Wp E Q (.run (.mk fn.f t todo fn.d fn.r) cs) h n
inductive Md where
 | ops
 | draw (rc:List COp) (ds:List DStep)
def attach (rc:List COp):List COp->List DStep
 | []=>[]
 | [c]=>[⟨c,rc⟩]
 | c::c'::os=>⟨c,[]⟩::attach rc (c'::os)
theorem attach_nil:∀ os:List COp,attach [] os=os.map fun c=>⟨c,[]⟩
 | []=>rfl
 | [c]=>rfl
 | c::c'::os=>by simp only [attach,attach_nil (c'::os),List.map_cons]
def goesOn (E:Env) (Q:Post) (md:Md) (os:List COp) (fn:Fr) (t:Tr) (todo:List AItem) (cs:List AF) (h:Hp) (n:Nat):Prop:=match md with
 | .ops=>Wp E Q (.ops os (.mk fn.f t todo fn.d fn.r) cs) h n
 | .draw rc ds=>match os with
  | []=>(∀ k,recheckK rc t h n k=k)/\Wp E Q (.draw ds (.mk fn.f t todo fn.d fn.r) cs) h n
  | c::os=>Wp E Q (.draw (attach rc (c::os)++ds) (.mk fn.f t todo fn.d fn.r) cs) h n
structure SO (E:Env) (Q:Post) (fn:Fr) (md:Md) (R:List (Path × AV)) (os:List COp) (todo:List AItem) (cs:List AF) (h:Hp) (n:Nat):Prop where
 run:∀ t,RegIs t R->goesOn E Q md os fn t todo cs h n
variable {fn:Fr} {md:Md} {R:List (Path × AV)} {todo:List AItem} {cs:List AF} {h:Hp} {n:Nat}
theorem SW.sub {R':List (Path × AV)} (hs:∀ x ∈ R',look R x.1=some x.2) (hw:SW E Q fn R' todo cs h n):SW E Q fn R todo cs h n:=.mk fun t ht=>hw.run t (ht.sub (look_sub hs))
theorem SW.skip (hw:SW E Q fn R todo cs h n):SW E Q fn R (.code .skip::todo) cs h n:=.mk fun t ht=>.next (fun _=>rfl) (hw.run t ht)
theorem SW.seq {a b:CC} (hw:SW E Q fn R (.code a::.code b::todo) cs h n):SW E Q fn R (.code (.seq a b)::todo) cs h n:=.mk fun t ht=>.next (fun _=>rfl) (hw.run t ht)
theorem SW.block {id:Nat} {c:CC} (hw:SW E Q fn R (.code c::.inBlock id::todo) cs h n):SW E Q fn R (.code (.block id c)::todo) cs h n:=.mk fun t ht=>.next (fun _=>rfl) (hw.run t ht)
theorem SW.loop {c:CC} (hw:SW E Q fn R (.code c::.inLoop c::todo) cs h n):SW E Q fn R (.code (.loop c)::todo) cs h n:=.mk fun t ht=>.next (fun _=>rfl) (hw.run t ht)
theorem SW.again {c:CC} (hw:SW E Q fn R (.code c::.inLoop c::todo) cs h n):SW E Q fn R (.inLoop c::todo) cs h n:=.mk fun t ht=>.next (fun _=>rfl) (hw.run t ht)
theorem SW.out {id:Nat} (hw:SW E Q fn R todo cs h n):SW E Q fn R (.inBlock id::todo) cs h n:=.mk fun t ht=>.next (fun _=>rfl) (hw.run t ht)
theorem SW.reg {os:List COp} (hw:SO E Q fn .ops R os todo cs h n):SW E Q fn R (.code (.reg os)::todo) cs h n:=.mk fun t ht=>.next (fun _=>rfl) (hw.run t ht)
theorem SW.drawO {ds:List DStep} (hds:ds=(ds.map DStep.op).map fun c=>⟨c,[]⟩) (hw:SO E Q fn (.draw [] []) R (ds.map DStep.op) todo cs h n):SW E Q fn R (.code (.draw ds)::todo) cs h n:=.mk fun t ht=>.next (fun _=>rfl) (by
 have h1:=hw.run t ht
 show Wp E Q (.draw ds (.mk fn.f t todo fn.d fn.r) cs) h n
 rw [hds]
 cases hc:ds.map DStep.op with
 | nil=>rw [hc] at h1;exact h1.2
 | cons c os =>
  rw [hc] at h1
  have h2:Wp E Q (.draw (attach [] (c::os)++[]) (.mk fn.f t todo fn.d fn.r) cs) h n:=h1
  rw [attach_nil,List.append_nil] at h2
  exact h2)
def gOps:List DStep->List COp
 | []=>[]
 |⟨c,[]⟩::ds=>c::gOps ds
 |⟨c,_::_⟩::_=>[c]
def gRc:List DStep->List COp
 | []=>[]
 |⟨_,[]⟩::ds=>gRc ds
 |⟨_,r::rc⟩::_=>r::rc
def gTail:List DStep->List DStep
 | []=>[]
 |⟨_,[]⟩::ds=>gTail ds
 |⟨_,_::_⟩::ds=>ds
theorem g_eq:∀ ds:List DStep,((gOps ds=[]/\ds=[])\/(∃ c os,gOps ds=c::os))/\attach (gRc ds) (gOps ds)++gTail ds=ds
 | []=>⟨.inl ⟨rfl,rfl⟩,rfl⟩
 |⟨c,[]⟩::ds=>by
  obtain⟨h1,h2⟩:=g_eq ds
  refine⟨.inr ⟨c,gOps ds,rfl⟩,?_⟩
  simp only [gOps,gRc,gTail]
  rcases h1 with ⟨h1,rfl⟩ |⟨c',os,h1⟩
  ·rfl
  ·rw [h1] at h2 ⊢
   simp only [attach,List.cons_append,h2]
 |⟨c,r::rc⟩::ds=>⟨.inr ⟨c,[],rfl⟩,rfl⟩
theorem SO.toDraw {ds:List DStep} (hw:SO E Q fn (.draw (gRc ds) (gTail ds)) R (gOps ds) todo cs h n):∀ t,RegIs t R->Wp E Q (.draw ds (.mk fn.f t todo fn.d fn.r) cs) h n:=by
 intro t ht
 have h1:=hw.run t ht
 obtain⟨⟨h2,rfl⟩ |⟨c,os,h2⟩,h3⟩:=g_eq ds
 ·exact h1.2
 ·rw [h2] at h1 h3
  have h4:Wp E Q (.draw (attach (gRc ds) (c::os)++gTail ds) (.mk fn.f t todo fn.d fn.r) cs) h n:=h1
  rw [h3] at h4
  exact h4
theorem SW.drawG {ds:List DStep} (hw:SO E Q fn (.draw (gRc ds) (gTail ds)) R (gOps ds) todo cs h n):SW E Q fn R (.code (.draw ds)::todo) cs h n:=.mk fun t ht=>.next (fun _=>rfl) (hw.toDraw t ht)
theorem SW.exit {id:Nat} {todo':List AItem} (he:exitA id todo=some todo') (hw:SW E Q fn R todo' cs h n):SW E Q fn R (.code (.exit id)::todo) cs h n:=.mk fun t ht=>.next (fun K=>by
 show codeStep E (.exit id) fn.f t todo fn.d fn.r cs h n K=_
 unfold codeStep
 simp only
 rw [he]) (hw.run t ht)
theorem SW.cond {x:CX} {a b:CC} {c:Bool} (hx:lookX R x=some (.bool c)) (ht:c=true->SW E Q fn R (.code a::todo) cs h n) (hf:c=false->SW E Q fn R (.code b::todo) cs h n):SW E Q fn R (.code (.cond x a b)::todo) cs h n:=.mk fun t hr=>by
 have hv:=lookX_val hr hx
 have key:∀ K:Kont,stepK E (.run (.mk fn.f t (.code (.cond x a b)::todo) fn.d fn.r) cs) h n K=Bool.rec (motive:=fun _=>Bool) (K (.run (.mk fn.f t (.code b::todo) fn.d fn.r) cs) h n) (K (.run (.mk fn.f t (.code a::todo) fn.d fn.r) cs) h n) c:=by
  intro K
  show rd x t _=_
  cases x with
  | r p =>
   simp only [CX.val] at hv
   cases hg:getP p t<;>rw [hg] at hv<;>simp at hv
   subst hv
   rw [rd_r,hg];rfl
  | c u=>simp [CX.val] at hv;subst hv;rfl
 cases c with
 | true=>exact .next key ((ht rfl).run t hr)
 | false=>exact .next key ((hf rfl).run t hr)
theorem SO.nil (hw:SW E Q fn R todo cs h n):SO E Q fn .ops R [] todo cs h n:=.mk fun t ht=>.next (fun _=>rfl) (hw.run t ht)
theorem SO.nilD (hw:SW E Q fn R todo cs h n):SO E Q fn (.draw [] []) R [] todo cs h n:=.mk fun t ht=>⟨fun _=>rfl,.next (fun _=>rfl) (hw.run t ht)⟩
theorem rds_val {xs:List CX} {t:Tr} {vs:List AV} (hv:vals xs t=some vs) (k:List AV->Bool):rds xs t k=k vs:=by
 rw [Bool.eq_iff_iff,rds_iff,hv];simp
def wantB (R:List (Path × AV)) (g:Option (Path × Bool)):Bool:=match g with
 | none=>true
 | some (p,b)=>match look R p with
  | some (.bool c)=>c == b
  | _=>false
theorem want_yes {t:Tr} (ht:RegIs t R) {g:Option (Path × Bool)} (hg:wantB R g=true) (yes no:Bool):wantK g t yes no=yes:=by
 cases g with
 | none=>rfl
 | some pb =>
  obtain⟨p,b⟩:=pb
  simp only [wantB] at hg
  split at hg
  ·rename_i c hc
   have:c=b:=by simpa using hg
   subst this
   rw [Bool.eq_iff_iff,wantK_iff]
   constructor
   ·rintro (⟨h2,_⟩ |⟨p',b',v',h2,h3,⟨_,h4⟩ |⟨h4,_⟩⟩)
    ·simp at h2
    ·exact h4
    ·simp only [Option.some.injEq,Prod.mk.injEq] at h2
     obtain⟨rfl,rfl⟩:=h2
     rw [(ht p _ hc).1] at h3
     simp at h3
     exact absurd h3.symm h4
   ·exact fun h2=>.inr ⟨p,c,_,rfl,(ht p _ hc).1,.inl ⟨rfl,h2⟩⟩
  ·simp at hg
def wantN (R:List (Path × AV)) (g:Option (Path × Bool)):Bool:=match g with
 | none=>false
 | some (p,b)=>match look R p with
  | some (.bool c)=>c != b
  | some (.tup _)=>true
  | _=>false
theorem want_no {t:Tr} (ht:RegIs t R) {g:Option (Path × Bool)} (hg:wantN R g=true) (yes no:Bool):wantK g t yes no=no:=by
 cases g with
 | none=>simp [wantN] at hg
 | some pb =>
  obtain⟨p,b⟩:=pb
  obtain⟨v,hv,hne⟩:∃ v,look R p=some v/\v≠.bool b:=by
   simp only [wantN] at hg
   split at hg
   ·rename_i c hc
    exact⟨_,hc,by simpa using hg⟩
   ·rename_i c hc
    exact⟨_,hc,by simp⟩
   ·simp at hg
  rw [Bool.eq_iff_iff,wantK_iff]
  constructor
  ·rintro (⟨h1,_⟩ |⟨p',b',v',h1,h2,⟨h3,_⟩ |⟨_,h4⟩⟩)
   ·simp at h1
   ·simp only [Option.some.injEq,Prod.mk.injEq] at h1
    obtain⟨rfl,rfl⟩:=h1
    rw [(ht p v hv).1] at h2
    simp at h2
    exact absurd (h2.trans h3) hne
   ·exact h4
  ·exact fun h4=>.inr ⟨p,b,v,rfl,(ht p v hv).1,.inr ⟨hne,h4⟩⟩
theorem spec_none {oc:OC} {vs:List AV} (hx:∃ K:KS,execV oc vs h n K=true) (no a b c:Bool):specK oc no a b c=no:=by
 obtain⟨K,hx⟩:=hx
 rcases spec_cases oc with rfl|rfl|rfl |⟨_,h1⟩
 ·exact Bool.noConfusion (hx:false=true)
 ·exact Bool.noConfusion (hx:false=true)
 ·exact Bool.noConfusion (hx:false=true)
 ·exact h1 _ _ _ _
noncomputable def KS.yes:KS:=⟨fun _ _ _=>true,fun _ _ _ _=>true,fun _ _ _ _=>true,fun _ _=>none⟩
theorem SO.op {c:COp} {os:List COp} {vs:List AV} {v:AV} {h':Hp} {n':Nat} (hg:wantB R c.guard=true) (hd:dstOk c.dst=true) (hv:lookXs R c.xs=some vs) (hx:∀ K,execV c.k vs h n K=K.v v h' n')
  (hw:SO E Q fn md (putL R c.dst v) os todo cs h' n'):SO E Q fn md R (c::os) todo cs h n:=.mk fun t ht=>by
 have hw':=hw.run _ (ht.put _ hd v)
 cases md with
 | ops =>
  refine Wp.next (fun K=>?_) hw'
  show stOps E (c::os) (.mk fn.f t todo fn.d fn.r) cs h n K=_
  rw [stOps_cons,want_yes ht hg,rds_val (lookXs_vals ht hv),spec_none ⟨KS.yes,hx KS.yes⟩,hx]
  dsimp only
  rw [putD_eq]
 | draw rc ds =>
  cases os with
  | nil =>
   refine Wp.next (fun K=>?_) hw'.2
   show stDraw E (⟨c,rc⟩::ds) (.mk fn.f t todo fn.d fn.r) cs h n K=_
   rw [stDraw_cons,want_yes ht hg,rds_val (lookXs_vals ht hv),hx]
   dsimp only
   rw [putD_eq,hw'.1]
  | cons c' os' =>
   refine Wp.next (fun K=>?_) hw'
   show stDraw E (⟨c,[]⟩::(attach rc (c'::os')++ds)) (.mk fn.f t todo fn.d fn.r) cs h n K=_
   rw [stDraw_cons,want_yes ht hg,rds_val (lookXs_vals ht hv),hx]
   dsimp only
   rw [putD_eq]
   rfl
theorem SO.no {c:COp} {os:List COp} (hg:wantN R c.guard=true) (hd:dstOk c.dst=true) (hw:SO E Q fn md (putL R c.dst undefA) os todo cs h n):SO E Q fn md R (c::os) todo cs h n:=.mk fun t ht=>by
 have hw':=hw.run _ (ht.put _ hd undefA)
 cases md with
 | ops =>
  refine Wp.next (fun K=>?_) hw'
  show stOps E (c::os) (.mk fn.f t todo fn.d fn.r) cs h n K=_
  rw [stOps_cons,want_no ht hg,putD_eq]
 | draw rc ds =>
  cases os with
  | nil =>
   refine Wp.next (fun K=>?_) hw'.2
   show stDraw E (⟨c,rc⟩::ds) (.mk fn.f t todo fn.d fn.r) cs h n K=_
   rw [stDraw_cons,want_no ht hg,putD_eq]
  | cons c' os' =>
   refine Wp.next (fun K=>?_) hw'
   show stDraw E (⟨c,[]⟩::(attach rc (c'::os')++ds)) (.mk fn.f t todo fn.d fn.r) cs h n K=_
   rw [stDraw_cons,want_no ht hg,putD_eq]
def Still (R:List (Path × AV)) (rc:List COp) (h:Hp):Prop:=∀ c ∈ rc,wantN R c.guard=true\/(wantB R c.guard=true/\∃ p vs v,c.dst=some p/\look R p=some v/\lookXs R c.xs=some vs/\∀ n K,execV c.k vs h n K=K.v v h n)
mutual
theorem AV.beq_self:(a:AV)->AV.beq a a=true
 | .bool a=>by simp [AV.beq]
 | .int k n=>by simp [AV.beq,kindEq_iff]
 | .str l c=>by simp [AV.beq]
 | .ptr l c=>by simp [AV.beq]
 | .nilp=>rfl
 | .slc x y z u=>by simp [AV.beq]
 | .gsl x y z u=>by simp [AV.beq]
 | .nils=>rfl
 | .map x=>by simp [AV.beq]
 | .nilm=>rfl
 | .fn f x y=>by simp [AV.beq,AV.beqs_self x,AV.beqs_self y]
 | .yld x=>by simp [AV.beq]
 | .nilf=>rfl
 | .ifc t x=>by simp [AV.beq,AV.beq_self x]
 | .nili=>rfl
 | .agg x=>by simp [AV.beq,AV.beqs_self x]
 | .tup x=>by simp [AV.beq,AV.beqs_self x]
theorem AV.beqs_self:(a:List AV)->AV.beqs a a=true
 | []=>rfl
 | a::as=>by simp [AV.beqs,AV.beq_self a,AV.beqs_self as]
end
theorem Still.nil:Still R [] h:=fun _ hc=>by simp at hc
theorem Still.cons {c:COp} {rc:List COp} {p:Path} {vs:List AV} {v:AV} (hg:wantB R c.guard=true) (hd:c.dst=some p) (hp:look R p=some v) (hv:lookXs R c.xs=some vs) (hx:∀ n K,execV c.k vs h n K=K.v v h n) (hs:Still R rc h):Still R (c::rc) h:=by
 intro d hd'
 rcases List.mem_cons.1 hd' with rfl|hd'
 ·exact .inr ⟨hg,p,vs,v,hd,hp,hv,hx⟩
 ·exact hs d hd'
theorem still_run {t:Tr} (ht:RegIs t R):∀ {rc:List COp},Still R rc h->∀ k,recheckK rc t h n k=k
 | [],_,k=>rfl
 | c::rc,hs,k=>by
  have ih:=still_run ht (rc:=rc) (fun d hd=>hs d (List.mem_cons_of_mem _ hd)) k
  rw [recheckK_cons]
  rcases hs c (by simp) with h1 |⟨h1,p,vs,v,h2,h3,h4,h5⟩
  ·rw [want_no ht h1,ih]
  ·rw [want_yes ht h1,rds_val (lookXs_vals ht h4),h5]
   dsimp only
   rw [h2]
   show leafK (getP p t) _=_
   rw [(ht p v h3).1]
   show guardB (AV.beq v v) _=_
   rw [AV.beq_self,ih]
   rfl
def Fn (E:Env) (g:FuncId) (args:List AV) (h:Hp) (n:Nat) (P:AV->Hp->Nat->Prop):Prop :=
 ∃ ps rs body,E.func g=some ⟨ps,rs,body⟩/\ps.length=args.length/\∀ (Q:Post) (cs:List AF),(∀ v h' n',P v h' n'->Wp E Q (.give v cs) h' n')->Wp E Q (.run (.mk g (setAll ps args .nil) [.code body] [] none) cs) h n
theorem enter_eq {g:FuncId} {args:List AV} {ps:List Path} {rs:List CR} {body:CC} (hf:E.func g=some ⟨ps,rs,body⟩) (hl:ps.length=args.length) (f:AF) (K:Kont):enterK E g args f cs h n K=K (.run (.mk g (setAll ps args .nil) [.code body] [] none) (f::cs)) h n:=by
 unfold enterK
 rw [hf]
 show setsK ps args .nil _=_
 rw [Bool.eq_iff_iff,setsK_iff]
 simp [hl]
theorem SO.call {c:COp} {os:List COp} {g:FuncId} {args:List AV} {P:AV->Hp->Nat->Prop} (hg:wantB R c.guard=true) (hd:dstOk c.dst=true) (hv:lookXs R c.xs=some args) (hx:∀ K,execV c.k args h n K=K.call g args h n) (hf:Fn E g args h n P)
  (hw:∀ v h' n',P v h' n'->SO E Q fn md (putL R c.dst v) os todo cs h' n'):SO E Q fn md R (c::os) todo cs h n:=.mk fun t ht=>by
 obtain⟨ps,rs,body,h1,h2,h3⟩:=hf
 cases md with
 | ops =>
  refine Wp.next (fun K=>?_) (h3 Q (.mk fn.f t (.inReg c.dst os::todo) fn.d fn.r::cs) fun v h' n' hp=>.next (fun K=>?_) ((hw v h' n' hp).run _ (ht.put _ hd v)))
  ·show stOps E (c::os) (.mk fn.f t todo fn.d fn.r) cs h n K=_
   rw [stOps_cons,want_yes ht hg,rds_val (lookXs_vals ht hv),spec_none ⟨KS.yes,hx KS.yes⟩,hx]
   dsimp only
   rw [enter_eq h1 h2]
  ·show putD c.dst v t (fun regs=>K (.ops os (.mk fn.f regs todo fn.d fn.r) cs) h' n')=_
   rw [putD_eq]
 | draw rc ds =>
  cases os with
  | nil =>
   refine Wp.next (fun K=>?_) (h3 Q (.mk fn.f t (.inDraw c.dst rc ds::todo) fn.d fn.r::cs) fun v h' n' hp=>.next (fun K=>?_) ((hw v h' n' hp).run _ (ht.put _ hd v)).2)
   ·show stDraw E (⟨c,rc⟩::ds) (.mk fn.f t todo fn.d fn.r) cs h n K=_
    rw [stDraw_cons,want_yes ht hg,rds_val (lookXs_vals ht hv),hx]
    dsimp only
    rw [enter_eq h1 h2]
   ·show putD c.dst v t (fun regs=>recheckK rc regs h' n' (K (.draw ds (.mk fn.f regs todo fn.d fn.r) cs) h' n'))=_
    rw [putD_eq,((hw v h' n' hp).run _ (ht.put _ hd v)).1]
  | cons c' os' =>
   refine Wp.next (fun K=>?_) (h3 Q (.mk fn.f t (.inDraw c.dst [] (attach rc (c'::os')++ds)::todo) fn.d fn.r::cs) fun v h' n' hp=>.next (fun K=>?_) ((hw v h' n' hp).run _ (ht.put _ hd v)))
   ·show stDraw E (⟨c,[]⟩::(attach rc (c'::os')++ds)) (.mk fn.f t todo fn.d fn.r) cs h n K=_
    rw [stDraw_cons,want_yes ht hg,rds_val (lookXs_vals ht hv),hx]
    dsimp only
    rw [enter_eq h1 h2]
   ·show putD c.dst v t (fun regs=>recheckK [] regs h' n' (K (.draw (attach rc (c'::os')++ds) (.mk fn.f regs todo fn.d fn.r) cs) h' n'))=_
    rw [putD_eq]
    rfl
theorem SO.more {rc:List COp} {ds:List DStep} (hs:Still R rc h) (hw:SO E Q fn (.draw (gRc ds) (gTail ds)) R (gOps ds) todo cs h n):SO E Q fn (.draw rc ds) R [] todo cs h n:=.mk fun t ht=>⟨fun k=>still_run ht hs k,hw.toDraw t ht⟩
def resA (R:List (Path × AV)) (h:Hp):CR->(AV->Prop)->Prop
 | .tmp p,k=>∃ v,look R p=some v/\k v
 | .cellC p,k=>∃ a o vs v,look R p=some (.ptr a o)/\ReadableIs h a vs/\vs[o]?=some v/\k v
 | .cellA m p,k=>∃ a o vs,look R p=some (.ptr a o)/\ReadableIs h a vs/\o+m<=vs.length/\k (.agg ((vs.drop o).take m))
def resAs (R:List (Path × AV)) (h:Hp):List CR->(List AV->Prop)->Prop
 | [],k=>k []
 | r::rs,k=>resA R h r fun v=>resAs R h rs fun vs=>k (v::vs)
theorem readable_eq {a:Nat} {vs:List AV} (hr:ReadableIs h a vs) (k:List AV->Bool):readable h a k=k vs:=by
 have blk_eq:∀ {a b} (k:AB->Bool),hb h a=some b->blkK h a k=k b:=fun {a b} k e=>by
  rw [Bool.eq_iff_iff,blkK_iff,e];simp
 unfold readable
 rcases hr with ⟨e,ro,hr⟩ |⟨e,f,z,hr,lo,la,hf,hl⟩|hr
 ·rw [blk_eq _ hr]
 ·rw [blk_eq _ hr]
  show blkK h f _=_
  rw [blk_eq _ hf]
  show guardB (Nat.ble lo a) (k vs)=_
  rw [Nat.ble_eq_true_of_le hl];rfl
 ·rw [blk_eq _ hr]
theorem loadN_eq {a q m:Nat} {vs:List AV} (hr:ReadableIs h a vs) (hl:q+m<=vs.length) (k:List AV->Bool):loadN h a q m k=k ((vs.drop q).take m):=by
 unfold loadN
 rw [readable_eq hr,dropK_eq]
 rw [Bool.eq_iff_iff,takeK_iff]
 simp
 intro _;omega
theorem resultK_eq {t:Tr} (ht:RegIs t R) {r:CR} {k:AV->Prop} (hr:resA R h r k):∃ v,k v/\∀ K,resultK r t h K=K v:=by
 cases r with
 | tmp p =>
  obtain⟨v,h1,h2⟩:=hr
  exact⟨v,h2,fun K=>by show leafK (getP p t) K=_;rw [(ht p v h1).1];rfl⟩
 | cellC p =>
  obtain⟨a,o,vs,v,h1,h2,h3,h4⟩:=hr
  refine⟨v,h4,fun K=>?_⟩
  show leafK (getP p t) _=_
  rw [(ht p _ h1).1]
  show loadN h a o 1 _=_
  have hlt:o < vs.length:=by rw [List.getElem?_eq_some_iff] at h3;exact h3.1
  rw [loadN_eq h2 (by omega)]
  have:(vs.drop o).take 1=[v]:=by
   rw [List.getElem?_eq_some_iff] at h3
   obtain⟨h5,h6⟩:=h3
   rw [List.drop_eq_getElem_cons h5,h6]
   rfl
  rw [this];rfl
 | cellA m p =>
  obtain⟨a,o,vs,h1,h2,h3,h4⟩:=hr
  refine⟨_,h4,fun K=>?_⟩
  show leafK (getP p t) _=_
  rw [(ht p _ h1).1]
  show loadN h a o m _=_
  rw [loadN_eq h2 h3]
theorem resultsK_eq {t:Tr} (ht:RegIs t R):∀ {rs:List CR} {k:List AV->Prop},resAs R h rs k->∃ vs,k vs/\∀ K,resultsK rs t h K=K vs
 | [],k,hr=>⟨[],hr,fun _=>rfl⟩
 | r::rs,k,hr=>by
  obtain⟨v,h1,h2⟩:=resultK_eq ht hr
  obtain⟨vs,h3,h4⟩:=resultsK_eq ht h1
  exact⟨v::vs,h3,fun K=>by rw [results_cons,h2,h4]⟩
def packA:List AV->AV
 | [v]=>v
 | vs=>.tup vs
theorem packK_eq (vs:List AV) (k:AV->Bool):packK vs k=k (packA vs):=by
 match vs with
 | []=>rfl
 | [v]=>rfl
 | v::u::vs=>rfl
theorem SW.retG {gf:FuncId} {ps:List Path} {rs:List CR} {body:CC} (hf:E.func gf=some ⟨ps,rs,body⟩) (hr:resAs R h rs fun vs=>Wp E Q (.give (packA vs) cs) h n):(∀ todo,SW E Q ⟨gf,[],none⟩ R (.code .ret::todo) cs h n)/\SW E Q ⟨gf,[],none⟩ R [] cs h n:=by
 have key:∀ t,RegIs t R->∃ v,Wp E Q (.give v cs) h n/\∀ todo jump K,leaveK E (.mk gf t todo [] none) cs jump h n K=K (.give v cs) h n:=by
  intro t ht
  obtain⟨vs,h1,h2⟩:=resultsK_eq ht hr
  refine⟨_,h1,fun todo jump K=>?_⟩
  show (Option.casesOn (motive:=fun _=>Bool) (E.func gf) false fun cf=>CF.casesOn (motive:=fun _=>Bool) cf fun _ rs _=>resultsK rs t h fun vs=>packK vs fun v=>K (.give v cs) h n)=_
  rw [hf]
  show resultsK rs t h _=_
  rw [h2,packK_eq]
 constructor
 ·intro todo
  refine⟨fun t ht=>?_⟩
  obtain⟨v,h1,h2⟩:=key t ht
  exact .next (fun K=>h2 todo (some .ret) K) h1
 ·refine⟨fun t ht=>?_⟩
  obtain⟨v,h1,h2⟩:=key t ht
  exact .next (fun K=>h2 [] none K) h1
theorem SW.ret {gf:FuncId} {ps:List Path} {rs:List CR} {body:CC} (hf:E.func gf=some ⟨ps,rs,body⟩) (hr:resAs R h rs fun vs=>Wp E Q (.give (packA vs) cs) h n):SW E Q ⟨gf,[],none⟩ R (.code .ret::todo) cs h n:=(SW.retG hf hr).1 todo
theorem SW.fin {gf:FuncId} {ps:List Path} {rs:List CR} {body:CC} (hf:E.func gf=some ⟨ps,rs,body⟩) (hr:resAs R h rs fun vs=>Wp E Q (.give (packA vs) cs) h n):SW E Q ⟨gf,[],none⟩ R [] cs h n:=(SW.retG hf hr).2
theorem RegIs.first {m:Nat} {args:List AV} (hm:m<=256) (hl:args.length=m):RegIs (setAll (firstPaths m) args .nil) ((firstPaths m).zip args):=by
 intro p v hv
 have key:∀ (l:List Nat) (as:List AV),look ((l.map (pathOf depth)).zip as) p=some v->∃ (i k:Nat),l[k]?=some i/\p=pathOf depth i/\as[k]?=some v:=by
  intro l
  induction l with
  | nil=>intro as h;simp [look] at h
  | cons i l ih =>
   intro as h
   cases as with
   | nil=>simp [look] at h
   | cons a as =>
    simp only [List.map_cons,List.zip_cons_cons,look] at h
    split at h
    ·rename_i hb
     simp at h;subst h
     exact⟨i,0,rfl,(Path.beq_iff.1 hb).symm,rfl⟩
    ·obtain⟨i',k,h1,h2,h3⟩:=ih as h
     exact⟨i',k+1,by simpa using h1,h2,by simpa using h3⟩
 obtain⟨i,k,h1,rfl,h3⟩:=key (List.range m) args hv
 have hkm:k < m:=by
  rw [List.getElem?_eq_some_iff] at h1
  simpa using h1.1
 have hik:i=k:=by
  rw [List.getElem?_range hkm] at h1
  simpa using h1.symm
 subst hik
 refine⟨?_,pathOf_len _ _⟩
 rw [<- reg_eq]
 unfold firstPaths
 rw [List.range_eq_range',setAll_first m 0 args .nil i hl (by omega) (by omega),if_pos (by omega),Nat.sub_zero]
 exact h3
theorem Fn.of {g m:Nat} {args:List AV} {rs:List CR} {body:CC} {P:AV->Hp->Nat->Prop} (hf:E.func g=some ⟨firstPaths m,rs,body⟩) (hm:m<=256) (hl:args.length=m)
  (hw:∀ (Q:Post) (cs:List AF),(∀ v h' n',P v h' n'->Wp E Q (.give v cs) h' n')->SW E Q ⟨g,[],none⟩ ((firstPaths m).zip args) [.code body] cs h n):Fn E g args h n P :=
 ⟨_,_,_,hf,by simp [firstPaths,hl],fun Q cs hq=>(hw Q cs hq).run _ (RegIs.first hm hl)⟩
end
abbrev r0:Path:=.a (.a (.a (.a .e)))
abbrev r1:Path:=.b (.a (.a (.a .e)))
abbrev r2:Path:=.c (.a (.a (.a .e)))
abbrev r3:Path:=.d (.a (.a (.a .e)))
abbrev r4:Path:=.a (.b (.a (.a .e)))
abbrev r5:Path:=.b (.b (.a (.a .e)))
abbrev r6:Path:=.c (.b (.a (.a .e)))
abbrev r7:Path:=.d (.b (.a (.a .e)))
abbrev r8:Path:=.a (.c (.a (.a .e)))
abbrev r9:Path:=.b (.c (.a (.a .e)))
abbrev r10:Path:=.c (.c (.a (.a .e)))
abbrev r11:Path:=.d (.c (.a (.a .e)))
abbrev r12:Path:=.a (.d (.a (.a .e)))
abbrev r13:Path:=.b (.d (.a (.a .e)))
abbrev r14:Path:=.c (.d (.a (.a .e)))
abbrev r15:Path:=.d (.d (.a (.a .e)))
abbrev r16:Path:=.a (.a (.b (.a .e)))
abbrev r17:Path:=.b (.a (.b (.a .e)))
abbrev r18:Path:=.c (.a (.b (.a .e)))
abbrev r19:Path:=.d (.a (.b (.a .e)))
abbrev r20:Path:=.a (.b (.b (.a .e)))
abbrev r21:Path:=.b (.b (.b (.a .e)))
abbrev r22:Path:=.c (.b (.b (.a .e)))
abbrev r23:Path:=.d (.b (.b (.a .e)))
abbrev r24:Path:=.a (.c (.b (.a .e)))
abbrev r25:Path:=.b (.c (.b (.a .e)))
abbrev r26:Path:=.c (.c (.b (.a .e)))
abbrev r27:Path:=.d (.c (.b (.a .e)))
abbrev r28:Path:=.a (.d (.b (.a .e)))
abbrev r29:Path:=.b (.d (.b (.a .e)))
abbrev r30:Path:=.c (.d (.b (.a .e)))
abbrev r31:Path:=.d (.d (.b (.a .e)))
abbrev r32:Path:=.a (.a (.c (.a .e)))
abbrev r33:Path:=.b (.a (.c (.a .e)))
abbrev r34:Path:=.c (.a (.c (.a .e)))
abbrev r35:Path:=.d (.a (.c (.a .e)))
abbrev r36:Path:=.a (.b (.c (.a .e)))
abbrev r37:Path:=.b (.b (.c (.a .e)))
abbrev r38:Path:=.c (.b (.c (.a .e)))
abbrev r39:Path:=.d (.b (.c (.a .e)))
abbrev r40:Path:=.a (.c (.c (.a .e)))
abbrev r41:Path:=.b (.c (.c (.a .e)))
abbrev r42:Path:=.c (.c (.c (.a .e)))
abbrev r43:Path:=.d (.c (.c (.a .e)))
abbrev r44:Path:=.a (.d (.c (.a .e)))
abbrev r45:Path:=.b (.d (.c (.a .e)))
abbrev r46:Path:=.c (.d (.c (.a .e)))
abbrev r47:Path:=.d (.d (.c (.a .e)))
abbrev r48:Path:=.a (.a (.d (.a .e)))
abbrev r49:Path:=.b (.a (.d (.a .e)))
abbrev r50:Path:=.c (.a (.d (.a .e)))
abbrev r51:Path:=.d (.a (.d (.a .e)))
abbrev r52:Path:=.a (.b (.d (.a .e)))
abbrev r53:Path:=.b (.b (.d (.a .e)))
abbrev r54:Path:=.c (.b (.d (.a .e)))
abbrev r55:Path:=.d (.b (.d (.a .e)))
abbrev r56:Path:=.a (.c (.d (.a .e)))
abbrev r57:Path:=.b (.c (.d (.a .e)))
abbrev r58:Path:=.c (.c (.d (.a .e)))
abbrev r59:Path:=.d (.c (.d (.a .e)))
abbrev r60:Path:=.a (.d (.d (.a .e)))
abbrev r61:Path:=.b (.d (.d (.a .e)))
abbrev r62:Path:=.c (.d (.d (.a .e)))
abbrev r63:Path:=.d (.d (.d (.a .e)))
abbrev r64:Path:=.a (.a (.a (.b .e)))
abbrev r65:Path:=.b (.a (.a (.b .e)))
abbrev r66:Path:=.c (.a (.a (.b .e)))
abbrev r67:Path:=.d (.a (.a (.b .e)))
abbrev r68:Path:=.a (.b (.a (.b .e)))
abbrev r69:Path:=.b (.b (.a (.b .e)))
abbrev r70:Path:=.c (.b (.a (.b .e)))
abbrev r71:Path:=.d (.b (.a (.b .e)))
abbrev r72:Path:=.a (.c (.a (.b .e)))
abbrev r73:Path:=.b (.c (.a (.b .e)))
abbrev r74:Path:=.c (.c (.a (.b .e)))
abbrev r75:Path:=.d (.c (.a (.b .e)))
abbrev r76:Path:=.a (.d (.a (.b .e)))
abbrev r77:Path:=.b (.d (.a (.b .e)))
abbrev r78:Path:=.c (.d (.a (.b .e)))
abbrev r79:Path:=.d (.d (.a (.b .e)))
abbrev r80:Path:=.a (.a (.b (.b .e)))
abbrev r81:Path:=.b (.a (.b (.b .e)))
abbrev r82:Path:=.c (.a (.b (.b .e)))
abbrev r83:Path:=.d (.a (.b (.b .e)))
abbrev r84:Path:=.a (.b (.b (.b .e)))
abbrev r85:Path:=.b (.b (.b (.b .e)))
abbrev r86:Path:=.c (.b (.b (.b .e)))
abbrev r87:Path:=.d (.b (.b (.b .e)))
abbrev r88:Path:=.a (.c (.b (.b .e)))
abbrev r89:Path:=.b (.c (.b (.b .e)))
abbrev r90:Path:=.c (.c (.b (.b .e)))
abbrev r91:Path:=.d (.c (.b (.b .e)))
abbrev r92:Path:=.a (.d (.b (.b .e)))
abbrev r93:Path:=.b (.d (.b (.b .e)))
abbrev r94:Path:=.c (.d (.b (.b .e)))
abbrev r95:Path:=.d (.d (.b (.b .e)))
abbrev r96:Path:=.a (.a (.c (.b .e)))
abbrev r97:Path:=.b (.a (.c (.b .e)))
abbrev r98:Path:=.c (.a (.c (.b .e)))
abbrev r99:Path:=.d (.a (.c (.b .e)))
abbrev r100:Path:=.a (.b (.c (.b .e)))
abbrev r101:Path:=.b (.b (.c (.b .e)))
abbrev r102:Path:=.c (.b (.c (.b .e)))
abbrev r103:Path:=.d (.b (.c (.b .e)))
abbrev r104:Path:=.a (.c (.c (.b .e)))
abbrev r105:Path:=.b (.c (.c (.b .e)))
abbrev r106:Path:=.c (.c (.c (.b .e)))
abbrev r107:Path:=.d (.c (.c (.b .e)))
abbrev r108:Path:=.a (.d (.c (.b .e)))
abbrev r109:Path:=.b (.d (.c (.b .e)))
abbrev r110:Path:=.c (.d (.c (.b .e)))
abbrev r111:Path:=.d (.d (.c (.b .e)))
abbrev r112:Path:=.a (.a (.d (.b .e)))
abbrev r113:Path:=.b (.a (.d (.b .e)))
abbrev r114:Path:=.c (.a (.d (.b .e)))
abbrev r115:Path:=.d (.a (.d (.b .e)))
abbrev r116:Path:=.a (.b (.d (.b .e)))
abbrev r117:Path:=.b (.b (.d (.b .e)))
abbrev r118:Path:=.c (.b (.d (.b .e)))
abbrev r119:Path:=.d (.b (.d (.b .e)))
abbrev r120:Path:=.a (.c (.d (.b .e)))
abbrev r121:Path:=.b (.c (.d (.b .e)))
abbrev r122:Path:=.c (.c (.d (.b .e)))
abbrev r123:Path:=.d (.c (.d (.b .e)))
abbrev r124:Path:=.a (.d (.d (.b .e)))
abbrev r125:Path:=.b (.d (.d (.b .e)))
abbrev r126:Path:=.c (.d (.d (.b .e)))
abbrev r127:Path:=.d (.d (.d (.b .e)))
abbrev r128:Path:=.a (.a (.a (.c .e)))
abbrev r129:Path:=.b (.a (.a (.c .e)))
abbrev r130:Path:=.c (.a (.a (.c .e)))
abbrev r131:Path:=.d (.a (.a (.c .e)))
abbrev r132:Path:=.a (.b (.a (.c .e)))
abbrev r133:Path:=.b (.b (.a (.c .e)))
abbrev r134:Path:=.c (.b (.a (.c .e)))
abbrev r135:Path:=.d (.b (.a (.c .e)))
abbrev r136:Path:=.a (.c (.a (.c .e)))
abbrev r137:Path:=.b (.c (.a (.c .e)))
abbrev r138:Path:=.c (.c (.a (.c .e)))
abbrev r139:Path:=.d (.c (.a (.c .e)))
abbrev r140:Path:=.a (.d (.a (.c .e)))
abbrev r141:Path:=.b (.d (.a (.c .e)))
abbrev r142:Path:=.c (.d (.a (.c .e)))
abbrev r143:Path:=.d (.d (.a (.c .e)))
abbrev r144:Path:=.a (.a (.b (.c .e)))
abbrev r145:Path:=.b (.a (.b (.c .e)))
abbrev r146:Path:=.c (.a (.b (.c .e)))
abbrev r147:Path:=.d (.a (.b (.c .e)))
abbrev r148:Path:=.a (.b (.b (.c .e)))
abbrev r149:Path:=.b (.b (.b (.c .e)))
abbrev r150:Path:=.c (.b (.b (.c .e)))
abbrev r151:Path:=.d (.b (.b (.c .e)))
abbrev r152:Path:=.a (.c (.b (.c .e)))
abbrev r153:Path:=.b (.c (.b (.c .e)))
abbrev r154:Path:=.c (.c (.b (.c .e)))
abbrev r155:Path:=.d (.c (.b (.c .e)))
abbrev r156:Path:=.a (.d (.b (.c .e)))
abbrev r157:Path:=.b (.d (.b (.c .e)))
abbrev r158:Path:=.c (.d (.b (.c .e)))
abbrev r159:Path:=.d (.d (.b (.c .e)))
abbrev r160:Path:=.a (.a (.c (.c .e)))
abbrev r161:Path:=.b (.a (.c (.c .e)))
abbrev r162:Path:=.c (.a (.c (.c .e)))
abbrev r163:Path:=.d (.a (.c (.c .e)))
abbrev r164:Path:=.a (.b (.c (.c .e)))
abbrev r165:Path:=.b (.b (.c (.c .e)))
abbrev r166:Path:=.c (.b (.c (.c .e)))
abbrev r167:Path:=.d (.b (.c (.c .e)))
abbrev r168:Path:=.a (.c (.c (.c .e)))
abbrev r169:Path:=.b (.c (.c (.c .e)))
abbrev r170:Path:=.c (.c (.c (.c .e)))
abbrev r171:Path:=.d (.c (.c (.c .e)))
section
variable {h:Hp} {n:Nat} {K:KS} {x y:Int} {a b:AV}
theorem optB_some (c:Bool) (k:Bool->Bool):optB (some c) k=k c:=by cases c<;>rfl
theorem ex_mov:∀ K,execV .mov [a] h n K=K.v a h n:=fun _=>rfl
theorem ex_pickT:∀ K,execV .pick [.bool true,a,b] h n K=K.v a h n:=fun _=>rfl
theorem ex_pickF:∀ K,execV .pick [.bool false,a,b] h n K=K.v b h n:=fun _=>rfl
theorem ex_notT:∀ K,execV .not [.bool true] h n K=K.v (.bool false) h n:=fun _=>rfl
theorem ex_notF:∀ K,execV .not [.bool false] h n K=K.v (.bool true) h n:=fun _=>rfl
theorem ints_two {k:IntKind} (f:IntKind->Int->Int->Bool):ints f [.int k x,.int k y]=f k x y:=by
 show guardB (kindEq k k) (f k x y)=_
 rw [kindEq_iff.2 rfl];rfl
theorem ex_add (hr:-9223372036854775808<=x+y/\x+y<=9223372036854775807):∀ K,execV .add [.int .i64 x,.int .i64 y] h n K=K.v (.int .i64 (x+y)) h n:=fun K=>by
 show exAdd _ h n K=_
 unfold exAdd
 rw [ints_two,forceI_eq,show Int.add x y=x+y from rfl,IntWalk.i64_in _ hr]
theorem ex_sub (hr:-9223372036854775808<=x - y/\x - y<=9223372036854775807):∀ K,execV .sub [.int .i64 x,.int .i64 y] h n K=K.v (.int .i64 (x - y)) h n:=fun K=>by
 show exSub _ h n K=_
 unfold exSub
 rw [ints_two,forceI_eq,show Int.sub x y=x - y from rfl,IntWalk.i64_in _ hr]
theorem ex_icmp {k:IntKind} {op:BinOp} {c:Bool} (hc:pureBool (Op.intCmp op x y)=some c):∀ K,execV (.icmp op) [.int k x,.int k y] h n K=K.v (.bool c) h n:=fun K=>by
 show exIcmp op _ h n K=_
 unfold exIcmp
 rw [ints_two,hc,optB_some]
theorem ex_lssT {k:IntKind} (hc:x < y):∀ K,execV (.icmp .lss) [.int k x,.int k y] h n K=K.v (.bool true) h n:=ex_icmp (by show some (decide (x < y))=_;rw [decide_eq_true hc])
theorem ex_lssF {k:IntKind} (hc:y<=x):∀ K,execV (.icmp .lss) [.int k x,.int k y] h n K=K.v (.bool false) h n:=ex_icmp (by show some (decide (x < y))=_;rw [decide_eq_false (by omega)])
theorem ex_leqT {k:IntKind} (hc:x<=y):∀ K,execV (.icmp .leq) [.int k x,.int k y] h n K=K.v (.bool true) h n:=ex_icmp (by show some (decide (x<=y))=_;rw [decide_eq_true hc])
theorem ex_leqF {k:IntKind} (hc:y < x):∀ K,execV (.icmp .leq) [.int k x,.int k y] h n K=K.v (.bool false) h n:=ex_icmp (by show some (decide (x<=y))=_;rw [decide_eq_false (by omega)])
theorem ex_gtrT {k:IntKind} (hc:y < x):∀ K,execV (.icmp .gtr) [.int k x,.int k y] h n K=K.v (.bool true) h n:=ex_icmp (by show some (decide (x > y))=_;rw [decide_eq_true hc])
theorem ex_gtrF {k:IntKind} (hc:x<=y):∀ K,execV (.icmp .gtr) [.int k x,.int k y] h n K=K.v (.bool false) h n:=ex_icmp (by show some (decide (x > y))=_;rw [decide_eq_false (by omega)])
theorem ex_geqT {k:IntKind} (hc:y<=x):∀ K,execV (.icmp .geq) [.int k x,.int k y] h n K=K.v (.bool true) h n:=ex_icmp (by show some (decide (x >= y))=_;rw [decide_eq_true hc])
theorem ex_geqF {k:IntKind} (hc:x < y):∀ K,execV (.icmp .geq) [.int k x,.int k y] h n K=K.v (.bool false) h n:=ex_icmp (by show some (decide (x >= y))=_;rw [decide_eq_false (by omega)])
theorem ex_eql {ng:Bool} {ek:EK} {c d:Bool} (hc:eqlB ek a b=some c) (hd:(c != ng)=d):∀ K,execV (.eql ng ek) [a,b] h n K=K.v (.bool d) h n:=fun K=>by
 show optB (eqlB ek a b) _=_
 rw [hc]
 rw [optB_some,forceB_eq,hd]
theorem eql_int {k:IntKind}:eqlB .num (.int k x) (.int k y)=some (x == y):=by simp [eqlB,kindEq_iff]
theorem ex_eqT {k:IntKind} (hc:x=y):∀ K,execV (.eql false .num) [.int k x,.int k y] h n K=K.v (.bool true) h n:=ex_eql eql_int (by simp [hc])
theorem ex_eqF {k:IntKind} (hc:x≠y):∀ K,execV (.eql false .num) [.int k x,.int k y] h n K=K.v (.bool false) h n:=ex_eql eql_int (by simp [hc])
theorem ex_neT {k:IntKind} (hc:x≠y):∀ K,execV (.eql true .num) [.int k x,.int k y] h n K=K.v (.bool true) h n:=ex_eql eql_int (by simp [hc])
theorem ex_neF {k:IntKind} (hc:x=y):∀ K,execV (.eql true .num) [.int k x,.int k y] h n K=K.v (.bool false) h n:=ex_eql eql_int (by simp [hc])
def codeL (bs:List UInt8):Nat:=bs.foldr (fun b acc=>b.toNat+256*acc) 0
theorem strOf_eq (bs:List UInt8):strOf bs=.str bs.length (codeL bs):=rfl
theorem codeL_lt (bs:List UInt8):codeL bs < 256 ^ bs.length:=by
 induction bs with
 | nil=>simp [codeL]
 | cons b bs ih =>
  have hb:=b.toNat_lt
  simp only [codeL,List.foldr_cons,List.length_cons,Nat.pow_succ] at ih ⊢
  omega
theorem bytesOf_codeL (bs:List UInt8):bytesOf bs.length (codeL bs)=bs:=by
 induction bs with
 | nil=>rfl
 | cons b bs ih =>
  have hb:=b.toNat_lt
  simp only [List.length_cons,bytesOf]
  have e:codeL (b::bs)=b.toNat+256*codeL bs:=rfl
  rw [e,show (b.toNat+256*codeL bs) % 256=b.toNat by omega,show (b.toNat+256*codeL bs) / 256=codeL bs by omega,ih]
  simp
theorem codeL_inj {as bs:List UInt8} (hl:as.length=bs.length) (h:codeL as=codeL bs):as=bs:=by
 rw [<- bytesOf_codeL as,<- bytesOf_codeL bs,hl,h]
theorem eql_str (as bs:List UInt8):eqlB .num (strOf as) (strOf bs)=some (as == bs):=by
 show some (Nat.beq as.length bs.length&&Nat.beq (codeL as) (codeL bs))=_
 congr 1
 rw [Bool.eq_iff_iff]
 simp only [Bool.and_eq_true,beq_iff_eq]
 exact⟨fun⟨h1,h2⟩=>codeL_inj (Nat.eq_of_beq_eq_true h1) (Nat.eq_of_beq_eq_true h2),fun h=>by rw [h];simp⟩
theorem ex_strEq {as bs:List UInt8} {c:Bool} (hc:(as == bs)=c):∀ K,execV (.eql false .num) [strOf as,strOf bs] h n K=K.v (.bool c) h n:=ex_eql (eql_str as bs) (by simp [hc])
theorem ex_strNe {as bs:List UInt8} {c:Bool} (hc:(as != bs)=c):∀ K,execV (.eql true .num) [strOf as,strOf bs] h n K=K.v (.bool c) h n:=ex_eql (eql_str as bs) (by rw [<- hc];cases h:as == bs<;>simp [bne,h])
theorem codeL_get (bs:List UInt8) (i:Nat) (hi:i < bs.length):codeL bs / 256 ^ i % 256=bs[i].toNat:=by
 have h1:=bytesOf_get bs.length (codeL bs) i hi
 rw [bytesOf_codeL,List.getElem?_eq_getElem hi] at h1
 simp only [Option.some.injEq] at h1
 rw [h1]
 simp
theorem ex_idxStr {bs:List UInt8} {i:Nat} (hi:i < bs.length):∀ K,execV .idxStr [strOf bs,.int .i64 i] h n K=K.v (.int .u8 bs[i].toNat) h n:=fun K=>by
 show guardB (Nat.blt i bs.length) (force (strIdx (codeL bs) i) fun c=>K.v (.int .u8 (.ofNat c)) h n)=_
 have:Nat.blt i bs.length=true:=by simp [Nat.blt,Nat.lt_iff_add_one_le] at hi ⊢;exact hi
 rw [this,force_eq,strIdx_eq,codeL_get bs i hi];rfl
end
section
variable {E:Env} {Q:Post} {fn:Fr} {md:Md} {R:List (Path × AV)} {todo:List AItem} {cs:List AF} {h h':Hp} {n n':Nat} {os:List COp} {k:IntKind} {x y:Int} {p:Path} {g:Option (Path × Bool)} {xs:List CX} {X Y Z:CX} {oc:OC} {vs:List AV} {v a b:AV}
theorem SO.val (hg:wantB R g=true) (hd:Nat.beq p.len depth=true) (hv:lookXs R xs=some vs) (hx:∀ K,execV oc vs h n K=K.v v h' n') (hw:SO E Q fn md ((p,v)::R) os todo cs h' n'):SO E Q fn md R (⟨some p,g,xs,oc⟩::os) todo cs h n :=
 SO.op (c:=⟨some p,g,xs,oc⟩) hg hd hv hx hw
theorem SO.val0 (hg:wantB R g=true) (hv:lookXs R xs=some vs) (hx:∀ K,execV oc vs h n K=K.v v h' n') (hw:SO E Q fn md R os todo cs h' n'):SO E Q fn md R (⟨none,g,xs,oc⟩::os) todo cs h n :=
 SO.op (c:=⟨none,g,xs,oc⟩) hg rfl hv hx hw
theorem SO.nope (hg:wantN R g=true) (hd:Nat.beq p.len depth=true) (hw:SO E Q fn md ((p,undefA)::R) os todo cs h n):SO E Q fn md R (⟨some p,g,xs,oc⟩::os) todo cs h n:=SO.no (c:=⟨some p,g,xs,oc⟩) hg hd hw
theorem SO.nope0 (hg:wantN R g=true) (hw:SO E Q fn md R os todo cs h n):SO E Q fn md R (⟨none,g,xs,oc⟩::os) todo cs h n:=SO.no (c:=⟨none,g,xs,oc⟩) hg rfl hw
theorem two {a b:AV} (h1:lookX R X=some a) (h2:lookX R Y=some b):lookXs R [X,Y]=some [a,b]:=by simp [lookXs,h1,h2]
theorem one1 {a:AV} (h1:lookX R X=some a):lookXs R [X]=some [a]:=by simp [lookXs,h1]
theorem three {a b c:AV} (h1:lookX R X=some a) (h2:lookX R Y=some b) (h3:lookX R Z=some c):lookXs R [X,Y,Z]=some [a,b,c]:=by simp [lookXs,h1,h2,h3]
theorem SO.mov (hg:wantB R g=true) (hd:Nat.beq p.len depth=true) (h1:lookX R X=some a) (hw:SO E Q fn md ((p,a)::R) os todo cs h n):SO E Q fn md R (⟨some p,g,[X],.mov⟩::os) todo cs h n:=SO.val hg hd (one1 h1) ex_mov hw
theorem SO.idxStr {bs:List UInt8} {i:Nat} (hg:wantB R g=true) (hd:Nat.beq p.len depth=true) (h1:lookX R X=some (strOf bs)) (h2:lookX R Y=some (.int .i64 i)) (hi:i < bs.length) (hw:SO E Q fn md ((p,.int .u8 bs[i].toNat)::R) os todo cs h n):SO E Q fn md R (⟨some p,g,[X,Y],.idxStr⟩::os) todo cs h n:=SO.val hg hd (two h1 h2) (ex_idxStr hi) hw
theorem SO.add (hg:wantB R g=true) (hd:Nat.beq p.len depth=true) (h1:lookX R X=some (.int .i64 x)) (h2:lookX R Y=some (.int .i64 y)) (hr:-9223372036854775808<=x+y/\x+y<=9223372036854775807) (hw:SO E Q fn md ((p,.int .i64 (x+y))::R) os todo cs h n):SO E Q fn md R (⟨some p,g,[X,Y],.add⟩::os) todo cs h n:=SO.val hg hd (two h1 h2) (ex_add hr) hw
theorem SO.sub (hg:wantB R g=true) (hd:Nat.beq p.len depth=true) (h1:lookX R X=some (.int .i64 x)) (h2:lookX R Y=some (.int .i64 y)) (hr:-9223372036854775808<=x - y/\x - y<=9223372036854775807) (hw:SO E Q fn md ((p,.int .i64 (x - y))::R) os todo cs h n):SO E Q fn md R (⟨some p,g,[X,Y],.sub⟩::os) todo cs h n:=SO.val hg hd (two h1 h2) (ex_sub hr) hw
theorem SO.lssT (hg:wantB R g=true) (hd:Nat.beq p.len depth=true) (h1:lookX R X=some (.int k x)) (h2:lookX R Y=some (.int k y)) (hc:x < y) (hw:SO E Q fn md ((p,.bool true)::R) os todo cs h n):SO E Q fn md R (⟨some p,g,[X,Y],(.icmp .lss)⟩::os) todo cs h n:=SO.val hg hd (two h1 h2) (ex_lssT hc) hw
theorem SO.lssF (hg:wantB R g=true) (hd:Nat.beq p.len depth=true) (h1:lookX R X=some (.int k x)) (h2:lookX R Y=some (.int k y)) (hc:y<=x) (hw:SO E Q fn md ((p,.bool false)::R) os todo cs h n):SO E Q fn md R (⟨some p,g,[X,Y],(.icmp .lss)⟩::os) todo cs h n:=SO.val hg hd (two h1 h2) (ex_lssF hc) hw
theorem SO.lss (hg:wantB R g=true) (hd:Nat.beq p.len depth=true) (h1:lookX R X=some (.int k x)) (h2:lookX R Y=some (.int k y)) (hT:x < y->SO E Q fn md ((p,.bool true)::R) os todo cs h n) (hF:y<=x->SO E Q fn md ((p,.bool false)::R) os todo cs h n):SO E Q fn md R (⟨some p,g,[X,Y],(.icmp .lss)⟩::os) todo cs h n:=by
 by_cases hc:x < y
 ·exact SO.lssT hg hd h1 h2 hc (hT hc)
 ·exact SO.lssF hg hd h1 h2 (by omega) (hF (by omega))
theorem SO.leqT (hg:wantB R g=true) (hd:Nat.beq p.len depth=true) (h1:lookX R X=some (.int k x)) (h2:lookX R Y=some (.int k y)) (hc:x<=y) (hw:SO E Q fn md ((p,.bool true)::R) os todo cs h n):SO E Q fn md R (⟨some p,g,[X,Y],(.icmp .leq)⟩::os) todo cs h n:=SO.val hg hd (two h1 h2) (ex_leqT hc) hw
theorem SO.leqF (hg:wantB R g=true) (hd:Nat.beq p.len depth=true) (h1:lookX R X=some (.int k x)) (h2:lookX R Y=some (.int k y)) (hc:y < x) (hw:SO E Q fn md ((p,.bool false)::R) os todo cs h n):SO E Q fn md R (⟨some p,g,[X,Y],(.icmp .leq)⟩::os) todo cs h n:=SO.val hg hd (two h1 h2) (ex_leqF hc) hw
theorem SO.leq (hg:wantB R g=true) (hd:Nat.beq p.len depth=true) (h1:lookX R X=some (.int k x)) (h2:lookX R Y=some (.int k y)) (hT:x<=y->SO E Q fn md ((p,.bool true)::R) os todo cs h n) (hF:y < x->SO E Q fn md ((p,.bool false)::R) os todo cs h n):SO E Q fn md R (⟨some p,g,[X,Y],(.icmp .leq)⟩::os) todo cs h n:=by
 by_cases hc:x<=y
 ·exact SO.leqT hg hd h1 h2 hc (hT hc)
 ·exact SO.leqF hg hd h1 h2 (by omega) (hF (by omega))
theorem SO.gtrT (hg:wantB R g=true) (hd:Nat.beq p.len depth=true) (h1:lookX R X=some (.int k x)) (h2:lookX R Y=some (.int k y)) (hc:y < x) (hw:SO E Q fn md ((p,.bool true)::R) os todo cs h n):SO E Q fn md R (⟨some p,g,[X,Y],(.icmp .gtr)⟩::os) todo cs h n:=SO.val hg hd (two h1 h2) (ex_gtrT hc) hw
theorem SO.gtrF (hg:wantB R g=true) (hd:Nat.beq p.len depth=true) (h1:lookX R X=some (.int k x)) (h2:lookX R Y=some (.int k y)) (hc:x<=y) (hw:SO E Q fn md ((p,.bool false)::R) os todo cs h n):SO E Q fn md R (⟨some p,g,[X,Y],(.icmp .gtr)⟩::os) todo cs h n:=SO.val hg hd (two h1 h2) (ex_gtrF hc) hw
theorem SO.gtr (hg:wantB R g=true) (hd:Nat.beq p.len depth=true) (h1:lookX R X=some (.int k x)) (h2:lookX R Y=some (.int k y)) (hT:y < x->SO E Q fn md ((p,.bool true)::R) os todo cs h n) (hF:x<=y->SO E Q fn md ((p,.bool false)::R) os todo cs h n):SO E Q fn md R (⟨some p,g,[X,Y],(.icmp .gtr)⟩::os) todo cs h n:=by
 by_cases hc:y < x
 ·exact SO.gtrT hg hd h1 h2 hc (hT hc)
 ·exact SO.gtrF hg hd h1 h2 (by omega) (hF (by omega))
theorem SO.geqT (hg:wantB R g=true) (hd:Nat.beq p.len depth=true) (h1:lookX R X=some (.int k x)) (h2:lookX R Y=some (.int k y)) (hc:y<=x) (hw:SO E Q fn md ((p,.bool true)::R) os todo cs h n):SO E Q fn md R (⟨some p,g,[X,Y],(.icmp .geq)⟩::os) todo cs h n:=SO.val hg hd (two h1 h2) (ex_geqT hc) hw
theorem SO.geqF (hg:wantB R g=true) (hd:Nat.beq p.len depth=true) (h1:lookX R X=some (.int k x)) (h2:lookX R Y=some (.int k y)) (hc:x < y) (hw:SO E Q fn md ((p,.bool false)::R) os todo cs h n):SO E Q fn md R (⟨some p,g,[X,Y],(.icmp .geq)⟩::os) todo cs h n:=SO.val hg hd (two h1 h2) (ex_geqF hc) hw
theorem SO.geq (hg:wantB R g=true) (hd:Nat.beq p.len depth=true) (h1:lookX R X=some (.int k x)) (h2:lookX R Y=some (.int k y)) (hT:y<=x->SO E Q fn md ((p,.bool true)::R) os todo cs h n) (hF:x < y->SO E Q fn md ((p,.bool false)::R) os todo cs h n):SO E Q fn md R (⟨some p,g,[X,Y],(.icmp .geq)⟩::os) todo cs h n:=by
 by_cases hc:y<=x
 ·exact SO.geqT hg hd h1 h2 hc (hT hc)
 ·exact SO.geqF hg hd h1 h2 (by omega) (hF (by omega))
theorem SO.eqiT (hg:wantB R g=true) (hd:Nat.beq p.len depth=true) (h1:lookX R X=some (.int k x)) (h2:lookX R Y=some (.int k y)) (hc:x=y) (hw:SO E Q fn md ((p,.bool true)::R) os todo cs h n):SO E Q fn md R (⟨some p,g,[X,Y],(.eql false .num)⟩::os) todo cs h n:=SO.val hg hd (two h1 h2) (ex_eqT hc) hw
theorem SO.eqiF (hg:wantB R g=true) (hd:Nat.beq p.len depth=true) (h1:lookX R X=some (.int k x)) (h2:lookX R Y=some (.int k y)) (hc:x≠y) (hw:SO E Q fn md ((p,.bool false)::R) os todo cs h n):SO E Q fn md R (⟨some p,g,[X,Y],(.eql false .num)⟩::os) todo cs h n:=SO.val hg hd (two h1 h2) (ex_eqF hc) hw
theorem SO.eqi (hg:wantB R g=true) (hd:Nat.beq p.len depth=true) (h1:lookX R X=some (.int k x)) (h2:lookX R Y=some (.int k y)) (hT:x=y->SO E Q fn md ((p,.bool true)::R) os todo cs h n) (hF:x≠y->SO E Q fn md ((p,.bool false)::R) os todo cs h n):SO E Q fn md R (⟨some p,g,[X,Y],(.eql false .num)⟩::os) todo cs h n:=by
 by_cases hc:x=y
 ·exact SO.eqiT hg hd h1 h2 hc (hT hc)
 ·exact SO.eqiF hg hd h1 h2 (by omega) (hF (by omega))
theorem SO.neiT (hg:wantB R g=true) (hd:Nat.beq p.len depth=true) (h1:lookX R X=some (.int k x)) (h2:lookX R Y=some (.int k y)) (hc:x≠y) (hw:SO E Q fn md ((p,.bool true)::R) os todo cs h n):SO E Q fn md R (⟨some p,g,[X,Y],(.eql true .num)⟩::os) todo cs h n:=SO.val hg hd (two h1 h2) (ex_neT hc) hw
theorem SO.neiF (hg:wantB R g=true) (hd:Nat.beq p.len depth=true) (h1:lookX R X=some (.int k x)) (h2:lookX R Y=some (.int k y)) (hc:x=y) (hw:SO E Q fn md ((p,.bool false)::R) os todo cs h n):SO E Q fn md R (⟨some p,g,[X,Y],(.eql true .num)⟩::os) todo cs h n:=SO.val hg hd (two h1 h2) (ex_neF hc) hw
theorem SO.nei (hg:wantB R g=true) (hd:Nat.beq p.len depth=true) (h1:lookX R X=some (.int k x)) (h2:lookX R Y=some (.int k y)) (hT:x≠y->SO E Q fn md ((p,.bool true)::R) os todo cs h n) (hF:x=y->SO E Q fn md ((p,.bool false)::R) os todo cs h n):SO E Q fn md R (⟨some p,g,[X,Y],(.eql true .num)⟩::os) todo cs h n:=by
 by_cases hc:x≠y
 ·exact SO.neiT hg hd h1 h2 hc (hT hc)
 ·exact SO.neiF hg hd h1 h2 (by omega) (hF (by omega))
theorem SO.strEq {as bs:List UInt8} (hg:wantB R g=true) (hd:Nat.beq p.len depth=true) (h1:lookX R X=some (strOf as)) (h2:lookX R Y=some (strOf bs)) (hT:as=bs->SO E Q fn md ((p,.bool true)::R) os todo cs h n) (hF:as≠bs->SO E Q fn md ((p,.bool false)::R) os todo cs h n):SO E Q fn md R (⟨some p,g,[X,Y],.eql false .num⟩::os) todo cs h n:=by
 by_cases hc:as=bs
 ·exact SO.val hg hd (two h1 h2) (ex_strEq (by simpa using hc)) (hT hc)
 ·exact SO.val hg hd (two h1 h2) (ex_strEq (by simpa using hc)) (hF hc)
theorem SO.strNe {as bs:List UInt8} (hg:wantB R g=true) (hd:Nat.beq p.len depth=true) (h1:lookX R X=some (strOf as)) (h2:lookX R Y=some (strOf bs)) (hT:as≠bs->SO E Q fn md ((p,.bool true)::R) os todo cs h n) (hF:as=bs->SO E Q fn md ((p,.bool false)::R) os todo cs h n):SO E Q fn md R (⟨some p,g,[X,Y],.eql true .num⟩::os) todo cs h n:=by
 by_cases hc:as=bs
 ·exact SO.val hg hd (two h1 h2) (ex_strNe (by simpa using hc)) (hF hc)
 ·exact SO.val hg hd (two h1 h2) (ex_strNe (by simpa using hc)) (hT hc)
theorem SW.condT {a b:CC} (hx:lookX R X=some (.bool true)) (ht:SW E Q fn R (.code a::todo) cs h n):SW E Q fn R (.code (.cond X a b)::todo) cs h n:=SW.cond hx (fun _=>ht) (fun e=>Bool.noConfusion e)
theorem SW.condF {a b:CC} (hx:lookX R X=some (.bool false)) (ht:SW E Q fn R (.code b::todo) cs h n):SW E Q fn R (.code (.cond X a b)::todo) cs h n:=SW.cond hx (fun e=>Bool.noConfusion e) (fun _=>ht)
theorem SO.callG {gf:FuncId} {args:List AV} {P:AV->Hp->Nat->Prop} (hg:wantB R g=true) (hd:Nat.beq p.len depth=true) (hv:lookXs R xs=some args) (hf:Fn E gf args h n P)
  (hw:∀ v h' n',P v h' n'->SO E Q fn md ((p,v)::R) os todo cs h' n'):SO E Q fn md R (⟨some p,g,xs,.call gf⟩::os) todo cs h n:=SO.call (c:=⟨some p,g,xs,.call gf⟩) hg hd hv (fun _=>rfl) hf hw
end
end Go.Ev
namespace Go.Ev
structure Gr (h:Hp) (n:Nat) (h':Hp) (n':Nat):Prop where
 le:n<=n'
 same:∀ a,a < n->hb h' a=hb h a
theorem Gr.refl (h:Hp) (n:Nat):Gr h n h n:=⟨Nat.le_refl _,fun _ _=>rfl⟩
theorem Gr.trans {h h' h'':Hp} {n n' n'':Nat} (e:Gr h n h' n') (e':Gr h' n' h'' n''):Gr h n h'' n'':=⟨Nat.le_trans e.le e'.le,fun a ha=>(e'.same a (Nat.lt_of_lt_of_le ha e.le)).trans (e.same a ha)⟩
theorem Gr.put {h h':Hp} {n n' a:Nat} (b:AB) (e:Gr h n h' n') (ha:n<=a):Gr h n (hput a b h') n':=⟨e.le,fun x hx=>by rw [hb_hput _ _ trivial trivial,if_neg (by omega)];exact e.same x hx⟩
theorem Gr.new {h h':Hp} {n n':Nat} (b:AB) (e:Gr h n h' n'):Gr h n (hput n' b h') (n'+1):=⟨Nat.le_succ_of_le e.le,(e.put b e.le).same⟩
theorem Gr.less {h h':Hp} {n m n':Nat} (hm:m<=n) (e:Gr h n h' n'):Gr h m h' n':=⟨Nat.le_trans hm e.le,fun a ha=>e.same a (by omega)⟩
theorem hb_self (a:Nat) (b:AB) (h:Hp):hb (hput a b h) a=some b:=by rw [hb_hput _ _ trivial trivial,if_pos rfl]
theorem hb_other {a a':Nat} (b:AB) (h:Hp) (hne:a'≠a):hb (hput a b h) a'=hb h a':=by rw [hb_hput _ _ trivial trivial,if_neg hne]
def Rd (h:Hp) (n a:Nat) (vs:List AV):Prop:=a < n/\((∃ e ro,hb h a=some (.cell vs e ro))\/(∃ e f z lo la,hb h a=some (.row vs e f z)/\f < n/\hb h f=some (.fam lo la)/\lo<=a)\/hb h a=some (.inp vs))
theorem Rd.is {h:Hp} {n a:Nat} {vs:List AV} (r:Rd h n a vs):ReadableIs h a vs:=by
 obtain⟨_,⟨e,ro,r⟩ |⟨e,f,z,lo,la,r1,_,r2,r3⟩|r⟩:=r
 ·exact .inl ⟨e,ro,r⟩
 ·exact .inr (.inl ⟨e,f,z,r1,lo,la,r2,r3⟩)
 ·exact .inr (.inr r)
theorem Rd.ext {h h':Hp} {n n' a:Nat} {vs:List AV} (r:Rd h n a vs) (e:Gr h n h' n'):Rd h' n' a vs:=by
 obtain⟨h0,⟨e',ro,r⟩ |⟨e',f,z,lo,la,r1,h1,r2,r3⟩|r⟩:=r
 ·exact⟨by have:=e.le;omega,.inl ⟨e',ro,by rw [e.same a h0];exact r⟩⟩
 ·exact⟨by have:=e.le;omega,.inr (.inl ⟨e',f,z,lo,la,by rw [e.same a h0];exact r1,by have:=e.le;omega,by rw [e.same f h1];exact r2,r3⟩)⟩
 ·exact⟨by have:=e.le;omega,.inr (.inr (by rw [e.same a h0];exact r))⟩
def Pt (h:Hp) (n:Nat) (q:AV) (cells:List AV):Prop:=∃ a o vs,q=.ptr a o/\Rd h n a vs/\o+cells.length<=vs.length/\(vs.drop o).take cells.length=cells
def Sl (h:Hp) (n esz:Nat) (v:AV) (l:Nat) (cells:List AV):Prop :=
 cells.length=l*esz/\((v=.nils/\l=0)\/∃ a o c vs,((v=.slc a o l c/\l<=c)\/(v=.gsl a o l c/\((c=esz/\0 < esz)\/(c=0/\l=0))))/\Rd h n a vs/\o+l*esz<=vs.length/\(vs.drop o).take (l*esz)=cells)
theorem Pt.ext {h h':Hp} {n n':Nat} {q:AV} {cells:List AV} (r:Pt h n q cells) (e:Gr h n h' n'):Pt h' n' q cells:=by
 obtain⟨a,o,vs,h1,h2,h3⟩:=r
 exact⟨a,o,vs,h1,h2.ext e,h3⟩
theorem Sl.ext {h h':Hp} {n n' esz l:Nat} {v:AV} {cells:List AV} (r:Sl h n esz v l cells) (e:Gr h n h' n'):Sl h' n' esz v l cells:=by
 obtain⟨h0,h1 |⟨a,o,c,vs,h1,h2,h3⟩⟩:=r
 ·exact⟨h0,.inl h1⟩
 ·exact⟨h0,.inr ⟨a,o,c,vs,h1,h2.ext e,h3⟩⟩
theorem Pt.drop {h:Hp} {n a o:Nat} {cells:List AV} (r:Pt h n (.ptr a o) cells) (k:Nat) (hk:k<=cells.length):Pt h n (.ptr a (o+k)) (cells.drop k):=by
 obtain⟨a',o',vs,h1,h2,h3,h4⟩:=r
 simp only [AV.ptr.injEq] at h1
 obtain⟨rfl,rfl⟩:=h1
 refine⟨a,o+k,vs,rfl,h2,by simp;omega,?_⟩
 rw [<- h4]
 simp only [List.length_drop,List.length_take,List.drop_take,List.drop_drop]
 congr 1
 omega
section
variable {h h':Hp} {n n':Nat} {K:KS} {x y:Int} {a b:AV}
theorem ex_lenSl {esz l:Nat} {v:AV} {cells:List AV} (hs:Sl h n esz v l cells):∀ K,execV .lenSl [v] h' n' K=K.v (.int .i64 l) h' n':=fun K=>by
 obtain⟨_,⟨rfl,rfl⟩ |⟨a,o,c,vs,⟨rfl,_⟩ |⟨rfl,_⟩,_⟩⟩:=hs<;>rfl
theorem ex_loadC {a o:Nat} {cells:List AV} {c:AV} (hp:Pt h n (.ptr a o) (c::cells)):∀ K,execV .loadC [.ptr a o] h n' K=K.v c h n':=fun K=>by
 obtain⟨a',o',vs,h1,h2,h3,h4⟩:=hp
 simp only [AV.ptr.injEq] at h1
 obtain⟨rfl,rfl⟩:=h1
 show loadN h a o 1 (fun l=>one l fun v=>K.v v h n')=_
 rw [loadN_eq h2.is (by simp at h3;omega)]
 have:(vs.drop o).take 1=[c]:=by
  have h5:((vs.drop o).take (c::cells).length).take 1=[c]:=by rw [h4];rfl
  rw [List.take_take] at h5
  simpa using h5
 rw [this];rfl
theorem ex_loadA {a o m:Nat} {cells:List AV} (hp:Pt h n (.ptr a o) cells) (hm:m<=cells.length):∀ K,execV (.loadA m) [.ptr a o] h n' K=K.v (.agg (cells.take m)) h n':=fun K=>by
 obtain⟨a',o',vs,h1,h2,h3,h4⟩:=hp
 simp only [AV.ptr.injEq] at h1
 obtain⟨rfl,rfl⟩:=h1
 show loadN h a o m (fun l=>K.v (.agg l) h n')=_
 rw [loadN_eq h2.is (by omega),<- h4,List.take_take]
 congr 2
 congr 2
 omega
theorem ex_fieldA {a o off:Nat}:∀ K,execV (.fieldA off) [.ptr a o] h n K=K.v (.ptr a (o+off)) h n:=fun K=>by
 show force (Nat.add o off) (fun o=>K.v (.ptr a o) h n)=_
 rw [force_eq];rfl
theorem ex_nilchk {a o:Nat}:∀ K,execV .nilchk [.ptr a o] h n K=K.v (.ptr a o) h n:=fun _=>rfl
theorem ex_alloc {z:List AV} {e:TypeId}:∀ K,execV (.alloc z e) [] h n K=K.v (.ptr n 0) (hput n (.cell z e false) h) (n+1):=fun K=>by
 show newK (.cell z e false) h n (fun a h n=>K.v (.ptr a 0) h n)=_
 unfold newK
 rw [putK_eq,force_eq]
theorem ex_box {v:AV} {e:TypeId} (hv:∀ vs,v≠.tup vs):∀ K,execV (.box e) [v] h n K=K.v (.ptr n 0) (hput n (.cell v.cells e false) h) (n+1):=fun K=>by
 show cellsK v (fun cs=>newK (.cell cs e false) h n fun a h n=>K.v (.ptr a 0) h n)=_
 rw [Bool.eq_iff_iff,cellsK_iff]
 unfold newK
 rw [putK_eq,force_eq]
 exact⟨fun⟨_,h⟩=>h,fun h=>⟨hv,h⟩⟩
theorem ex_store {a o m:Nat} {v:AV} {vs:List AV} {e:TypeId} (hb0:hb h a=some (.cell vs e false)) (hv:∀ us,v≠.tup us) (hm:v.cells.length=m) (hl:o+m<=vs.length):∀ K,execV (.store m) [.ptr a o,v] h n K=K.v (.tup []) (hput a (.cell (splice o v.cells vs) e false) h) n:=fun K=>by
 have blk_eq:∀ {a b} (k:AB->Bool),hb h a=some b->blkK h a k=k b:=fun {a b} k e=>by
  rw [Bool.eq_iff_iff,blkK_iff,e];simp
 show cellsK v (fun cs=>lenK cs fun l=>guardB (Nat.beq l m) (storeN h a o cs fun h=>K.v (.tup []) h n))=_
 have h1:∀ k:List AV->Bool,cellsK v k=k v.cells:=fun k=>by rw [Bool.eq_iff_iff,cellsK_iff];exact⟨fun h=>h.2,fun h=>⟨hv,h⟩⟩
 rw [h1,lenK_eq,hm,show Nat.beq m m=true by simp]
 show storeN h a o v.cells (fun h=>K.v (.tup []) h n)=_
 unfold storeN
 rw [blk_eq _ hb0]
 show spliceK o v.cells vs (fun vs'=>putK a (.cell vs' e false) h fun h=>K.v (.tup []) h n)=_
 rw [Bool.eq_iff_iff,spliceK_iff,putK_eq]
 exact⟨fun h=>h.2,fun h=>⟨by omega,h⟩⟩
theorem ex_idxSlA {esz l i:Nat} {v:AV} {cells:List AV} (hs:Sl h n esz v l cells) (hi:i < l):∃ a o,(∀ (h':Hp) (n':Nat) K,execV (.idxSlA esz) [v,.int .i64 i] h' n' K=K.v (.ptr a o) h' n')/\Pt h n (.ptr a o) ((cells.drop (i*esz)).take esz):=by
 have hmul:i*esz+esz<=l*esz:=by rw [<- Nat.succ_mul];exact Nat.mul_le_mul_right _ hi
 have hblt:Nat.blt i l=true:=by simp [Nat.blt,Nat.lt_iff_add_one_le] at hi ⊢;exact hi
 obtain⟨h0,⟨_,rfl⟩ |⟨a,o,c,vs,h1,h2,h3,h4⟩⟩:=hs
 ·omega
 ·refine⟨a,o+i*esz,fun h' n' K=>?_,a,o+i*esz,vs,rfl,h2,?_,?_⟩
  ·rcases h1 with ⟨rfl,_⟩ |⟨rfl,_⟩
   ·show guardB (Nat.blt i l) (force (Nat.add o (Nat.mul i esz)) fun o=>K.v (.ptr a o) h' n')=_
    rw [hblt,force_eq];rfl
   ·show guardB (Nat.blt i l) (force (Nat.add o (Nat.mul i esz)) fun o=>K.v (.ptr a o) h' n')=_
    rw [hblt,force_eq];rfl
  ·simp;omega
  ·rw [<- h4]
   simp only [List.length_take,List.length_drop,List.drop_take,List.drop_drop,List.take_take]
   congr 1
   omega
theorem ex_extract {i:Nat} {vs:List AV} {v:AV} (hv:vs[i]?=some v):∀ K,execV (.extract i) [.tup vs] h n K=K.v v h n:=fun K=>by
 show nthK i vs (fun v=>K.v v h n)=_
 rw [Bool.eq_iff_iff,nthK_iff,hv];simp
end
theorem flatMap_length {α:Type} {f:α->List AV} {esz:Nat} (hf:∀ x,(f x).length=esz):∀ (xs:List α),(xs.flatMap f).length=xs.length*esz
 | []=>by simp
 | x::xs=>by simp only [List.flatMap_cons,List.length_append,hf,flatMap_length hf xs,List.length_cons,Nat.succ_mul];omega
theorem flatMap_at {α:Type} {f:α->List AV} {esz:Nat} (hf:∀ x,(f x).length=esz):∀ (xs:List α) (i:Nat) (hi:i < xs.length),((xs.flatMap f).drop (i*esz)).take esz=f xs[i]
 | [],i,hi=>by simp at hi
 | x::xs,0,hi=>by
  simp only [List.flatMap_cons,Nat.zero_mul,List.drop_zero,List.getElem_cons_zero]
  rw [List.take_append_of_le_length (by rw [hf];exact Nat.le_refl _),List.take_of_length_le (by rw [hf];exact Nat.le_refl _)]
 | x::xs,i+1,hi=>by
  have ih:=flatMap_at hf xs i (by simpa using hi)
  simp only [List.flatMap_cons,List.getElem_cons_succ]
  rw [<- ih,Nat.succ_mul]
  have e:i*esz+esz=(f x).length+i*esz:=by rw [hf];omega
  rw [e,<- List.drop_drop,List.drop_left]
theorem Pt.cell {h:Hp} {n a o:Nat} {vs:List AV} {e:TypeId} {ro:Bool} (hb0:hb h a=some (.cell vs e ro)) (ha:a < n) (ho:o<=vs.length):Pt h n (.ptr a o) (vs.drop o) :=
 ⟨a,o,vs,rfl,⟨ha,.inl ⟨e,ro,hb0⟩⟩,by simp;omega,by rw [List.length_drop];exact List.take_of_length_le (by simp)⟩
section
variable {E:Env} {Q:Post} {fn:Fr} {md:Md} {R:List (Path × AV)} {todo:List AItem} {cs:List AF} {h h' h0:Hp} {n n' n0:Nat} {os:List COp} {k:IntKind} {x y:Int} {p:Path} {g:Option (Path × Bool)} {xs:List CX} {X Y Z:CX} {oc:OC} {vs:List AV} {v:AV} {a o:Nat}
theorem SO.lenSl {esz l:Nat} {cells:List AV} (hg:wantB R g=true) (hd:Nat.beq p.len depth=true) (h1:lookX R X=some v) (hs:Sl h0 n0 esz v l cells) (hw:SO E Q fn md ((p,.int .i64 l)::R) os todo cs h n):SO E Q fn md R (⟨some p,g,[X],.lenSl⟩::os) todo cs h n:=SO.val hg hd (one1 h1) (ex_lenSl hs) hw
theorem SO.idxSlA {esz l i:Nat} {cells:List AV} (hg:wantB R g=true) (hd:Nat.beq p.len depth=true) (h1:lookX R X=some v) (h2:lookX R Y=some (.int .i64 i)) (hs:Sl h0 n0 esz v l cells) (hi:i < l)
  (hw:∀ a o,Pt h0 n0 (.ptr a o) ((cells.drop (i*esz)).take esz)->SO E Q fn md ((p,.ptr a o)::R) os todo cs h n):SO E Q fn md R (⟨some p,g,[X,Y],.idxSlA esz⟩::os) todo cs h n:=by
 obtain⟨a,o,h3,h4⟩:=ex_idxSlA hs hi
 exact SO.val hg hd (two h1 h2) (h3 h n) (hw a o h4)
theorem SO.idxOf {α:Type} {f:α->List AV} {ys:List α} {esz i:Nat} (hf:∀ x,(f x).length=esz) (hg:wantB R g=true) (hd:Nat.beq p.len depth=true) (h1:lookX R X=some v) (h2:lookX R Y=some (.int .i64 i)) (hs:Sl h0 n0 esz v ys.length (ys.flatMap f)) (hi:i < ys.length)
  (hw:∀ a o,Pt h0 n0 (.ptr a o) (f ys[i])->SO E Q fn md ((p,.ptr a o)::R) os todo cs h n):SO E Q fn md R (⟨some p,g,[X,Y],.idxSlA esz⟩::os) todo cs h n :=
 SO.idxSlA hg hd h1 h2 hs hi fun a o hp=>hw a o (by rw [flatMap_at hf] at hp;exact hp)
theorem SO.loadF {off:Nat} {cells:List AV} (hg:wantB R g=true) (hd:Nat.beq p.len depth=true) (h1:lookX R X=some (.ptr a (o+off))) (hp:Pt h0 n0 (.ptr a o) cells) (hE:Gr h0 n0 h n) (hc:cells[off]?=some v) (hw:SO E Q fn md ((p,v)::R) os todo cs h n):SO E Q fn md R (⟨some p,g,[X],.loadC⟩::os) todo cs h n:=by
 have hlt:off < cells.length:=by rw [List.getElem?_eq_some_iff] at hc;exact hc.1
 have h2:=(hp.ext hE).drop off (by omega)
 rw [List.drop_eq_getElem_cons hlt] at h2
 have:cells[off]=v:=by rw [List.getElem?_eq_some_iff] at hc;exact hc.2
 rw [this] at h2
 exact SO.val hg hd (one1 h1) (ex_loadC h2) hw
theorem SO.load0 {cells:List AV} (hg:wantB R g=true) (hd:Nat.beq p.len depth=true) (h1:lookX R X=some (.ptr a o)) (hp:Pt h0 n0 (.ptr a o) (v::cells)) (hE:Gr h0 n0 h n) (hw:SO E Q fn md ((p,v)::R) os todo cs h n):SO E Q fn md R (⟨some p,g,[X],.loadC⟩::os) todo cs h n:=SO.val hg hd (one1 h1) (ex_loadC (hp.ext hE)) hw
theorem SO.loadA {m:Nat} {cells:List AV} (hg:wantB R g=true) (hd:Nat.beq p.len depth=true) (h1:lookX R X=some (.ptr a o)) (hp:Pt h0 n0 (.ptr a o) cells) (hE:Gr h0 n0 h n) (hm:cells.length=m) (hw:SO E Q fn md ((p,.agg cells)::R) os todo cs h n):SO E Q fn md R (⟨some p,g,[X],.loadA m⟩::os) todo cs h n:=by
 refine SO.val hg hd (one1 h1) (ex_loadA (hp.ext hE) (Nat.le_of_eq hm.symm)) ?_
 rw [<- hm,List.take_length];exact hw
theorem SO.loadV {off:Nat} {us:List AV} {e:TypeId} {ro:Bool} (hg:wantB R g=true) (hd:Nat.beq p.len depth=true) (h1:lookX R X=some (.ptr a off)) (hb0:hb h a=some (.cell us e ro)) (hc:us[off]?=some v) (hw:SO E Q fn md ((p,v)::R) os todo cs h n):SO E Q fn md R (⟨some p,g,[X],.loadC⟩::os) todo cs h n:=by
 have hlt:off < us.length:=by rw [List.getElem?_eq_some_iff] at hc;exact hc.1
 have h2:=Pt.cell hb0 (Nat.lt_succ_self a) (Nat.le_of_lt hlt)
 rw [List.drop_eq_getElem_cons hlt] at h2
 have:us[off]=v:=by rw [List.getElem?_eq_some_iff] at hc;exact hc.2
 rw [this] at h2
 exact SO.val hg hd (one1 h1) (ex_loadC h2) hw
theorem SO.loadVA {m:Nat} {us:List AV} {e:TypeId} {ro:Bool} (hg:wantB R g=true) (hd:Nat.beq p.len depth=true) (h1:lookX R X=some (.ptr a 0)) (hb0:hb h a=some (.cell us e ro)) (hm:us.length=m) (hw:SO E Q fn md ((p,.agg us)::R) os todo cs h n):SO E Q fn md R (⟨some p,g,[X],.loadA m⟩::os) todo cs h n :=
 SO.val hg hd (one1 h1) (by
  have h2:=Pt.cell (o:=0) hb0 (Nat.lt_succ_self a) (Nat.zero_le _)
  have h3:=ex_loadA (n':=n) h2 (m:=m) (by simp [hm])
  rw [List.drop_zero,<- hm,List.take_length] at h3
  exact hm ▸ h3) hw
theorem SO.alloc {z:List AV} {e:TypeId} (hg:wantB R g=true) (hd:Nat.beq p.len depth=true) (hw:∀ h1,hb h1 n=some (.cell z e false)->Gr h n h1 (n+1)->SO E Q fn md ((p,.ptr n 0)::R) os todo cs h1 (n+1)):SO E Q fn md R (⟨some p,g,[],.alloc z e⟩::os) todo cs h n :=
 SO.val hg hd rfl ex_alloc (hw _ (hb_self _ _ _) ((Gr.refl h n).new _))
theorem SO.box {e:TypeId} (hg:wantB R g=true) (hd:Nat.beq p.len depth=true) (h1:lookX R X=some v) (hv:∀ us,v≠.tup us) (hw:∀ h1,hb h1 n=some (.cell v.cells e false)->Gr h n h1 (n+1)->SO E Q fn md ((p,.ptr n 0)::R) os todo cs h1 (n+1)):SO E Q fn md R (⟨some p,g,[X],.box e⟩::os) todo cs h n :=
 SO.val hg hd (one1 h1) (ex_box hv) (hw _ (hb_self _ _ _) ((Gr.refl h n).new _))
theorem SO.store {m:Nat} {us:List AV} {e:TypeId} (hg:wantB R g=true) (h1:lookX R X=some (.ptr a o)) (h2:lookX R Y=some v) (hb0:hb h a=some (.cell us e false)) (hv:∀ us,v≠.tup us) (hm:v.cells.length=m) (hl:o+m<=us.length)
  (hw:∀ h1,hb h1 a=some (.cell (splice o v.cells us) e false)->(∀ b,b≠a->hb h1 b=hb h b)->SO E Q fn md R os todo cs h1 n):SO E Q fn md R (⟨none,g,[X,Y],.store m⟩::os) todo cs h n :=
 SO.val0 hg (two h1 h2) (ex_store hb0 hv hm hl) (hw _ (hb_self _ _ _) fun b hb=>hb_other _ _ hb)
theorem SO.build {z:List AV} {ps:List (Nat × Nat)} (hg:wantB R g=true) (hd:Nat.beq p.len depth=true) (hv:lookXs R xs=some vs) (hx:∀ K,execV (.build z ps) vs h n K=K.v v h n) (hw:SO E Q fn md ((p,v)::R) os todo cs h n):SO E Q fn md R (⟨some p,g,xs,.build z ps⟩::os) todo cs h n:=SO.val hg hd hv hx hw
theorem splice_all {new us:List AV} (hl:new.length=us.length):splice 0 new us=new:=by
 simp only [splice,List.take_zero,List.nil_append,Nat.zero_add]
 rw [hl,List.drop_length,List.append_nil]
theorem SO.storeAll {m:Nat} {us new:List AV} {e:TypeId} (hg:wantB R g=true) (h1:lookX R X=some (.ptr a 0)) (h2:lookX R Y=some (.agg new)) (hb0:hb h a=some (.cell us e false)) (hm:new.length=m) (hl:us.length=m)
  (hw:∀ h1,hb h1 a=some (.cell new e false)->(∀ b,b≠a->hb h1 b=hb h b)->SO E Q fn md R os todo cs h1 n):SO E Q fn md R (⟨none,g,[X,Y],.store m⟩::os) todo cs h n :=
 SO.store hg h1 h2 hb0 (by simp) hm (by omega) fun h1 hc hk=>hw h1 (by rw [show splice 0 (AV.agg new).cells us=new from splice_all (by rw [hl];exact hm)] at hc;exact hc) hk
theorem Gr.keep {h h':Hp} {n a:Nat} (e:Gr h0 n0 h n) (ha:n0<=a) (hk:∀ b,b≠a->hb h' b=hb h b):Gr h0 n0 h' n:=⟨e.le,fun b hb0=>by rw [hk b (by omega)];exact e.same b hb0⟩
end
def vOf (R:List (Path × AV)) (xs:List CX) (oc:OC):Option AV:=match oc with
 | .mov=>match xs with
  | [X]=>lookX R X
  | _=>none
 | .not=>match xs with
  | [X]=>match lookX R X with
   | some (.bool true)=>some (.bool false)
   | some (.bool false)=>some (.bool true)
   | _=>none
  | _=>none
 | .pick=>match xs with
  | [X,Y,Z]=>match lookX R X with
   | some (.bool true)=>match lookX R Z with
    | some _=>lookX R Y
    | none=>none
   | some (.bool false)=>match lookX R Y with
    | some _=>lookX R Z
    | none=>none
   | _=>none
  | _=>none
 | .lenStr=>match xs with
  | [X]=>match lookX R X with
   | some (.str l _)=>some (.int .i64 l)
   | _=>none
  | _=>none
 | .fieldA off=>match xs with
  | [X]=>match lookX R X with
   | some (.ptr a o)=>some (.ptr a (o+off))
   | _=>none
  | _=>none
 | .nilchk=>match xs with
  | [X]=>match lookX R X with
   | some (.ptr a o)=>some (.ptr a o)
   | _=>none
  | _=>none
 | .extract i=>match xs with
  | [X]=>match lookX R X with
   | some (.tup us)=>us[i]?
   | _=>none
  | _=>none
 | _=>none
section
variable {E:Env} {Q:Post} {fn:Fr} {md:Md} {R R':List (Path × AV)} {todo todo':List AItem} {cs:List AF} {h:Hp} {n:Nat} {os:List COp} {xs:List CX} {oc:OC} {v:AV} {c:COp} {p:Path} {P:Prop}
theorem vOf_ex (hv:vOf R xs oc=some v):∃ vs,lookXs R xs=some vs/\∀ K,execV oc vs h n K=K.v v h n:=by
 unfold vOf at hv
 split at hv
 ·split at hv
  ·exact⟨_,one1 hv,ex_mov⟩
  ·simp at hv
 ·split at hv
  ·split at hv
   ·rename_i hx
    simp only [Option.some.injEq] at hv
    subst hv
    exact⟨_,one1 hx,ex_notT⟩
   ·rename_i hx
    simp only [Option.some.injEq] at hv
    subst hv
    exact⟨_,one1 hx,ex_notF⟩
   ·simp at hv
  ·simp at hv
 ·split at hv
  ·split at hv
   ·rename_i hx
    split at hv
    ·rename_i hz
     exact⟨_,three hx hv hz,ex_pickT⟩
    ·simp at hv
   ·rename_i hx
    split at hv
    ·rename_i hy
     exact⟨_,three hx hy hv,ex_pickF⟩
    ·simp at hv
   ·simp at hv
  ·simp at hv
 ·split at hv
  ·split at hv
   ·rename_i hx
    simp only [Option.some.injEq] at hv
    subst hv
    exact⟨_,one1 hx,fun _=>rfl⟩
   ·simp at hv
  ·simp at hv
 ·split at hv
  ·split at hv
   ·rename_i hx
    simp only [Option.some.injEq] at hv
    subst hv
    exact⟨_,one1 hx,ex_fieldA⟩
   ·simp at hv
  ·simp at hv
 ·split at hv
  ·split at hv
   ·rename_i hx
    simp only [Option.some.injEq] at hv
    subst hv
    exact⟨_,one1 hx,ex_nilchk⟩
   ·simp at hv
  ·simp at hv
 ·split at hv
  ·split at hv
   ·rename_i hx
    exact⟨_,one1 hx,ex_extract hv⟩
   ·simp at hv
  ·simp at hv
 ·simp at hv
def ev1 (R:List (Path × AV)) (c:COp):Option (List (Path × AV)):=match c with
 |⟨some p,g,xs,oc⟩=>match Nat.beq p.len depth with
  | true=>match wantB R g with
   | true=>match vOf R xs oc with
    | some v=>some ((p,v)::R)
    | none=>none
   | false=>match wantN R g with
    | true=>some ((p,undefA)::R)
    | false=>none
  | false=>none
 |⟨none,g,_,_⟩=>match wantN R g with
  | true=>some R
  | false=>none
theorem SO.a (he:ev1 R c=some R') (hw:SO E Q fn md R' os todo cs h n):SO E Q fn md R (c::os) todo cs h n:=by
 unfold ev1 at he
 split at he
 ·split at he
  ·rename_i hd
   split at he
   ·rename_i hg
    split at he
    ·rename_i hv
     simp only [Option.some.injEq] at he
     subst he
     obtain⟨vs,h1,h2⟩:=vOf_ex (h:=h) (n:=n) hv
     exact SO.val hg hd h1 h2 hw
    ·simp at he
   ·split at he
    ·rename_i hg
     simp only [Option.some.injEq] at he
     subst he
     exact SO.nope hg hd hw
    ·simp at he
  ·simp at he
 ·split at he
  ·rename_i hg
   simp only [Option.some.injEq] at he
   subst he
   exact SO.nope0 hg hw
  ·simp at he
def stp (R:List (Path × AV)) (todo:List AItem):Option (List AItem):=match todo with
 | .code .skip::t=>some t
 | .code (.seq a b)::t=>some (.code a::.code b::t)
 | .code (.block i c)::t=>some (.code c::.inBlock i::t)
 | .inBlock _::t=>some t
 | .code (.cond x a b)::t=>match lookX R x with
  | some (.bool true)=>some (.code a::t)
  | some (.bool false)=>some (.code b::t)
  | _=>none
 | .code (.exit i)::t=>exitA i t
 | _=>none
theorem SW.a (he:stp R todo=some todo') (hw:SW E Q fn R todo' cs h n):SW E Q fn R todo cs h n:=by
 unfold stp at he
 split at he
 ·simp only [Option.some.injEq] at he
  subst he
  exact SW.skip hw
 ·simp only [Option.some.injEq] at he
  subst he
  exact SW.seq hw
 ·simp only [Option.some.injEq] at he
  subst he
  exact SW.block hw
 ·simp only [Option.some.injEq] at he
  subst he
  exact SW.out hw
 ·split at he
  ·rename_i hx
   simp only [Option.some.injEq] at he
   subst he
   exact SW.condT hx hw
  ·rename_i hx
   simp only [Option.some.injEq] at he
   subst he
   exact SW.condF hx hw
  ·simp at he
 ·exact SW.exit he hw
 ·simp at he
def cmpP (R:List (Path × AV)) (xs:List CX) (oc:OC):Option Prop:=match xs with
 | [X,Y]=>match lookX R X,lookX R Y with
  | some (.int k x),some (.int k' y)=>if k=k' then match oc with
   | .icmp .lss=>some (x < y)
   | .icmp .leq=>some (x<=y)
   | .icmp .gtr=>some (y < x)
   | .icmp .geq=>some (y<=x)
   | .eql false .num=>some (x=y)
   | .eql true .num=>some (x≠y)
   | _=>none
   else none
  | _,_=>none
 | _=>none
theorem cmpP_ex (hv:cmpP R xs oc=some P):∃ vs,lookXs R xs=some vs/\(P->∀ K,execV oc vs h n K=K.v (.bool true) h n)/\(¬ P->∀ K,execV oc vs h n K=K.v (.bool false) h n):=by
 unfold cmpP at hv
 split at hv
 ·split at hv
  ·rename_i h1 h2
   split at hv
   ·rename_i hk
    subst hk
    refine⟨_,two h1 h2,?_⟩
    split at hv
    ·simp only [Option.some.injEq] at hv
     subst hv
     exact⟨fun q=>ex_lssT q,fun q=>ex_lssF (by omega)⟩
    ·simp only [Option.some.injEq] at hv
     subst hv
     exact⟨fun q=>ex_leqT q,fun q=>ex_leqF (by omega)⟩
    ·simp only [Option.some.injEq] at hv
     subst hv
     exact⟨fun q=>ex_gtrT q,fun q=>ex_gtrF (by omega)⟩
    ·simp only [Option.some.injEq] at hv
     subst hv
     exact⟨fun q=>ex_geqT q,fun q=>ex_geqF (by omega)⟩
    ·simp only [Option.some.injEq] at hv
     subst hv
     exact⟨fun q=>ex_eqT q,fun q=>ex_eqF q⟩
    ·simp only [Option.some.injEq] at hv
     subst hv
     exact⟨fun q=>ex_neT q,fun q=>ex_neF (by omega)⟩
    ·simp at hv
   ·simp at hv
  ·simp at hv
 ·simp at hv
def cmp1 (R:List (Path × AV)) (c:COp):Option (Path × Prop):=match c with
 |⟨some p,g,xs,oc⟩=>match Nat.beq p.len depth with
  | true=>match wantB R g with
   | true=>match cmpP R xs oc with
    | some P=>some (p,P)
    | none=>none
   | false=>none
  | false=>none
 | _=>none
theorem cmp1_ex (he:cmp1 R c=some (p,P)):∃ g xs oc,c=⟨some p,g,xs,oc⟩/\Nat.beq p.len depth=true/\wantB R g=true/\cmpP R xs oc=some P:=by
 unfold cmp1 at he
 split at he
 ·split at he
  ·rename_i hd
   split at he
   ·rename_i hg
    split at he
    ·rename_i hv
     simp only [Option.some.injEq,Prod.mk.injEq] at he
     obtain⟨rfl,rfl⟩:=he
     exact⟨_,_,_,rfl,hd,hg,hv⟩
    ·simp at he
   ·simp at he
  ·simp at he
 ·simp at he
theorem SO.cT (he:cmp1 R c=some (p,P)) (hP:P) (hw:SO E Q fn md ((p,.bool true)::R) os todo cs h n):SO E Q fn md R (c::os) todo cs h n:=by
 obtain⟨g,xs,oc,rfl,hd,hg,hv⟩:=cmp1_ex he
 obtain⟨vs,h1,h2,_⟩:=cmpP_ex (h:=h) (n:=n) hv
 exact SO.val hg hd h1 (h2 hP) hw
theorem SO.cF (he:cmp1 R c=some (p,P)) (hP:¬ P) (hw:SO E Q fn md ((p,.bool false)::R) os todo cs h n):SO E Q fn md R (c::os) todo cs h n:=by
 obtain⟨g,xs,oc,rfl,hd,hg,hv⟩:=cmp1_ex he
 obtain⟨vs,h1,_,h2⟩:=cmpP_ex (h:=h) (n:=n) hv
 exact SO.val hg hd h1 (h2 hP) hw
end
def part (bs:List UInt8) (i j:Nat):List UInt8:=(bs.drop i).take (j - i)
theorem part_length {bs:List UInt8} {i j:Nat} (hj:j<=bs.length):(part bs i j).length=j - i:=by simp [part];omega
theorem strSub_codeL (bs:List UInt8) (i j:Nat) (hij:i<=j) (hj:j<=bs.length):strSub (codeL bs) i j=codeL (part bs i j):=by
 have h1:=bytesOf_sub bs.length (codeL bs) i j hj
 rw [bytesOf_codeL] at h1
 have h2:=bytesOf_codeL (part bs i j)
 rw [part_length hj] at h2
 have h3:=codeL_lt (part bs i j)
 rw [part_length hj] at h3
 exact bytesOf_inj (strSub_lt _ _ _) h3 (h1.trans h2.symm)
section
variable {h h':Hp} {n n':Nat} {K:KS} {bs cs:List UInt8} {k k':IntKind}
theorem ex_sliceStrTT {i j:Nat} (hij:i<=j) (hj:j<=bs.length):∀ K,execV (.sliceStr true true) [strOf bs,.int k j,.int k' i] h n K=K.v (strOf (part bs i j)) h n:=fun K=>by
 show bounds3 true true false [.int k j,.int k' i] bs.length bs.length (fun a b _=>force (Nat.sub b a) fun l'=>force (strSub (codeL bs) a b) fun c'=>K.v (.str l' c') h n)=_
 unfold bounds3
 rw [boundK_false,boundK_true hj,boundK_true hij]
 show force (Nat.sub j i) (fun l'=>force (strSub (codeL bs) i j) fun c'=>K.v (.str l' c') h n)=_
 rw [force_eq,force_eq,strSub_codeL bs i j hij hj,strOf_eq,part_length hj]
 rfl
theorem ex_sliceStrTF {i:Nat} (hi:i<=bs.length):∀ K,execV (.sliceStr true false) [strOf bs,.int k i] h n K=K.v (strOf (bs.drop i)) h n:=fun K=>by
 show bounds3 true false false [.int k i] bs.length bs.length (fun a b _=>force (Nat.sub b a) fun l'=>force (strSub (codeL bs) a b) fun c'=>K.v (.str l' c') h n)=_
 unfold bounds3
 rw [boundK_false,boundK_false,boundK_true hi]
 show force (Nat.sub bs.length i) (fun l'=>force (strSub (codeL bs) i bs.length) fun c'=>K.v (.str l' c') h n)=_
 rw [force_eq,force_eq,strSub_codeL bs i bs.length hi (Nat.le_refl _)]
 have:part bs i bs.length=bs.drop i:=by unfold part;exact List.take_of_length_le (by simp)
 rw [this,strOf_eq,List.length_drop]
 rfl
theorem ex_sliceStrFT {j:Nat} (hj:j<=bs.length):∀ K,execV (.sliceStr false true) [strOf bs,.int k j] h n K=K.v (strOf (bs.take j)) h n:=fun K=>by
 show bounds3 false true false [.int k j] bs.length bs.length (fun a b _=>force (Nat.sub b a) fun l'=>force (strSub (codeL bs) a b) fun c'=>K.v (.str l' c') h n)=_
 unfold bounds3
 rw [boundK_false,boundK_true hj,boundK_false]
 show force (Nat.sub j 0) (fun l'=>force (strSub (codeL bs) 0 j) fun c'=>K.v (.str l' c') h n)=_
 rw [force_eq,force_eq,strSub_codeL bs 0 j (Nat.zero_le _) hj]
 have:part bs 0 j=bs.take j:=by simp [part]
 rw [this,strOf_eq,List.length_take,Nat.min_eq_left hj]
 rfl
theorem codeL_append (as bs:List UInt8):codeL (as++bs)=codeL as+codeL bs*256 ^ as.length:=by
 induction as with
 | nil=>simp [codeL]
 | cons a as ih =>
  have e1:codeL (a::as++bs)=a.toNat+256*codeL (as++bs):=rfl
  have e2:codeL (a::as)=a.toNat+256*codeL as:=rfl
  rw [e1,ih,e2,List.length_cons,Nat.pow_succ,Nat.mul_add,Nat.add_assoc]
  congr 2
  rw [Nat.mul_comm 256,Nat.mul_assoc]
theorem ex_concat (hl:bs.length+cs.length<=1000000000):∀ K,execV .concat [strOf bs,strOf cs] h n K=K.v (strOf (bs++cs)) h n:=fun K=>by
 show force (Nat.add bs.length cs.length) (fun l'=>guardB (Nat.ble l' 1000000000) (force (Nat.add (codeL bs) (Nat.shiftLeft (codeL cs) (Nat.mul 8 bs.length))) fun c'=>K.v (.str l' c') h n))=_
 rw [force_eq,force_eq,show Nat.ble (Nat.add bs.length cs.length) 1000000000=true from Nat.ble_eq_true_of_le hl,strOf_eq,List.length_append,codeL_append]
 have:Nat.add (codeL bs) (Nat.shiftLeft (codeL cs) (Nat.mul 8 bs.length))=codeL bs+codeL cs*256 ^ bs.length:=by
  show codeL bs+(codeL cs <<<(8*bs.length))=_
  rw [Nat.shiftLeft_eq,pow256]
 rw [this];rfl
theorem ex_scmp {op:BinOp} {c:Bool} (hc:scmpB op bs.length (codeL bs) cs.length (codeL cs)=some c):∀ K,execV (.scmp op) [strOf bs,strOf cs] h n K=K.v (.bool c) h n:=fun K=>by
 show optB (scmpB op bs.length (codeL bs) cs.length (codeL cs)) (fun z=>K.v (.bool z) h n)=_
 rw [hc,optB_some]
abbrev lessB (as bs:List UInt8):Bool:=Op.bytesLess as bs
theorem strLess_codeL (as bs:List UInt8):strLess as.length (codeL as) bs.length (codeL bs)=lessB as bs:=by unfold strLess;rw [bytesOf_codeL,bytesOf_codeL]
theorem beq_codeL (as bs:List UInt8):(Nat.beq as.length bs.length&&Nat.beq (codeL as) (codeL bs))=(as == bs):=by
 have:=eql_str as bs
 simpa [eqlB,strOf_eq] using this
theorem ex_leqS:∀ K,execV (.scmp .leq) [strOf bs,strOf cs] h n K=K.v (.bool (lessB bs cs||bs == cs)) h n:=ex_scmp (by simp only [scmpB];rw [strLess_codeL,beq_codeL])
end
section
variable {E:Env} {Q:Post} {fn:Fr} {md:Md} {R:List (Path × AV)} {todo:List AItem} {cs:List AF} {h h' h0:Hp} {n n' n0:Nat} {os:List COp} {k k':IntKind} {p:Path} {g:Option (Path × Bool)} {xs:List CX} {X Y Z:CX} {bs ds:List UInt8} {i j:Nat}
theorem SO.sliceTT (hg:wantB R g=true) (hd:Nat.beq p.len depth=true) (h1:lookX R X=some (strOf bs)) (h2:lookX R Y=some (.int k j)) (h3:lookX R Z=some (.int k' i)) (hij:i<=j) (hj:j<=bs.length) (hw:SO E Q fn md ((p,strOf (part bs i j))::R) os todo cs h n):SO E Q fn md R (⟨some p,g,[X,Y,Z],.sliceStr true true⟩::os) todo cs h n:=SO.val hg hd (three h1 h2 h3) (ex_sliceStrTT hij hj) hw
theorem SO.sliceTF (hg:wantB R g=true) (hd:Nat.beq p.len depth=true) (h1:lookX R X=some (strOf bs)) (h2:lookX R Y=some (.int k i)) (hi:i<=bs.length) (hw:SO E Q fn md ((p,strOf (bs.drop i))::R) os todo cs h n):SO E Q fn md R (⟨some p,g,[X,Y],.sliceStr true false⟩::os) todo cs h n:=SO.val hg hd (two h1 h2) (ex_sliceStrTF hi) hw
theorem SO.sliceFT (hg:wantB R g=true) (hd:Nat.beq p.len depth=true) (h1:lookX R X=some (strOf bs)) (h2:lookX R Y=some (.int k j)) (hj:j<=bs.length) (hw:SO E Q fn md ((p,strOf (bs.take j))::R) os todo cs h n):SO E Q fn md R (⟨some p,g,[X,Y],.sliceStr false true⟩::os) todo cs h n:=SO.val hg hd (two h1 h2) (ex_sliceStrFT hj) hw
theorem SO.concat (hg:wantB R g=true) (hd:Nat.beq p.len depth=true) (h1:lookX R X=some (strOf bs)) (h2:lookX R Y=some (strOf ds)) (hl:bs.length+ds.length<=1000000000) (hw:SO E Q fn md ((p,strOf (bs++ds))::R) os todo cs h n):SO E Q fn md R (⟨some p,g,[X,Y],.concat⟩::os) todo cs h n:=SO.val hg hd (two h1 h2) (ex_concat hl) hw
theorem SO.leqS (hg:wantB R g=true) (hd:Nat.beq p.len depth=true) (h1:lookX R X=some (strOf bs)) (h2:lookX R Y=some (strOf ds)) (hT:(lessB bs ds||bs == ds)=true->SO E Q fn md ((p,.bool true)::R) os todo cs h n) (hF:(lessB bs ds||bs == ds)=false->SO E Q fn md ((p,.bool false)::R) os todo cs h n):SO E Q fn md R (⟨some p,g,[X,Y],.scmp .leq⟩::os) todo cs h n:=by
 cases hc:(lessB bs ds||bs == ds) with
 | true=>exact SO.val hg hd (two h1 h2) (by have:=ex_leqS (h:=h) (n:=n) (bs:=bs) (cs:=ds);rw [hc] at this;exact this) (hT hc)
 | false=>exact SO.val hg hd (two h1 h2) (by have:=ex_leqS (h:=h) (n:=n) (bs:=bs) (cs:=ds);rw [hc] at this;exact this) (hF hc)
end
def Own (h:Hp) (n0 n esz:Nat) (e:TypeId) (v:AV) (fo:Option Nat) (cells:List AV):Prop :=
 (v=.nils/\cells=[]/\fo=none) \/
 (∃ a l ty,v=.slc a 0 l l/\cells.length=l*esz/\a < n/\n0<=a/\hb h a=some (.cell cells ty false)/\fo=none) \/
 (∃ a f lo l,v=.gsl a 0 l esz/\cells.length=l*esz/\a < n/\f < n/\n0<=f/\n0<=a/\hb h a=some (.row cells e f 0)/\hb h f=some (.fam lo a)/\lo<=a/\fo=some f)
theorem Own.sl {h:Hp} {n0 n esz:Nat} {e:TypeId} {v:AV} {fo:Option Nat} {cells:List AV} {l:Nat} (hl:cells.length=l*esz) (hz:0 < esz) (ho:Own h n0 n esz e v fo cells):Sl h n esz v l cells:=by
 refine⟨hl,?_⟩
 rcases ho with ⟨rfl,rfl,_⟩ |⟨a,l',ty,rfl,h1,h2,h3,h4,_⟩ |⟨a,f,lo,l',rfl,h1,h2,h3,h4,h5,h6,h7,h8,_⟩
 ·left
  refine⟨rfl,?_⟩
  have h0:l*esz=0:=by simpa using hl.symm
  rcases Nat.mul_eq_zero.1 h0 with h1|h1<;>omega
 ·have:l'=l:=Nat.eq_of_mul_eq_mul_right hz (h1.symm.trans hl)
  subst this
  exact .inr ⟨a,0,l',cells,.inl ⟨rfl,Nat.le_refl _⟩,⟨h2,.inl ⟨_,_,h4⟩⟩,by omega,by rw [List.drop_zero,<- h1,List.take_length]⟩
 ·have:l'=l:=Nat.eq_of_mul_eq_mul_right hz (h1.symm.trans hl)
  subst this
  exact .inr ⟨a,0,esz,cells,.inr ⟨rfl,.inl ⟨rfl,hz⟩⟩,⟨h2,.inr (.inl ⟨_,_,_,_,_,h6,h3,h7,h8⟩)⟩,by omega,by rw [List.drop_zero,<- h1,List.take_length]⟩
theorem Own.keep {h h':Hp} {n0 n n' esz:Nat} {e:TypeId} {v:AV} {fo:Option Nat} {cells:List AV} (ho:Own h n0 n esz e v fo cells) (hn:n<=n') (hk:∀ b,n0<=b->b < n->hb h' b=hb h b):Own h' n0 n' esz e v fo cells:=by
 rcases ho with ho |⟨a,l',ty,rfl,h1,h2,h3,h4,h5⟩ |⟨a,f,lo,l',rfl,h1,h2,h3,h4,h5,h6,h7,h8,h9⟩
 ·exact .inl ho
 ·exact .inr (.inl ⟨a,l',ty,rfl,h1,by omega,h3,by rw [hk a h3 h2];exact h4,h5⟩)
 ·exact .inr (.inr ⟨a,f,lo,l',rfl,h1,by omega,by omega,h4,h5,by rw [hk a h5 h2];exact h6,by rw [hk f h4 h3];exact h7,h8,h9⟩)
section
variable {h h':Hp} {n n' n0:Nat} {K:KS}
theorem guardT (k:Bool):guardB true k=k:=rfl
theorem blk_at {a:Nat} {b:AB} (hb0:hb h a=some b) (k:AB->Bool):blkK h a k=k b:=by rw [Bool.eq_iff_iff,blkK_iff,hb0];simp
theorem new_at (b:AB) (k:Nat->Hp->Nat->Bool):newK b h n k=k n (hput n b h) (n+1):=by unfold newK;rw [putK_eq,force_eq]
theorem ex_bslice {z cs:List AV} {e:TypeId} {l:Nat} {ps:List (Nat × Nat)} {vs:List AV} (hf:∀ k,fillK ps vs z k=k cs):∀ K,execV (.bslice z e l ps) vs h n K=K.v (.slc n 0 l l) (hput n (.cell cs e false) h) (n+1):=fun K=>by
 show fillK ps vs z (fun cs=>newK (.cell cs e false) h n fun a h n=>K.v (.slc a 0 l l) h n)=_
 rw [hf,new_at]
theorem fresh_own {esz:Nat} {e:TypeId} {old new:List AV} {len:Nat} (hl:(old++new).length=len*esz) (hb':len<=1048576) (hn:n0<=n):∃ v' fo' h' n',(∀ K,freshK e esz old new len h n K=K.v v' h' n')/\Own h' n0 n' esz e v' fo' (old++new)/\n<=n'/\(∀ b,b < n->hb h' b=hb h b)/\∃ f',fo'=some f'/\n<=f':=by
 refine⟨.gsl (n+1) 0 len esz,some n,hput (n+1) (.row (old++new) e n 0) (hput n (.fam (n+1) (n+1)) h),n+2,fun K=>?_,?_,by omega,?_,n,rfl,Nat.le_refl n⟩
 ·unfold freshK
  rw [show Nat.ble len 1048576=true from Nat.ble_eq_true_of_le hb']
  show newK (.fam (Nat.succ n) (Nat.succ n)) h n (fun f h n=>appK old new fun cs=>newK (.row cs e f 0) h n fun a h n=>K.v (.gsl a 0 len esz) h n)=_
  rw [new_at,appK_eq,new_at]
 ·refine .inr (.inr ⟨n+1,n,n+1,len,rfl,hl,by omega,by omega,hn,by omega,hb_self _ _ _,?_,Nat.le_refl _,rfl⟩)
  rw [hb_other _ _ (by omega),hb_self]
 ·intro b hb0
  rw [hb_other _ _ (by omega),hb_other _ _ (by omega)]
theorem appendTo_own {esz m:Nat} {e:TypeId} {v:AV} {fo:Option Nat} {cells ys:List AV} (hz:0 < esz) (hm:0 < m) (ho:Own h n0 n esz e v fo cells) (hn:n0<=n) (hy:ys.length=m*esz) (hb':cells.length+ys.length<=1048576) :
  ∃ v' fo' h' n',(∀ K,appendTo e esz v m ys h n K=K.v v' h' n')/\Own h' n0 n' esz e v' fo' (cells++ys)/\n<=n'/\(∀ b,b < n->fo≠some b->hb h' b=hb h b)/\(fo'=fo\/∃ f',fo'=some f'/\n<=f'):=by
 rcases ho with ⟨rfl,rfl,rfl⟩ |⟨a,l,ty,rfl,h1,h2,h3,h4,rfl⟩ |⟨a,f,lo,l,rfl,h1,h2,h3,h4,h5,h6,h7,h8,rfl⟩
 ·have hml:m<=1048576:=by
   have:m<=m*esz:=Nat.le_mul_of_pos_right m hz
   simp at hb';omega
  obtain⟨v',fo',h',n',k1,k2,k3,k4,k5⟩:=fresh_own (h:=h) (n:=n) (n0:=n0) (e:=e) (esz:=esz) (old:=[]) (new:=ys) (len:=m) (by simpa using hy) hml hn
  refine⟨v',fo',h',n',fun K=>?_,k2,k3,fun b hb0 _=>k4 b hb0,.inr k5⟩
  show (Bool.rec (motive:=fun _=>Bool) (freshK e esz [] ys m h n K) (K.v .nils h n) (Nat.beq m 0))=_
  have:Nat.beq m 0=false:=by cases m with|zero=>omega|succ m=>rfl
  rw [this]
  exact k1 K
 ·have hlen:(cells++ys).length=(l+m)*esz:=by rw [List.length_append,h1,hy,Nat.add_mul]
  have hlm:l+m<=1048576:=by
   have:l+m<=(l+m)*esz:=Nat.le_mul_of_pos_right _ hz
   rw [List.length_append] at hlen;omega
  obtain⟨v',fo',h',n',k1,k2,k3,k4,k5⟩:=fresh_own (h:=h) (n:=n) (n0:=n0) (e:=e) (esz:=esz) (old:=cells) (new:=ys) (len:=l+m) hlen hlm hn
  refine⟨v',fo',h',n',fun K=>?_,k2,k3,fun b hb0 _=>k4 b hb0,.inr k5⟩
  show force (Nat.add l m) (fun need=>force (Nat.mul l esz) fun lc=>Bool.rec (motive:=fun _=>Bool) (loadN h a 0 lc fun old=>freshK e esz old ys need h n K) (force (Nat.add 0 lc) fun at_=>storeN h a at_ ys fun h=>K.v (.slc a 0 need l) h n) (Nat.ble need l))=_
  rw [force_eq,force_eq]
  have:Nat.ble (Nat.add l m) l=false:=by
   cases hq:Nat.ble (Nat.add l m) l
   ·rfl
   ·have:=Nat.le_of_ble_eq_true hq;simp at this;omega
  rw [this]
  show loadN h a 0 (Nat.mul l esz) (fun old=>freshK e esz old ys (Nat.add l m) h n K)=_
  rw [loadN_eq (vs:=cells) (.inl ⟨_,_,h4⟩) (by show 0+l*esz<=_;omega),List.drop_zero,show Nat.mul l esz=cells.length from h1.symm,List.take_length]
  exact k1 K
 ·have hlen:(cells++ys).length=(l+m)*esz:=by rw [List.length_append,h1,hy,Nat.add_mul]
  have hlm:l+m<=1048576:=by
   have:l+m<=(l+m)*esz:=Nat.le_mul_of_pos_right _ hz
   rw [List.length_append] at hlen;omega
  have hfa:f≠a:=fun e'=>by rw [e',h6] at h7;simp at h7
  refine⟨.gsl n 0 (l+m) esz,some f,hput n (.row (cells++ys) e f 0) (hput f (.fam lo n) h),n+1,fun K=>?_,?_,by omega,?_,.inl rfl⟩
  ·show guardB (Nat.beq esz esz) (force (Nat.add l m) fun need=>force (Nat.add 0 (Nat.mul l esz)) fun at_=>blkK h a fun b=>ifCells b (fun _ _ _=>false) fun vs el f frz=>lenK vs fun len=>blkK h f fun g=>ifFam g fun low last=>guardB (Nat.beq last a) (guardB (Nat.ble low a) (
    Bool.rec (motive:=fun _=>Bool)
     (guardB (Nat.beq at_ len&&(Nat.ble need 1048576&&Nat.beq el e)) (guardB (Nat.ble frz len) (dropK 0 vs fun old=>appK old ys fun cs=>putK f (.fam low n) h fun h=>frzK frz 0 fun frz=>newK (.row cs el f frz) h n fun a h n=>K.v (.gsl a 0 need esz) h n)))
     (storeN h a at_ ys fun h=>K.v (.gsl a 0 need esz) h n)
     (Nat.ble (Nat.add 0 (Nat.mul need esz)) len))))=_
   rw [show Nat.beq esz esz=true by simp,guardT,force_eq,force_eq,blk_at h6]
   show lenK cells (fun len=>blkK h f fun g=>ifFam g fun low last=>guardB (Nat.beq last a) (guardB (Nat.ble low a) (
    Bool.rec (motive:=fun _=>Bool)
     (guardB (Nat.beq (Nat.add 0 (Nat.mul l esz)) len&&(Nat.ble (Nat.add l m) 1048576&&Nat.beq e e)) (guardB (Nat.ble 0 len) (dropK 0 cells fun old=>appK old ys fun cs=>putK f (.fam low n) h fun h=>frzK 0 0 fun frz=>newK (.row cs e f frz) h n fun a h n=>K.v (.gsl a 0 (Nat.add l m) esz) h n)))
     (storeN h a (Nat.add 0 (Nat.mul l esz)) ys fun h=>K.v (.gsl a 0 (Nat.add l m) esz) h n)
     (Nat.ble (Nat.add 0 (Nat.mul (Nat.add l m) esz)) len))))=_
   rw [lenK_eq,blk_at h7]
   show guardB (Nat.beq a a) (guardB (Nat.ble lo a) (
    Bool.rec (motive:=fun _=>Bool)
     (guardB (Nat.beq (Nat.add 0 (Nat.mul l esz)) cells.length&&(Nat.ble (Nat.add l m) 1048576&&Nat.beq e e)) (guardB (Nat.ble 0 cells.length) (dropK 0 cells fun old=>appK old ys fun cs=>putK f (.fam lo n) h fun h=>frzK 0 0 fun frz=>newK (.row cs e f frz) h n fun a h n=>K.v (.gsl a 0 (Nat.add l m) esz) h n)))
     (storeN h a (Nat.add 0 (Nat.mul l esz)) ys fun h=>K.v (.gsl a 0 (Nat.add l m) esz) h n)
     (Nat.ble (Nat.add 0 (Nat.mul (Nat.add l m) esz)) cells.length)))=_
   have e1:Nat.ble (Nat.add 0 (Nat.mul (Nat.add l m) esz)) cells.length=false:=by
    cases hq:Nat.ble (Nat.add 0 (Nat.mul (Nat.add l m) esz)) cells.length
    ·rfl
    ·have hq':=Nat.le_of_ble_eq_true hq
     have:0+(l+m)*esz<=cells.length:=hq'
     rw [h1,Nat.add_mul] at this
     have:0 < m*esz:=Nat.mul_pos hm hz
     omega
   have e2:Nat.beq (Nat.add 0 (Nat.mul l esz)) cells.length=true:=by
    rw [h1,show Nat.add 0 (Nat.mul l esz)=l*esz from Nat.zero_add _];simp
   have e3:Nat.ble (Nat.add l m) 1048576=true:=Nat.ble_eq_true_of_le hlm
   have e4:Nat.ble 0 cells.length=true:=Nat.ble_eq_true_of_le (Nat.zero_le _)
   rw [show Nat.beq a a=true by simp,Nat.ble_eq_true_of_le h8,e1,e2,e3,e4,show Nat.beq e e=true from by simp]
   show dropK 0 cells (fun old=>appK old ys fun cs=>putK f (.fam lo n) h fun h=>frzK 0 0 fun frz=>newK (.row cs e f frz) h n fun a h n=>K.v (.gsl a 0 (Nat.add l m) esz) h n)=_
   rw [dropK_eq,appK_eq,putK_eq,List.drop_zero]
   rw [show ∀ k:Nat->Bool,frzK 0 0 k=k 0 from fun k=>rfl,new_at]
   rfl
  ·refine .inr (.inr ⟨n,f,lo,l+m,rfl,hlen,by omega,by omega,h4,hn,hb_self _ _ _,?_,by omega,rfl⟩)
   rw [hb_other _ _ (by omega),hb_self]
  ·intro b hb0 hne
   rw [hb_other _ _ (by omega),hb_other _ _ (fun e'=>hne (by rw [e']))]
theorem ex_append {esz m:Nat} {e:TypeId} {v x:AV} {fo:Option Nat} {cells ys:List AV} (hz:0 < esz) (hm:0 < m) (ho:Own h n0 n esz e v fo cells) (hn:n0<=n) (hx:Sl h n esz x m ys) (hb':cells.length+ys.length<=1048576) :
  ∃ v' fo' h' n',(∀ K,execV (.append e esz) [v,x] h n K=K.v v' h' n')/\Own h' n0 n' esz e v' fo' (cells++ys)/\n<=n'/\(∀ b,b < n->fo≠some b->hb h' b=hb h b)/\(fo'=fo\/∃ f',fo'=some f'/\n<=f'):=by
 obtain⟨hy,hx⟩:=hx
 obtain⟨v',fo',h',n',k1,k2⟩:=appendTo_own hz hm ho hn hy hb'
 refine⟨v',fo',h',n',fun K=>?_,k2⟩
 rw [<- k1 K]
 have hblt:Nat.blt 0 esz=true:=by simp [Nat.blt];omega
 rcases hx with ⟨rfl,rfl⟩ |⟨a,o,c,vs,⟨rfl,_⟩ |⟨rfl,_⟩,h2,h3,h4⟩
 ·omega
 ·show guardB (Nat.blt 0 esz) (loadN h a o (Nat.mul m esz) fun new=>appendTo e esz v m new h n K)=_
  rw [hblt,guardT,loadN_eq h2.is (by show o+m*esz<=_;exact h3),show (vs.drop o).take (Nat.mul m esz)=ys from h4]
 ·show guardB (Nat.blt 0 esz) (loadN h a o (Nat.mul m esz) fun new=>appendTo e esz v m new h n K)=_
  rw [hblt,guardT,loadN_eq h2.is (by show o+m*esz<=_;exact h3),show (vs.drop o).take (Nat.mul m esz)=ys from h4]
end
section
variable {E:Env} {Q:Post} {fn:Fr} {md:Md} {R:List (Path × AV)} {todo:List AItem} {cs:List AF} {h h' h0:Hp} {n n' n0:Nat} {os:List COp} {p:Path} {g:Option (Path × Bool)} {xs:List CX} {X Y Z:CX} {vs:List AV} {v x:AV}
theorem SO.bslice {z us:List AV} {e:TypeId} {l:Nat} {ps:List (Nat × Nat)} (hg:wantB R g=true) (hd:Nat.beq p.len depth=true) (hv:lookXs R xs=some vs) (hf:∀ k,fillK ps vs z k=k us) (hw:∀ h1,hb h1 n=some (.cell us e false)->Gr h n h1 (n+1)->SO E Q fn md ((p,.slc n 0 l l)::R) os todo cs h1 (n+1)):SO E Q fn md R (⟨some p,g,xs,.bslice z e l ps⟩::os) todo cs h n :=
 SO.val hg hd hv (ex_bslice hf) (hw _ (hb_self _ _ _) ((Gr.refl h n).new _))
theorem SO.append {esz m:Nat} {e:TypeId} {fo:Option Nat} {cells ys:List AV} (hg:wantB R g=true) (hd:Nat.beq p.len depth=true) (h1:lookX R X=some v) (h2:lookX R Y=some x) (hz:0 < esz) (hm:0 < m) (ho:Own h n0 n esz e v fo cells) (hn:n0<=n) (hx:Sl h n esz x m ys) (hb':cells.length+ys.length<=1048576)
  (hw:∀ v' fo' h' n',Own h' n0 n' esz e v' fo' (cells++ys)->n<=n'->(∀ b,b < n->fo≠some b->hb h' b=hb h b)->(fo'=fo\/∃ f',fo'=some f'/\n<=f')->SO E Q fn md ((p,v')::R) os todo cs h' n'):SO E Q fn md R (⟨some p,g,[X,Y],.append e esz⟩::os) todo cs h n:=by
 obtain⟨v',fo',h',n',k1,k2,k3,k4,k5⟩:=ex_append hz hm ho hn hx hb'
 exact SO.val hg hd (two h1 h2) k1 (hw v' fo' h' n' k2 k3 k4 k5)
theorem SO.idxStrAt {bs:List UInt8} {y:Int} (i:Nat) (hg:wantB R g=true) (hd:Nat.beq p.len depth=true) (h1:lookX R X=some (strOf bs)) (h2:lookX R Y=some (.int .i64 y)) (hy:y=i) (hi:i < bs.length) (hw:SO E Q fn md ((p,.int .u8 bs[i].toNat)::R) os todo cs h n):SO E Q fn md R (⟨some p,g,[X,Y],.idxStr⟩::os) todo cs h n:=by
 subst hy
 exact SO.idxStr hg hd h1 h2 hi hw
theorem SO.forget {R':List (Path × AV)} (hs:∀ x ∈ R',look R x.1=some x.2) (hw:SO E Q fn md R' os todo cs h n):SO E Q fn md R os todo cs h n:=.mk fun t ht=>hw.run t (ht.sub (look_sub hs))
end
section
variable {h h':Hp} {n n' n0:Nat} {K:KS}
theorem ex_sliceSlFT {esz l j:Nat} {k:IntKind} {v:AV} {cells:List AV} (hs:Sl h n esz v l cells) (hn0:0 < l\/∀ a o,v≠.gsl a o 0 0) (hj:j<=l):∃ v',(∀ (n':Nat) K,execV (.sliceSl esz false true false) [v,.int k j] h n' K=K.v v' h n')/\Sl h n esz v' j (cells.take (j*esz)):=by
 have hmul:j*esz<=l*esz:=Nat.mul_le_mul_right _ hj
 obtain⟨h0,⟨rfl,rfl⟩ |⟨a,o,c,vs,h1,h2,h3,h4⟩⟩:=hs
 ·have:j=0:=by omega
  subst this
  refine⟨.nils,fun n' K=>?_,by simp,.inl ⟨rfl,rfl⟩⟩
  show bounds3 false true false [.int k (0:Nat)] 0 0 (fun _ _ _=>K.v .nils h n')=_
  unfold bounds3
  rw [boundK_false,boundK_true (Nat.le_refl _),boundK_false]
  rfl
 ·have hcells:(vs.drop o).take (j*esz)=cells.take (j*esz):=by
   rw [<- h4,List.take_take,Nat.min_eq_left hmul]
  have hlen:(cells.take (j*esz)).length=j*esz:=by rw [List.length_take,h0];omega
  rcases h1 with ⟨rfl,hc⟩ |⟨rfl,⟨hce,hz⟩ |⟨rfl,rfl⟩⟩
  ·refine⟨.slc a o j c,fun n' K=>?_,hlen,.inr ⟨a,o,c,vs,.inl ⟨rfl,by omega⟩,h2,by omega,hcells⟩⟩
   show bounds3 false true false [.int k j] l c (fun lo hi m=>movedK o lo m esz fun o'=>force (Nat.sub hi lo) fun l'=>force (Nat.sub m lo) fun c'=>K.v (.slc a o' l' c') h n')=_
   unfold bounds3
   rw [boundK_false,boundK_true (by omega),boundK_false]
   show movedK o 0 c esz _=_
   rw [movedK_eq,force_eq,force_eq]
   have:(if c=0 then o else o+0*esz)=o:=by split<;>omega
   rw [this];rfl
  ·subst c
   refine⟨.gsl a o j esz,fun n' K=>?_,hlen,.inr ⟨a,o,esz,vs,.inr ⟨rfl,.inl ⟨rfl,hz⟩⟩,h2,by omega,hcells⟩⟩
   show guardB (Nat.beq esz esz) (guardB (Nat.blt 0 esz) (readable h a fun cs=>lenK cs fun len=>force (Nat.div (Nat.sub len o) esz) fun known =>
    (bounds3 false true false [.int k j] l known fun lo hi _=>Bool.rec (motive:=fun _=>Bool)
     (guardB (Nat.beq lo 0) (K.v (.gsl a o hi esz) h n'))
     (force (Nat.add o (Nat.mul lo esz)) fun o'=>force (Nat.sub hi lo) fun l'=>K.v (.gsl a o' l' esz) h n') (Nat.blt lo known))))=_
   have hk:l<=(vs.length - o) / esz:=(Nat.le_div_iff_mul_le hz).2 (by omega)
   rw [show Nat.beq esz esz=true by simp,show Nat.blt 0 esz=true by simp [Nat.blt];omega,guardT,guardT,readable_eq h2.is,lenK_eq,force_eq]
   unfold bounds3
   rw [boundK_false,boundK_true (show j<=Nat.div (Nat.sub vs.length o) esz from Nat.le_trans hj hk),boundK_false]
   show Bool.rec (motive:=fun _=>Bool) (guardB (Nat.beq 0 0) (K.v (.gsl a o j esz) h n')) (force (Nat.add o (Nat.mul 0 esz)) fun o'=>force (Nat.sub j 0) fun l'=>K.v (.gsl a o' l' esz) h n') (Nat.blt 0 _)=_
   cases Nat.blt 0 (Nat.div (Nat.sub vs.length o) esz) with
   | false=>rfl
   | true =>
    show force (Nat.add o (Nat.mul 0 esz)) _=_
    rw [force_eq,force_eq]
    have:Nat.add o (Nat.mul 0 esz)=o:=by show o+0*esz=o;omega
    rw [this];rfl
  ·rcases hn0 with hn0|hn0
   ·omega
   ·exact absurd rfl (hn0 a o)
end
section
variable {E:Env} {Q:Post} {fn:Fr} {md:Md} {R:List (Path × AV)} {todo:List AItem} {cs:List AF} {h h' h0:Hp} {n n' n0:Nat} {os:List COp} {k:IntKind} {x y:Int} {p:Path} {g:Option (Path × Bool)} {xs:List CX} {X Y Z:CX} {oc:OC} {vs:List AV} {v:AV} {a o:Nat}
theorem SO.idxAt {α:Type} {f:α->List AV} {ys:List α} {esz:Nat} (i:Nat) (hf:∀ x,(f x).length=esz) (hg:wantB R g=true) (hd:Nat.beq p.len depth=true) (h1:lookX R X=some v) (h2:lookX R Y=some (.int .i64 y)) (hy:y=i) (hs:Sl h0 n0 esz v ys.length (ys.flatMap f)) (hi:i < ys.length)
  (hw:∀ a o,Pt h0 n0 (.ptr a o) (f ys[i])->SO E Q fn md ((p,.ptr a o)::R) os todo cs h n):SO E Q fn md R (⟨some p,g,[X,Y],.idxSlA esz⟩::os) todo cs h n:=by
 subst hy
 exact SO.idxOf hf hg hd h1 h2 hs hi hw
end
end Go.Ev
