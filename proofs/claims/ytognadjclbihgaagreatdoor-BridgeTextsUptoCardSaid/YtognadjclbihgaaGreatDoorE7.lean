/- The logic over the interpreter: numbers and bytes, and what is looked at again. -/
import Derived.Test.YtognadjclbihgaaGreatDoorE6
set_option linter.all false
namespace Go.Ev
section
variable {h h':Hp} {n n' n0:Nat} {K:KS} {x y:Int} {R:List (Path × AV)} {rc:List COp}
theorem ex_neg (hr:-9223372036854775807<=x/\x<=9223372036854775807):∀ K,execV .neg [.int .i64 x] h n K=K.v (.int .i64 (-x)) h n:=fun K=>by
 show forceI (IntKind.i64.wrap (Int.sub 0 x)) (fun z=>K.v (.int .i64 z) h n)=_
 rw [forceI_eq,show Int.sub 0 x=-x by show (0:Int) - x=_;omega,IntWalk.i64_in _ (by omega)]
theorem isZero_ne (hy:y≠0):isZero y=false:=by
 unfold isZero
 split
 ·exact absurd rfl hy
 ·rfl
abbrev byteC (b:UInt8):List AV:=[.int .u8 (b.toNat:Int)]
theorem codeK_bytes:∀ (bs:List UInt8) (k:Nat->Bool),codeK (bs.flatMap byteC) k=k (codeL bs)
 | [],k=>rfl
 | b::bs,k=>by
  have ih:=codeK_bytes bs
  show guardB (isU8 .u8) (guardB (Nat.blt b.toNat 256) (codeK (bs.flatMap byteC) fun c=>force (Nat.add b.toNat (Nat.mul 256 c)) k))=_
  have hb:=b.toNat_lt
  rw [show isU8 .u8=true from rfl,show Nat.blt b.toNat 256=true by simp [Nat.blt];omega,guardT,guardT,ih,force_eq]
  rfl
theorem ex_convBS {v:AV} {bs:List UInt8} (hs:Sl h n 1 v bs.length (bs.flatMap byteC)):∀ n' K,execV .convBS [v] h n' K=K.v (strOf bs) h n':=fun n' K=>by
 obtain⟨h0,⟨rfl,h1⟩ |⟨a,o,c,vs,h1,h2,h3,h4⟩⟩:=hs
 ·have:bs=[]:=List.length_eq_zero_iff.1 h1
  subst this;rfl
 ·have key:loadN h a o bs.length (fun vs=>codeK vs fun c=>K.v (.str bs.length c) h n')=K.v (strOf bs) h n':=by
   rw [loadN_eq h2.is (by omega),show (vs.drop o).take bs.length=bs.flatMap byteC by simpa using h4,codeK_bytes];rfl
  rcases h1 with ⟨rfl,_⟩ |⟨rfl,_⟩<;>exact key
theorem Still.loadV {c:COp} {X:CX} {p:Path} {v:AV} {a off:Nat} {us:List AV} {e:TypeId} {ro:Bool} {g:Option (Path × Bool)} (hg:wantB R g=true) (hp:look R p=some v) (hX:lookX R X=some (.ptr a off)) (hb0:hb h a=some (.cell us e ro)) (hc:us[off]?=some v) (hs:Still R rc h):Still R (⟨some p,g,[X],.loadC⟩::rc) h:=by
 refine Still.cons (c:=⟨some p,g,[X],.loadC⟩) hg rfl hp (one1 hX) (fun n K=>?_) hs
 have hlt:off < us.length:=by rw [List.getElem?_eq_some_iff] at hc;exact hc.1
 have h2:=Pt.cell hb0 (Nat.lt_succ_self a) (Nat.le_of_lt hlt)
 rw [List.drop_eq_getElem_cons hlt] at h2
 have:us[off]=v:=by rw [List.getElem?_eq_some_iff] at hc;exact hc.2
 rw [this] at h2
 exact ex_loadC h2 K
end
section
variable {E:Env} {Q:Post} {fn:Fr} {md:Md} {R:List (Path × AV)} {todo:List AItem} {cs:List AF} {h h' h0:Hp} {n n' n0:Nat} {os:List COp} {k:IntKind} {x y:Int} {p:Path} {g:Option (Path × Bool)} {xs:List CX} {X Y Z:CX} {oc:OC} {vs:List AV} {v:AV} {a o:Nat}
theorem SO.neg (hg:wantB R g=true) (hd:Nat.beq p.len depth=true) (h1:lookX R X=some (.int .i64 x)) (hr:-9223372036854775807<=x/\x<=9223372036854775807) (hw:SO E Q fn md ((p,.int .i64 (-x))::R) os todo cs h n):SO E Q fn md R (⟨some p,g,[X],.neg⟩::os) todo cs h n:=SO.val hg hd (one1 h1) (ex_neg hr) hw
theorem SO.convBS {bs:List UInt8} (hg:wantB R g=true) (hd:Nat.beq p.len depth=true) (h1:lookX R X=some v) (hs:Sl h n0 1 v bs.length (bs.flatMap byteC)) (hw:SO E Q fn md ((p,strOf bs)::R) os todo cs h n):SO E Q fn md R (⟨some p,g,[X],.convBS⟩::os) todo cs h n:=SO.val hg hd (one1 h1) (ex_convBS hs n) hw
end
def topN:IntKind->Nat
 | .i64=>9223372036854775807
 | .u64=>18446744073709551615
 | .u32=>4294967295
 | .u8=>255
 | _=>0
theorem wrapN (k:IntKind) (m:Nat) (hm:m<=topN k):k.wrap (m:Int)=m:=by
 cases k<;>simp only [topN] at hm
 case i64=>exact IntWalk.i64_in _ (by omega)
 case u64=>exact IntWalk.u64_in _ (by omega)
 case u32=>exact IntWalk.u32_in _ (by omega)
 case u8=>exact IntWalk.u8_in _ (by omega)
 all_goals (have:m=0:=by omega);subst this;rfl
theorem optI_some (z:Int) (k:Int->Bool):optI (some z) k=k z:=(show optI (some z) k=forceI z k from rfl).trans (forceI_eq z k)
section
variable {E:Env} {Q:Post} {fn:Fr} {md:Md} {R:List (Path × AV)} {todo:List AItem} {cs:List AF} {h h' h0:Hp} {n n' n0:Nat} {os:List COp} {k k':IntKind} {p:Path} {g:Option (Path × Bool)} {X Y:CX} {v:AV} {a:Nat}
theorem SO.addN (b:Nat) (hg:wantB R g=true) (hd:Nat.beq p.len depth=true) (h1:lookX R X=some (.int k (a:Int))) (h2:lookX R Y=some (.int k (b:Int))) (hr:a+b<=topN k) (hw:SO E Q fn md ((p,.int k ((a+b:Nat):Int))::R) os todo cs h n):SO E Q fn md R (⟨some p,g,[X,Y],.add⟩::os) todo cs h n :=
 SO.val hg hd (two h1 h2) (fun K=>by
  show exAdd _ h n K=_
  unfold exAdd
  rw [ints_two,forceI_eq,show Int.add (a:Int) (b:Int)=((a+b:Nat):Int) from (Int.natCast_add a b).symm,wrapN k _ hr]) hw
theorem SO.mulN (b:Nat) (hg:wantB R g=true) (hd:Nat.beq p.len depth=true) (h1:lookX R X=some (.int k (a:Int))) (h2:lookX R Y=some (.int k (b:Int))) (hr:a*b<=topN k) (hw:SO E Q fn md ((p,.int k ((a*b:Nat):Int))::R) os todo cs h n):SO E Q fn md R (⟨some p,g,[X,Y],.mul⟩::os) todo cs h n :=
 SO.val hg hd (two h1 h2) (fun K=>by
  show exMul _ h n K=_
  unfold exMul
  rw [ints_two,forceI_eq,show Int.mul (a:Int) (b:Int)=((a*b:Nat):Int) from (Int.natCast_mul a b).symm,wrapN k _ hr]) hw
theorem SO.quoK (b:Nat) (hg:wantB R g=true) (hd:Nat.beq p.len depth=true) (h1:lookX R X=some (.int k (a:Int))) (h2:lookX R Y=some (.int k (b:Int))) (hb:0 < b) (hr:a<=topN k) (hw:SO E Q fn md ((p,.int k ((a / b:Nat):Int))::R) os todo cs h n):SO E Q fn md R (⟨some p,g,[X,Y],.quo⟩::os) todo cs h n :=
 SO.val hg hd (two h1 h2) (fun K=>by
  show exQuo _ h n K=_
  unfold exQuo
  rw [ints_two,isZero_ne (by omega),show (!false)=true from rfl,guardT,forceI_eq,show Int.tdiv (a:Int) (b:Int)=((a / b:Nat):Int) from (Int.ofNat_tdiv a b).symm,wrapN k _ (Nat.le_trans (Nat.div_le_self a b) hr)]) hw
theorem SO.remK (b:Nat) (hg:wantB R g=true) (hd:Nat.beq p.len depth=true) (h1:lookX R X=some (.int k (a:Int))) (h2:lookX R Y=some (.int k (b:Int))) (hb:0 < b) (hw:SO E Q fn md ((p,.int k ((a % b:Nat):Int))::R) os todo cs h n):SO E Q fn md R (⟨some p,g,[X,Y],.rem⟩::os) todo cs h n :=
 SO.val hg hd (two h1 h2) (fun K=>by
  show exRem _ h n K=_
  unfold exRem
  rw [ints_two,isZero_ne (by omega),show (!false)=true from rfl,guardT,forceI_eq,show Int.tmod (a:Int) (b:Int)=((a % b:Nat):Int) from (Int.ofNat_tmod a b).symm]) hw
theorem SO.convN (hg:wantB R g=true) (hd:Nat.beq p.len depth=true) (h1:lookX R X=some (.int k (a:Int))) (hr:a<=topN k') (hw:SO E Q fn md ((p,.int k' (a:Int))::R) os todo cs h n):SO E Q fn md R (⟨some p,g,[X],.convInt k'⟩::os) todo cs h n :=
 SO.val hg hd (one1 h1) (fun K=>by
  show forceI (k'.wrap (a:Int)) (fun z=>K.v (.int k' z) h n)=_
  rw [forceI_eq,wrapN k' _ hr]) hw
theorem SO.idxStrK {bs:List UInt8} (hg:wantB R g=true) (hd:Nat.beq p.len depth=true) (h1:lookX R X=some (strOf bs)) (h2:lookX R Y=some (.int k (a:Int))) (hi:a < bs.length) (hw:SO E Q fn md ((p,.int .u8 bs[a].toNat)::R) os todo cs h n):SO E Q fn md R (⟨some p,g,[X,Y],.idxStr⟩::os) todo cs h n :=
 SO.val hg hd (two h1 h2) (fun K=>by
  show guardB (Nat.blt a bs.length) (force (strIdx (codeL bs) a) fun c=>K.v (.int .u8 (.ofNat c)) h n)=_
  have:Nat.blt a bs.length=true:=by simp [Nat.blt,Nat.lt_iff_add_one_le] at hi ⊢;exact hi
  rw [this,force_eq,strIdx_eq,codeL_get bs a hi];rfl) hw
theorem SO.shrN (b:Nat) (hg:wantB R g=true) (hd:Nat.beq p.len depth=true) (h1:lookX R X=some (.int k (a:Int))) (h2:lookX R Y=some (.int k' (b:Int))) (hb:b<=k.bits) (hw:SO E Q fn md ((p,.int k ((a / 2 ^ b:Nat):Int))::R) os todo cs h n):SO E Q fn md R (⟨some p,g,[X,Y],.shift .shr⟩::os) todo cs h n :=
 SO.val hg hd (two h1 h2) (fun K=>by
  show optI (pureInt (Op.shift .shr k (a:Int) k' (Int.ofNat b)) k) (fun z=>K.v (.int k z) h n)=_
  have e:pureInt (Op.shift .shr k (a:Int) k' (Int.ofNat b)) k=some ((a / 2 ^ b:Nat):Int):=by
   unfold Op.shift
   rw [if_neg (by simp)]
   simp only [Int.ofNat_eq_natCast,Int.toNat_natCast,Nat.min_eq_left hb]
   show some ((a:Int).fdiv (2 ^ b))=_
   congr 1
   rw [show ((2:Int) ^ b)=((2 ^ b:Nat):Int) by simp,Int.fdiv_eq_ediv_of_nonneg _ (Int.natCast_nonneg _)]
   rfl
  rw [e,optI_some]) hw
end
theorem rd_val {x:CX} {t:Tr} {v:AV} (hv:x.val t=some v) (k:AV->Bool):rd x t k=k v:=by
 cases x with
 | r p =>
  simp only [CX.val] at hv
  cases hg:getP p t<;>rw [hg] at hv<;>simp at hv
  subst hv
  rw [rd_r,hg];rfl
 | c u=>simp [CX.val] at hv;subst hv;rfl
section
variable {E:Env} {Q:Post} {fn:Fr} {md:Md} {R:List (Path × AV)} {todo:List AItem} {cs:List AF} {h:Hp} {n:Nat}
theorem SO.callM {c:COp} {os:List COp} {g:FuncId} {vals args:List AV} {P:AV->Hp->Nat->Prop} (hg:wantB R c.guard=true) (hd:dstOk c.dst=true) (hv:lookXs R c.xs=some vals) (hx:∀ K:KS,K.meth=E.meth->execV c.k vals h n K=K.call g args h n) (hf:Fn E g args h n P)
  (hw:∀ v h' n',P v h' n'->SO E Q fn .ops (putL R c.dst v) os todo cs h' n'):SO E Q fn .ops R (c::os) todo cs h n:=.mk fun t ht=>by
 obtain⟨ps,rs,body,h1,h2,h3⟩:=hf
 refine Wp.next (fun K=>?_) (h3 Q (.mk fn.f t (.inReg c.dst os::todo) fn.d fn.r::cs) fun v h' n' hp=>.next (fun K=>?_) ((hw v h' n' hp).run _ (ht.put _ hd v)))
 ·show stOps E (c::os) (.mk fn.f t todo fn.d fn.r) cs h n K=_
  rw [stOps_cons,want_yes ht hg,rds_val (lookXs_vals ht hv),spec_none ⟨⟨fun _ _ _=>true,fun _ _ _ _=>true,fun _ _ _ _=>true,E.meth⟩,hx _ rfl⟩,hx _ rfl]
  dsimp only
  rw [enter_eq h1 h2]
 ·show putD c.dst v t (fun regs=>K (.ops os (.mk fn.f regs todo fn.d fn.r) cs) h' n')=_
  rw [putD_eq]
theorem SO.invoke {os:List COp} {p:Path} {g:Option (Path × Bool)} {X:CX} {name:String} {ty:TypeId} {v:AV} {gf:FuncId} {P:AV->Hp->Nat->Prop} (hg:wantB R g=true) (hd:Nat.beq p.len depth=true) (h1:lookX R X=some (.ifc ty v)) (hm:E.meth ty name=some gf) (hf:Fn E gf [v] h n P)
  (hw:∀ v h' n',P v h' n'->SO E Q fn .ops ((p,v)::R) os todo cs h' n'):SO E Q fn .ops R (⟨some p,g,[X],.invoke name⟩::os) todo cs h n :=
 SO.callM (c:=⟨some p,g,[X],.invoke name⟩) hg hd (one1 h1) (fun K hK=>by
  show (Option.casesOn (motive:=fun _=>Bool) (K.meth ty name) false fun f=>K.call f [v] h n)=_
  rw [hK,hm]) hf hw
theorem SO.many {c:COp} {os:List COp} {vs:List AV} {P:AV->Hp->Nat->Prop} (hg:wantB R c.guard=true) (hd:dstOk c.dst=true) (hv:lookXs R c.xs=some vs) (hx:∀ K:KS,(∀ v h' n',P v h' n'->K.v v h' n'=true)->execV c.k vs h n K=true)
  (hw:∀ v h' n',P v h' n'->SO E Q fn .ops (putL R c.dst v) os todo cs h' n'):SO E Q fn .ops R (c::os) todo cs h n:=.mk fun t ht=>by
 refine Wp.step (fun st' h' n'=>∃ v,P v h' n'/\st'=.ops os (.mk fn.f (putR t c.dst v) todo fn.d fn.r) cs) ?_ ?_
 ·rw [show ∀ K:Kont,stepK E (.ops (c::os) (.mk fn.f t todo fn.d fn.r) cs) h n K=stOps E (c::os) (.mk fn.f t todo fn.d fn.r) cs h n K from fun _=>rfl,stOps_cons,want_yes ht hg,rds_val (lookXs_vals ht hv),spec_none ⟨KS.yes,hx KS.yes fun _ _ _ _=>rfl⟩]
  refine hx _ fun v h' n' hp=>?_
  dsimp only
  rw [putD_eq]
  exact dec_iff.2 ⟨v,hp,rfl⟩
 ·rintro st' h' n' ⟨v,hp,rfl⟩
  exact (hw v h' n' hp).run _ (ht.put _ hd v)
theorem SO.yieldB {os:List COp} {q:Path} {gd:Option (Path × Bool)} {xs:List CX} {l:Nat} {v:AV} {st:LoopState} {pd:Option CC} {g:FuncId} {t0:Tr} {p:Path} {asg body:CC} {d:Nat} {Rl:List (Path × AV)} {P:Bool->Hp->Nat->Prop} (hg:wantB R gd=true) (hd:Nat.beq q.len depth=true) (hv:lookXs R xs=some [.yld l,v])
  (hl:hb h l=some (.loop st pd g t0 [p] asg body d)) (ht0:RegIs t0 Rl) (hp:Nat.beq p.len depth=true)
  (hr:∀ (Q':Post) (cs':List AF),unwTop cs'=false->(∀ b h' n',P b h' n'->Wp E Q' (.give (.bool b) cs') h' n')->SW E Q' ⟨g,[],some l⟩ ((p,v)::Rl) [.code asg,.beginRound,.code body] cs' h n)
  (hw:∀ b h' n',P b h' n'->SO E Q fn .ops ((q,.bool b)::R) os todo cs h' n'):SO E Q fn .ops R (⟨some q,gd,xs,.callv⟩::os) todo cs h n:=.mk fun t ht=>by
 refine Wp.next (h':=h) (n':=n) (st':=.run (.mk g (setAll [p] [v] t0) [.code asg,.beginRound,.code body] [] (some l)) (.mk fn.f t (.inReg (some q) os::todo) fn.d fn.r::cs)) (fun K=>?_) ?_
 ·show stOps E (⟨some q,gd,xs,.callv⟩::os) (.mk fn.f t todo fn.d fn.r) cs h n K=_
  rw [stOps_cons]
  rw [want_yes (g:=gd) ht hg,rds_val (lookXs_vals ht hv)]
  show yieldK l [v] (.mk fn.f t (.inReg (some q) os::todo) fn.d fn.r) cs h n K=_
  unfold yieldK
  rw [blk_at hl]
  show setsK [p] [v] t0 (fun t'=>K (.run (.mk g t' [.code asg,.beginRound,.code body] [] (some l)) (.mk fn.f t (.inReg (some q) os::todo) fn.d fn.r::cs)) h n)=_
  rw [Bool.eq_iff_iff,setsK_iff]
  simp
 ·refine (hr Q (.mk fn.f t (.inReg (some q) os::todo) fn.d fn.r::cs) rfl fun b h' n' hp'=>.next (fun K=>?_) ((hw b h' n' hp').run _ (ht.put (some q) hd (.bool b)))).run _ (ht0.put (some p) hp v)
  show putD (some q) (.bool b) t (fun regs=>K (.ops os (.mk fn.f regs todo fn.d fn.r) cs) h' n')=_
  rw [putD_eq]
theorem SO.yield {os:List COp} {q:Path} {gd:Option (Path × Bool)} {xs:List CX} {l:Nat} {v:AV} {st:LoopState} {pd:Option CC} {g:FuncId} {t0:Tr} {p:Path} {asg body:CC} {d:Nat} {Rl:List (Path × AV)} {P:Hp->Nat->Prop} (hg:wantB R gd=true) (hd:Nat.beq q.len depth=true) (hv:lookXs R xs=some [.yld l,v])
  (hl:hb h l=some (.loop st pd g t0 [p] asg body d)) (ht0:RegIs t0 Rl) (hp:Nat.beq p.len depth=true)
  (hr:∀ (Q':Post) (cs':List AF),unwTop cs'=false->(∀ h' n',P h' n'->Wp E Q' (.give (.bool true) cs') h' n')->SW E Q' ⟨g,[],some l⟩ ((p,v)::Rl) [.code asg,.beginRound,.code body] cs' h n)
  (hw:∀ h' n',P h' n'->SO E Q fn .ops ((q,.bool true)::R) os todo cs h' n'):SO E Q fn .ops R (⟨some q,gd,xs,.callv⟩::os) todo cs h n :=
 SO.yieldB (P:=fun b h' n'=>b=true/\P h' n') hg hd hv hl ht0 hp (fun Q' cs' hun hq=>hr Q' cs' hun fun h' n' hp=>hq true h' n' ⟨rfl,hp⟩) (by rintro _ h' n' ⟨rfl,hp⟩;exact hw h' n' hp)
theorem SW.beginRound {gf g':FuncId} {l d:Nat} {p:Option CC} {t':Tr} {ps:List Path} {asg body:CC} (hl:hb h l=some (.loop .ready p g' t' ps asg body d)) (hw:∀ h1,hb h1 l=some (.loop .busy p g' t' ps asg body d)->(∀ b,b≠l->hb h1 b=hb h b)->SW E Q ⟨gf,[],some l⟩ R todo cs h1 n):SW E Q ⟨gf,[],some l⟩ R (.beginRound::todo) cs h n:=.mk fun t ht=>by
 refine Wp.next (fun K=>?_) ((hw (hput l (.loop .busy p g' t' ps asg body d) h) (hb_self _ _ _) fun b hb=>hb_other _ _ hb).run t ht)
 show blkK h l (fun b=>ifLoop b fun st p fn' regs' ps asg body d=>LoopState.casesOn (motive:=fun _=>Bool) st (putK l (.loop .busy p fn' regs' ps asg body d) h fun h=>K (.run (.mk gf t todo [] (some l)) cs) h n) false false false)=_
 rw [blk_at hl]
 dsimp only [ifLoop]
 rw [putK_eq]
theorem SW.roundEnd {gf g':FuncId} {l d:Nat} {st:LoopState} {p:Option CC} {t':Tr} {ps:List Path} {asg body:CC} (hun:unwTop cs=false) (hl:hb h l=some (.loop st p g' t' ps asg body d)) (hw:∀ h1,hb h1 l=some (.loop .ready none g' t' ps asg body d)->(∀ b,b≠l->hb h1 b=hb h b)->Wp E Q (.give (.bool true) cs) h1 n):SW E Q ⟨gf,[],some l⟩ R [] cs h n:=.mk fun t ht=>by
 refine Wp.next (fun K=>?_) (hw (hput l (.loop .ready none g' t' ps asg body d) h) (hb_self _ _ _) fun b hb=>hb_other _ _ hb)
 show guardB (!unwTop cs) (blkK h l (fun b=>ifLoop b fun _ _ fn' regs' ps asg body d=>putK l (.loop .ready none fn' regs' ps asg body d) h fun h=>K (.give (.bool true) cs) h n))=_
 rw [hun,show (!false)=true from rfl,guardT,blk_at hl]
 dsimp only [ifLoop]
 rw [putK_eq]
theorem SW.roundRet {gf g':FuncId} {l d:Nat} {st:LoopState} {p:Option CC} {t':Tr} {ps:List Path} {asg body:CC} (hun:unwTop cs=false) (hl:hb h l=some (.loop st p g' t' ps asg body d)) (hw:∀ h1,hb h1 l=some (.loop .done (some .ret) g' t' ps asg body d)->(∀ b,b≠l->hb h1 b=hb h b)->Wp E Q (.give (.bool false) cs) h1 n):SW E Q ⟨gf,[],some l⟩ R (.code .ret::todo) cs h n:=.mk fun t ht=>by
 refine Wp.next (fun K=>?_) (hw (hput l (.loop .done (some .ret) g' t' ps asg body d) h) (hb_self _ _ _) fun b hb=>hb_other _ _ hb)
 show guardB (!unwTop cs) (blkK h l (fun b=>ifLoop b fun _ _ fn' regs' ps asg body d=>putK l (.loop .done (some .ret) fn' regs' ps asg body d) h fun h=>K (.give (.bool false) cs) h n))=_
 rw [hun,show (!false)=true from rfl,guardT,blk_at hl]
 dsimp only [ifLoop]
 rw [putK_eq]
theorem SW.rangeF {g gf:FuncId} {X:CX} {ps pf:List Path} {rf:List CR} {asg body bf:CC} {a b:List AV} (hx:lookX R X=some (.fn gf a b)) (hfn:E.func gf=some ⟨pf,rf,bf⟩) (hlen:pf.length=(a++(.yld (n+1)::b)).length)
  (hw:∀ t,RegIs t R->∀ h2,hb h2 n=some (.dfr true)->hb h2 (n+1)=some (.loop .ready none g t ps asg body n)->Gr h n h2 (n+2)->Wp E Q (.run (.mk gf (setAll pf (a++(.yld (n+1)::b)) .nil) [.code bf] [] none) (.mk g t (.inRF (n+1)::todo) [.mark n] none::cs)) h2 (n+2)):SW E Q ⟨g,[],none⟩ R (.code (.rangeFunc X ps asg body)::todo) cs h n:=.mk fun t ht=>by
 have hG:Gr h n (hput (n+1) (.loop .ready none g t ps asg body n) (hput n (.dfr true) h)) (n+2):=((Gr.refl h n).new _).new _
 refine Wp.next (fun K=>?_) (hw t ht _ (by rw [hb_other _ _ (by omega),hb_self]) (hb_self _ _ _) hG)
 show rd X t (fun fv=>rangeK E fv ps asg body g t todo [] none cs h n K)=_
 rw [rd_val (lookX_val ht hx)]
 show newK (.dfr true) h n (fun d h n=>newK (.loop .ready none g t ps asg body d) h n fun l h n=>appK a (.yld l::b) fun args=>enterK E gf args (.mk g t (.inRF l::todo) [.mark d] none) cs h n K)=_
 rw [new_at,new_at,appK_eq,enter_eq hfn hlen]
theorem Wp.afterRF {g g':FuncId} {l d d':Nat} {t t':Tr} {ps:List Path} {asg body:CC} {v:AV} (ht:RegIs t R) (hl:hb h l=some (.loop .ready none g' t' ps asg body d')) (hw:∀ h1,(∀ b,b≠l->hb h1 b=hb h b)->SW E Q ⟨g,[.mark d],none⟩ R todo cs h1 n):Wp E Q (.give v (.mk g t (.inRF l::todo) [.mark d] none::cs)) h n:=by
 refine Wp.next (h':=h) (n':=n) (st':=.run (.mk g t (.endRF l::todo) [.mark d] none) cs) (fun K=>rfl) ?_
 refine Wp.next (fun K=>?_) ((hw (hput l (.loop .exhausted none g' t' ps asg body d') h) fun b hb=>hb_other _ _ hb).run t ht)
 show blkK h l (fun b=>ifLoop b fun st p fn' regs' ps asg body d''=>LoopState.casesOn (motive:=fun _=>Bool) st
   (putK l (.loop .exhausted p fn' regs' ps asg body d'') h fun h=>Option.casesOn (motive:=fun _=>Bool) p (K (.run (.mk g t todo [.mark d] none) cs) h n) fun c=>K (.run (.mk g t (.code c::todo) [.mark d] none) cs) h n)
   false
   (putK l (.loop .exhausted p fn' regs' ps asg body d'') h fun h=>Option.casesOn (motive:=fun _=>Bool) p (K (.run (.mk g t todo [.mark d] none) cs) h n) fun c=>K (.run (.mk g t (.code c::todo) [.mark d] none) cs) h n)
   false)=_
 rw [blk_at hl]
 dsimp only [ifLoop]
 rw [putK_eq]
theorem Wp.afterRet {g g':FuncId} {l d d':Nat} {t t':Tr} {ps:List Path} {asg body:CC} {v:AV} (ht:RegIs t R) (hl:hb h l=some (.loop .done (some .ret) g' t' ps asg body d')) (hw:∀ h1,(∀ b,b≠l->hb h1 b=hb h b)->SW E Q ⟨g,[.mark d],none⟩ R (.code .ret::todo) cs h1 n):Wp E Q (.give v (.mk g t (.inRF l::todo) [.mark d] none::cs)) h n:=by
 refine Wp.next (h':=h) (n':=n) (st':=.run (.mk g t (.endRF l::todo) [.mark d] none) cs) (fun K=>rfl) ?_
 refine Wp.next (fun K=>?_) ((hw (hput l (.loop .exhausted (some .ret) g' t' ps asg body d') h) fun b hb=>hb_other _ _ hb).run t ht)
 show blkK h l (fun b=>ifLoop b fun st p fn' regs' ps asg body d''=>LoopState.casesOn (motive:=fun _=>Bool) st
   (putK l (.loop .exhausted p fn' regs' ps asg body d'') h fun h=>Option.casesOn (motive:=fun _=>Bool) p (K (.run (.mk g t todo [.mark d] none) cs) h n) fun c=>K (.run (.mk g t (.code c::todo) [.mark d] none) cs) h n)
   false
   (putK l (.loop .exhausted p fn' regs' ps asg body d'') h fun h=>Option.casesOn (motive:=fun _=>Bool) p (K (.run (.mk g t todo [.mark d] none) cs) h n) fun c=>K (.run (.mk g t (.code c::todo) [.mark d] none) cs) h n)
   false)=_
 rw [blk_at hl]
 dsimp only [ifLoop]
 rw [putK_eq]
theorem SW.retD {gf:FuncId} {ps:List Path} {rs:List CR} {body:CC} {d:Nat} (hf:E.func gf=some ⟨ps,rs,body⟩) (hd:hb h d=some (.dfr true)) (hr:∀ h1,(∀ b,b≠d->hb h1 b=hb h b)->resAs R h1 rs fun vs=>Wp E Q (.give (packA vs) cs) h1 n):SW E Q ⟨gf,[.mark d],none⟩ R (.code .ret::todo) cs h n:=.mk fun t ht=>by
 obtain⟨vs,h1,h2⟩:=resultsK_eq ht (hr (hput d (.dfr false) h) fun b hb=>hb_other _ _ hb)
 refine .next (fun K=>?_) h1
 show blkK h d (fun b=>ifDfr b fun o=>guardB o (putK d (.dfr false) h fun h=>Option.casesOn (motive:=fun _=>Bool) (E.func gf) false fun cf=>CF.casesOn (motive:=fun _=>Bool) cf fun _ rs _=>resultsK rs t h fun vs=>packK vs fun v=>K (.give v cs) h n))=_
 rw [blk_at hd]
 dsimp only [ifDfr]
 rw [guardT,putK_eq,hf]
 dsimp only
 rw [h2,packK_eq]
end
section
variable {E:Env} {Q:Post} {fn:Fr} {md:Md} {R:List (Path × AV)} {todo:List AItem} {cs:List AF} {h:Hp} {n:Nat} {os:List COp} {g:Option (Path × Bool)} {p:Path} {X:CX} {xs:List CX}
def FnP (E:Env) (g:FuncId) (args:List AV) (h:Hp) (n:Nat) (P PP:AV->Hp->Nat->Prop):Prop :=
 ∃ ps rs body,E.func g=some ⟨ps,rs,body⟩/\ps.length=args.length/\∀ (Q:Post) (cs:List AF),(∀ v h' n',P v h' n'->Wp E Q (.give v cs) h' n')->(∀ v h' n',PP v h' n'->Wp E Q (.raise v cs) h' n')->Wp E Q (.run (.mk g (setAll ps args .nil) [.code body] [] none) cs) h n
theorem FnP.of {g m:Nat} {args:List AV} {rs:List CR} {body:CC} {P PP:AV->Hp->Nat->Prop} (hf:E.func g=some ⟨firstPaths m,rs,body⟩) (hm:m<=256) (hl:args.length=m)
  (hw:∀ (Q:Post) (cs:List AF),(∀ v h' n',P v h' n'->Wp E Q (.give v cs) h' n')->(∀ v h' n',PP v h' n'->Wp E Q (.raise v cs) h' n')->SW E Q ⟨g,[],none⟩ ((firstPaths m).zip args) [.code body] cs h n):FnP E g args h n P PP :=
 ⟨_,_,_,hf,by simp [firstPaths,hl],fun Q cs hq hqq=>(hw Q cs hq hqq).run _ (RegIs.first hm hl)⟩
theorem Wp.unwPan {gf:FuncId} {t:Tr} {td:List AItem} {ro:Option Nat} {v:AV} (hw:Wp E Q (.raise v cs) h n):Wp E Q (.unw (.pan v false) (.mk gf t td [] ro) cs) h n:=.next (fun _=>rfl) hw
theorem SO.panic {gf:FuncId} {d:Option Path} {ty:TypeId} {v:AV} (hg:wantB R g=true) (h1:lookX R X=some (.ifc ty v)) (hw:Wp E Q (.raise (.ifc ty v) cs) h n):SO E Q ⟨gf,[],none⟩ .ops R (⟨d,g,[X],.panic⟩::os) todo cs h n:=.mk fun t ht=>by
 refine Wp.next (st':=.unw (.pan (.ifc ty v) false) (.mk gf t [] [] none) cs) (h':=h) (n':=n) (fun K=>?_) (Wp.unwPan hw)
 show stOps E (⟨d,g,[X],.panic⟩::os) (.mk gf t todo [] none) cs h n K=_
 rw [stOps_cons,want_yes (g:=g) ht hg,rds_val (lookXs_vals ht (one1 h1))]
 rfl
theorem SO.callP {gf ff:FuncId} {args:List AV} {P PP:AV->Hp->Nat->Prop} (hg:wantB R g=true) (hd:Nat.beq p.len depth=true) (hv:lookXs R xs=some args) (hf:FnP E ff args h n P PP)
  (hw:∀ v h' n',P v h' n'->SO E Q ⟨gf,[],none⟩ md ((p,v)::R) os todo cs h' n') (hpp:∀ v h' n',PP v h' n'->Wp E Q (.raise v cs) h' n'):SO E Q ⟨gf,[],none⟩ md R (⟨some p,g,xs,.call ff⟩::os) todo cs h n:=.mk fun t ht=>by
 obtain⟨ps,rs,body,h1,h2,h3⟩:=hf
 have hx:∀ K:KS,execV (.call ff) args h n K=K.call ff args h n:=fun _=>rfl
 have hd':dstOk (some p)=true:=hd
 cases md with
 | ops =>
  refine Wp.next (fun K=>?_) (h3 Q (.mk gf t (.inReg (some p) os::todo) [] none::cs) (fun v h' n' hp=>.next (fun K=>?_) ((hw v h' n' hp).run _ (ht.put _ hd' v))) fun v h' n' hp=>.next (fun K=>rfl) (Wp.unwPan (hpp v h' n' hp)))
  ·show stOps E (⟨some p,g,xs,.call ff⟩::os) (.mk gf t todo [] none) cs h n K=_
   rw [stOps_cons,want_yes (g:=g) ht hg,rds_val (lookXs_vals ht hv),spec_none ⟨KS.yes,hx KS.yes⟩,hx]
   dsimp only
   rw [enter_eq h1 h2]
  ·show putD (some p) v t (fun regs=>K (.ops os (.mk gf regs todo [] none) cs) h' n')=_
   rw [putD_eq]
 | draw rc ds =>
  cases os with
  | nil =>
   refine Wp.next (fun K=>?_) (h3 Q (.mk gf t (.inDraw (some p) rc ds::todo) [] none::cs) (fun v h' n' hp=>.next (fun K=>?_) ((hw v h' n' hp).run _ (ht.put _ hd' v)).2) fun v h' n' hp=>.next (fun K=>rfl) (hpp v h' n' hp))
   ·show stDraw E (⟨⟨some p,g,xs,.call ff⟩,rc⟩::ds) (.mk gf t todo [] none) cs h n K=_
    rw [stDraw_cons,want_yes (g:=g) ht hg,rds_val (lookXs_vals ht hv),hx]
    dsimp only
    rw [enter_eq h1 h2]
   ·show putD (some p) v t (fun regs=>recheckK rc regs h' n' (K (.draw ds (.mk gf regs todo [] none) cs) h' n'))=_
    rw [putD_eq,((hw v h' n' hp).run _ (ht.put _ hd' v)).1]
  | cons c' os' =>
   refine Wp.next (fun K=>?_) (h3 Q (.mk gf t (.inDraw (some p) [] (attach rc (c'::os')++ds)::todo) [] none::cs) (fun v h' n' hp=>.next (fun K=>?_) ((hw v h' n' hp).run _ (ht.put _ hd' v))) fun v h' n' hp=>.next (fun K=>rfl) (hpp v h' n' hp))
   ·show stDraw E (⟨⟨some p,g,xs,.call ff⟩,[]⟩::(attach rc (c'::os')++ds)) (.mk gf t todo [] none) cs h n K=_
    rw [stDraw_cons,want_yes (g:=g) ht hg,rds_val (lookXs_vals ht hv),hx]
    dsimp only
    rw [enter_eq h1 h2]
   ·show putD (some p) v t (fun regs=>recheckK [] regs h' n' (K (.draw (attach rc (c'::os')++ds) (.mk gf regs todo [] none) cs) h' n'))=_
    rw [putD_eq]
    rfl
theorem SO.defer {gf g2:FuncId} {a b:List AV} (hg:wantB R g=true) (h1:lookX R X=some (.fn g2 a b)) (hw:SO E Q ⟨gf,[.call g2 (a++b)],none⟩ .ops R os todo cs h n):SO E Q ⟨gf,[],none⟩ .ops R (⟨none,g,[X],.defer⟩::os) todo cs h n:=.mk fun t ht=>by
 refine Wp.next (fun K=>?_) (hw.run t ht)
 show stOps E (⟨none,g,[X],.defer⟩::os) (.mk gf t todo [] none) cs h n K=_
 rw [stOps_cons,want_yes (g:=g) ht hg,rds_val (lookXs_vals ht (one1 h1))]
 show appK [] b (fun args=>appK a args fun args=>K (.ops os (.mk gf t todo [.call g2 args] none) cs) h n)=_
 rw [appK_eq,appK_eq]
 rfl
theorem SO.callD {gf ff g2:FuncId} {args args2:List AV} {ps2:List Path} {rs2:List CR} {body2:CC} {P PP:AV->Hp->Nat->Prop} (hg:wantB R g=true) (hd:Nat.beq p.len depth=true) (hv:lookXs R xs=some args) (hf:FnP E ff args h n P PP)
  (hf2:E.func g2=some ⟨ps2,rs2,body2⟩) (hl2:ps2.length=args2.length)
  (hw:∀ v h' n',P v h' n'->SO E Q ⟨gf,[.call g2 args2],none⟩ .ops ((p,v)::R) os todo cs h' n')
  (hpp:∀ t v h' n',RegIs t R->PP v h' n'->Wp E Q (.run (.mk g2 (setAll ps2 args2 .nil) [.code body2] [] none) (.mk gf t [.inUnw (.pan v false)] [] none::cs)) h' n'):SO E Q ⟨gf,[.call g2 args2],none⟩ .ops R (⟨some p,g,xs,.call ff⟩::os) todo cs h n:=.mk fun t ht=>by
 obtain⟨ps,rs,body,h1,h2,h3⟩:=hf
 have hx:∀ K:KS,execV (.call ff) args h n K=K.call ff args h n:=fun _=>rfl
 have hd':dstOk (some p)=true:=hd
 refine Wp.next (fun K=>?_) (h3 Q (.mk gf t (.inReg (some p) os::todo) [.call g2 args2] none::cs) (fun v h' n' hp=>.next (fun K=>?_) ((hw v h' n' hp).run _ (ht.put _ hd' v))) fun v h' n' hp=>?_)
 ·show stOps E (⟨some p,g,xs,.call ff⟩::os) (.mk gf t todo [.call g2 args2] none) cs h n K=_
  rw [stOps_cons,want_yes (g:=g) ht hg,rds_val (lookXs_vals ht hv),spec_none ⟨KS.yes,hx KS.yes⟩,hx]
  dsimp only
  rw [enter_eq h1 h2]
 ·show putD (some p) v t (fun regs=>K (.ops os (.mk gf regs todo [.call g2 args2] none) cs) h' n')=_
  rw [putD_eq]
 ·refine Wp.next (st':=.unw (.pan v false) (.mk gf t [] [.call g2 args2] none) cs) (h':=h') (n':=n') (fun K=>rfl) ?_
  refine Wp.next (fun K=>?_) (hpp t v h' n' ht hp)
  show enterK E g2 args2 (.mk gf t [.inUnw (.pan v false)] [] none) cs h' n' K=_
  rw [enter_eq hf2 hl2]
theorem SW.retC {gf g2:FuncId} {args2:List AV} {ps2:List Path} {rs2:List CR} {body2:CC} (hf2:E.func g2=some ⟨ps2,rs2,body2⟩) (hl2:ps2.length=args2.length)
  (hw:∀ t,RegIs t R->Wp E Q (.run (.mk g2 (setAll ps2 args2 .nil) [.code body2] [] none) (.mk gf t [.inUnw .ret] [] none::cs)) h n):SW E Q ⟨gf,[.call g2 args2],none⟩ R (.code .ret::todo) cs h n:=.mk fun t ht=>by
 refine Wp.next (st':=.unw .ret (.mk gf t [] [.call g2 args2] none) cs) (h':=h) (n':=n) (fun K=>rfl) ?_
 refine Wp.next (fun K=>?_) (hw t ht)
 show enterK E g2 args2 (.mk gf t [.inUnw .ret] [] none) cs h n K=_
 rw [enter_eq hf2 hl2]
theorem SO.recoverN {gf f2:FuncId} {t2:Tr} {ds2:List Df} (hg:wantB R g=true) (hd:Nat.beq p.len depth=true) (hw:SO E Q ⟨gf,[],none⟩ .ops ((p,.nili)::R) os todo (.mk f2 t2 [.inUnw .ret] ds2 none::cs) h n):SO E Q ⟨gf,[],none⟩ .ops R (⟨some p,g,[],.recover⟩::os) todo (.mk f2 t2 [.inUnw .ret] ds2 none::cs) h n:=.mk fun t ht=>by
 have hd':dstOk (some p)=true:=hd
 refine Wp.next (fun K=>?_) (hw.run _ (ht.put _ hd' .nili))
 show stOps E (⟨some p,g,[],.recover⟩::os) (.mk gf t todo [] none) (.mk f2 t2 [.inUnw .ret] ds2 none::cs) h n K=_
 rw [stOps_cons,want_yes (g:=g) ht hg]
 show putD (some p) .nili t (fun regs=>K (.ops os (.mk gf regs todo [] none) (.mk f2 t2 [.inUnw .ret] ds2 none::cs)) h n)=_
 rw [putD_eq]
theorem SO.recoverV {gf f2:FuncId} {t2:Tr} {ds2:List Df} {v:AV} (hg:wantB R g=true) (hd:Nat.beq p.len depth=true) (hw:SO E Q ⟨gf,[],none⟩ .ops ((p,v)::R) os todo (.mk f2 t2 [.inUnw (.pan v true)] ds2 none::cs) h n):SO E Q ⟨gf,[],none⟩ .ops R (⟨some p,g,[],.recover⟩::os) todo (.mk f2 t2 [.inUnw (.pan v false)] ds2 none::cs) h n:=.mk fun t ht=>by
 have hd':dstOk (some p)=true:=hd
 refine Wp.next (fun K=>?_) (hw.run _ (ht.put _ hd' v))
 show stOps E (⟨some p,g,[],.recover⟩::os) (.mk gf t todo [] none) (.mk f2 t2 [.inUnw (.pan v false)] ds2 none::cs) h n K=_
 rw [stOps_cons,want_yes (g:=g) ht hg]
 show putD (some p) v t (fun regs=>K (.ops os (.mk gf regs todo [] none) (.mk f2 t2 [.inUnw (.pan v true)] ds2 none::cs)) h n)=_
 rw [putD_eq]
theorem Wp.unwRet {gf:FuncId} {t:Tr} {u:Un} {v:AV} {ps:List Path} {rs:List CR} {body:CC} (hu:u=.ret\/∃ v,u=.pan v true) (ht:RegIs t R) (hf:E.func gf=some ⟨ps,rs,body⟩) (hr:resAs R h rs fun vs=>Wp E Q (.give (packA vs) cs) h n):Wp E Q (.give v (.mk gf t [.inUnw u] [] none::cs)) h n:=by
 obtain⟨vs,h1,h2⟩:=resultsK_eq ht hr
 refine Wp.next (st':=.unw .ret (.mk gf t [] [] none) cs) (h':=h) (n':=n) (fun K=>?_) (Wp.next (fun K=>?_) h1)
 ·rcases hu with rfl |⟨v,rfl⟩<;>rfl
 ·show (Option.casesOn (motive:=fun _=>Bool) (E.func gf) false fun cf=>CF.casesOn (motive:=fun _=>Bool) cf fun _ rs _=>resultsK rs t h fun vs=>packK vs fun v=>K (.give v cs) h n)=_
  rw [hf]
  show resultsK rs t h _=_
  rw [h2,packK_eq]
theorem SO.assertN {ty:TypeId} {z:AV} (hg:wantB R g=true) (hd:Nat.beq p.len depth=true) (h1:lookX R X=some .nili) (hw:SO E Q fn md ((p,.tup [z,.bool false])::R) os todo cs h n):SO E Q fn md R (⟨some p,g,[X],.assert ty z⟩::os) todo cs h n :=
 SO.op (c:=⟨some p,g,[X],.assert ty z⟩) hg hd (one1 h1) (fun _=>rfl) hw
theorem SO.assertY {ty:TypeId} {z v:AV} (hg:wantB R g=true) (hd:Nat.beq p.len depth=true) (h1:lookX R X=some (.ifc ty v)) (hw:SO E Q fn md ((p,.tup [v,.bool true])::R) os todo cs h n):SO E Q fn md R (⟨some p,g,[X],.assert ty z⟩::os) todo cs h n :=
 SO.op (c:=⟨some p,g,[X],.assert ty z⟩) hg hd (one1 h1) (fun K=>by
  show Bool.rec (motive:=fun _=>Bool) (K.v (.tup [z,.bool false]) h n) (K.v (.tup [v,.bool true]) h n) (Nat.beq ty ty)=_
  rw [Nat.beq_refl]) hw
end
structure KeyT {α:Type} [DecidableEq α] (sk:SK) (kf:α->AV):Prop where
 ok:∀ a,keyOk [sk] false (kf a)=true
 eq:∀ a b,keyEq [sk] false (kf a) (kf b)=some (decide (a=b))
theorem strKey:KeyT .str strOf:=⟨fun a=>rfl,fun a b=>by
 show (if keyOk [.str] false (strOf b)=true then scalarEq (strOf a) (strOf b) else none)=_
 rw [if_pos (show keyOk [.str] false (strOf b)=true from rfl)]
 show some (Nat.beq a.length b.length&&Nat.beq (codeL a) (codeL b))=_
 rw [beq_codeL]
 congr 1
 rw [Bool.eq_iff_iff];simp⟩
abbrev intK (i:Int):AV:=.int .i64 i
theorem intKey:KeyT .int intK:=⟨fun a=>rfl,fun a b=>by
 show (if keyOk [.int] false (intK b)=true then scalarEq (intK a) (intK b) else none)=_
 rw [if_pos (show keyOk [.int] false (intK b)=true from rfl)]
 show (if kindEq .i64 .i64 then some (a == b) else none)=_
 rw [if_pos (by rw [kindEq_iff])]
 congr 1⟩
structure MapE {α:Type} (kf:α->AV) (es:List (AV × AV × Nat)) (keys:List α):Prop where
 keys:es.map (·.1)=keys.map kf
 vals:∀ e ∈ es,e.2.1=.bool true
 stamps:es.map (·.2.2)=List.range es.length
def MapIs {α:Type} (kf:α->AV) (h:Hp) (a:Nat) (keys:List α):Prop:=∃ es,hb h a=some (.map es es.length)/\MapE kf es keys
theorem MapIs.same {α:Type} {kf:α->AV} {h h':Hp} {a:Nat} {keys:List α} (hm:MapIs kf h a keys) (e:hb h' a=hb h a):MapIs kf h' a keys:=by
 obtain⟨es,h1,h2⟩:=hm
 exact⟨es,by rw [e];exact h1,h2⟩
section
variable {α:Type} [DecidableEq α] {sk:SK} {kf:α->AV}
theorem findE_not (T:KeyT sk kf) (k:α):∀ (es:List (AV × AV × Nat)) (keys:List α) (i:Nat),es.map (·.1)=keys.map kf->k ∉ keys->findE [sk] false (kf k) es i=some none
 | [],_,_,_,_=>rfl
 | e::es,[],i,h,_=>by simp at h
 | e::es,x::keys,i,h,hn=>by
  simp only [List.map_cons,List.cons.injEq] at h
  have hx:k≠x:=fun e=>hn (by simp [e])
  simp only [findE,h.1,T.eq,decide_eq_false hx]
  exact findE_not T k es keys (i+1) h.2 (fun hm=>hn (by simp [hm]))
theorem findE_yes (T:KeyT sk kf) (k:α):∀ (es:List (AV × AV × Nat)) (keys:List α) (i:Nat),es.map (·.1)=keys.map kf->(∀ e ∈ es,e.2.1=.bool true)->k ∈ keys->∃ j e,findE [sk] false (kf k) es i=some (some (i+j,.bool true))/\es[j]?=some e/\e.1=kf k/\e.2.1=.bool true
 | [],[],_,_,_,hk=>by simp at hk
 | [],x::keys,_,h,_,_=>by simp at h
 | e::es,[],i,h,_,_=>by simp at h
 | e::es,x::keys,i,h,hv,hk=>by
  simp only [List.map_cons,List.cons.injEq] at h
  by_cases hx:k=x
  ·refine⟨0,e,?_,rfl,by rw [h.1,hx],hv e (by simp)⟩
   simp only [findE,h.1,T.eq,decide_eq_true hx,hv e (by simp),Nat.add_zero]
  ·obtain⟨j,e',h1,h2,h3⟩:=findE_yes T k es keys (i+1) h.2 (fun y hy=>hv y (by simp [hy])) (by rcases List.mem_cons.1 hk with hk|hk;exact absurd hk hx;exact hk)
   refine⟨j+1,e',?_,h2,h3⟩
   simp only [findE,h.1,T.eq,decide_eq_false hx,h1]
   congr 3;omega
variable {E:Env} {Q:Post} {fn:Fr} {md:Md} {R:List (Path × AV)} {todo:List AItem} {cs:List AF} {h h' h0:Hp} {n n' n0:Nat} {os:List COp} {p:Path} {g:Option (Path × Bool)} {X Y Z:CX} {a:Nat} {keys:List α}
theorem SO.lookupB (T:KeyT sk kf) (k:α) (hg:wantB R g=true) (hd:Nat.beq p.len depth=true) (h1:lookX R X=some (.map a)) (h2:lookX R Y=some (kf k)) (hm:MapIs kf h a keys) (hw:SO E Q fn md ((p,.bool (decide (k ∈ keys)))::R) os todo cs h n):SO E Q fn md R (⟨some p,g,[X,Y],.lookup [sk] false (.bool false) false⟩::os) todo cs h n:=by
 obtain⟨es,hes,hE⟩:=hm
 refine SO.val hg hd (two h1 h2) (fun K=>?_) hw
 show guardB (keyOk [sk] false (kf k)) (blkK h a fun b=>ifMapB b fun es _=>Option.casesOn (motive:=fun _=>Bool) (findE [sk] false (kf k) es 0) false fun r=>foundK (.bool false) false r fun v=>K.v v h n)=_
 rw [T.ok,guardT,blk_at hes]
 show (Option.casesOn (motive:=fun _=>Bool) (findE [sk] false (kf k) es 0) false fun r=>foundK (.bool false) false r fun v=>K.v v h n)=_
 by_cases hk:k ∈ keys
 ·obtain⟨j,e,f1,_⟩:=findE_yes T k es keys 0 hE.keys hE.vals hk
  rw [f1,decide_eq_true hk];rfl
 ·rw [findE_not T k es keys 0 hE.keys hk,decide_eq_false hk];rfl
theorem SO.lookupT (T:KeyT sk kf) (k:α) (hg:wantB R g=true) (hd:Nat.beq p.len depth=true) (h1:lookX R X=some (.map a)) (h2:lookX R Y=some (kf k)) (hm:MapIs kf h a keys) (hk:k ∈ keys) (hw:SO E Q fn md ((p,.bool true)::R) os todo cs h n):SO E Q fn md R (⟨some p,g,[X,Y],.lookup [sk] false (.bool false) false⟩::os) todo cs h n:=SO.lookupB T k hg hd h1 h2 hm (by rw [decide_eq_true hk];exact hw)
theorem SO.lookupF (T:KeyT sk kf) (k:α) (hg:wantB R g=true) (hd:Nat.beq p.len depth=true) (h1:lookX R X=some (.map a)) (h2:lookX R Y=some (kf k)) (hm:MapIs kf h a keys) (hk:k ∉ keys) (hw:SO E Q fn md ((p,.bool false)::R) os todo cs h n):SO E Q fn md R (⟨some p,g,[X,Y],.lookup [sk] false (.bool false) false⟩::os) todo cs h n:=SO.lookupB T k hg hd h1 h2 hm (by rw [decide_eq_false hk];exact hw)
theorem SO.mapSet (T:KeyT sk kf) (k:α) (hg:wantB R g=true) (h1:lookX R X=some (.map a)) (h2:lookX R Y=some (kf k)) (h3:lookX R Z=some (.bool true)) (hm:MapIs kf h a keys)
  (hw:∀ h1 keys',MapIs kf h1 a keys'->(∀ x,x ∈ keys' ↔ x ∈ keys\/x=k)->(∀ b,b≠a->hb h1 b=hb h b)->SO E Q fn md R os todo cs h1 n):SO E Q fn md R (⟨none,g,[X,Y,Z],.mapUpd [sk] false⟩::os) todo cs h n:=by
 obtain⟨es,hes,hE⟩:=hm
 by_cases hk:k ∈ keys
 ·obtain⟨j,e,f1,f2,f3,f4⟩:=findE_yes T k es keys 0 hE.keys hE.vals hk
  refine SO.val0 (v:=.tup []) hg (three h1 h2 h3) (fun K=>?_) (hw (hput a (.map es es.length) h) keys ?_ (fun x=>⟨.inl,fun h=>by rcases h with h|rfl;exact h;exact hk⟩) fun b hb=>hb_other _ _ hb)
  ·show guardB (keyOk [sk] false (kf k)) (blkK h a fun b=>ifMapB b fun es clock=>Option.casesOn (motive:=fun _=>Bool) (findE [sk] false (kf k) es 0) false fun r=>Option.casesOn (motive:=fun _=>Bool) r (appK es [(kf k,.bool true,clock)] fun es=>force (Nat.succ clock) fun c=>putK a (.map es c) h fun h=>K.v (.tup []) h n)
    fun p=>modK p.1 (kf k) (.bool true) es fun es=>putK a (.map es clock) h fun h=>K.v (.tup []) h n)=_
   rw [T.ok,guardT,blk_at hes]
   show (Option.casesOn (motive:=fun _=>Bool) (findE [sk] false (kf k) es 0) false fun r=>Option.casesOn (motive:=fun _=>Bool) r (appK es [(kf k,.bool true,es.length)] fun es'=>force (Nat.succ es.length) fun c=>putK a (.map es' c) h fun h=>K.v (.tup []) h n)
    fun p=>modK p.1 (kf k) (.bool true) es fun es'=>putK a (.map es' es.length) h fun h=>K.v (.tup []) h n)=_
   rw [f1]
   show modK (0+j) (kf k) (.bool true) es (fun es'=>putK a (.map es' es.length) h fun h=>K.v (.tup []) h n)=_
   rw [Nat.zero_add,Bool.eq_iff_iff,modK_iff]
   have hset:es.set j (kf k,.bool true,e.2.2)=es:=by
    have:(kf k,AV.bool true,e.2.2)=e:=by rw [<- f3,<- f4]
    rw [this]
    obtain⟨hj,he⟩:=List.getElem?_eq_some_iff.1 f2
    rw [<- he,List.set_getElem_self]
   constructor
   ·rintro⟨e',g1,g2⟩
    rw [f2] at g1
    simp at g1;subst g1
    rw [hset,putK_eq] at g2
    exact g2
   ·exact fun g2=>⟨e,f2,by rw [hset,putK_eq];exact g2⟩
  ·exact⟨es,hb_self _ _ _,hE⟩
 ·refine SO.val0 (v:=.tup []) hg (three h1 h2 h3) (fun K=>?_) (hw (hput a (.map (es++[(kf k,.bool true,es.length)]) (es.length+1)) h) (keys++[k]) ?_ (fun x=>by simp) fun b hb=>hb_other _ _ hb)
  ·show guardB (keyOk [sk] false (kf k)) (blkK h a fun b=>ifMapB b fun es clock=>Option.casesOn (motive:=fun _=>Bool) (findE [sk] false (kf k) es 0) false fun r=>Option.casesOn (motive:=fun _=>Bool) r (appK es [(kf k,.bool true,clock)] fun es=>force (Nat.succ clock) fun c=>putK a (.map es c) h fun h=>K.v (.tup []) h n)
    fun p=>modK p.1 (kf k) (.bool true) es fun es=>putK a (.map es clock) h fun h=>K.v (.tup []) h n)=_
   rw [T.ok,guardT,blk_at hes]
   show (Option.casesOn (motive:=fun _=>Bool) (findE [sk] false (kf k) es 0) false fun r=>Option.casesOn (motive:=fun _=>Bool) r (appK es [(kf k,.bool true,es.length)] fun es'=>force (Nat.succ es.length) fun c=>putK a (.map es' c) h fun h=>K.v (.tup []) h n)
    fun p=>modK p.1 (kf k) (.bool true) es fun es'=>putK a (.map es' es.length) h fun h=>K.v (.tup []) h n)=_
   rw [findE_not T k es keys 0 hE.keys hk]
   show appK es [(kf k,.bool true,es.length)] (fun es'=>force (Nat.succ es.length) fun c=>putK a (.map es' c) h fun h=>K.v (.tup []) h n)=_
   rw [appK_eq,force_eq,putK_eq]
  ·refine⟨es++[(kf k,.bool true,es.length)],by rw [hb_self];simp,?_,?_,?_⟩
   ·simp [hE.keys]
   ·intro e he
    rcases List.mem_append.1 he with he|he
    ·exact hE.vals e he
    ·simp at he;subst he;rfl
   ·simp [hE.stamps,List.range_succ]
theorem SO.mkMap (kf:α->AV) (hg:wantB R g=true) (hd:Nat.beq p.len depth=true) (hw:∀ h1,MapIs kf h1 n ([]:List α)->Gr h n h1 (n+1)->SO E Q fn md ((p,.map n)::R) os todo cs h1 (n+1)):SO E Q fn md R (⟨some p,g,[],.mkMap⟩::os) todo cs h n:=by
 refine SO.val hg hd rfl (fun K=>?_) (hw (hput n (.map [] 0) h) ⟨[],hb_self _ _ _,rfl,by simp,rfl⟩ ((Gr.refl h n).new _))
 show newK (.map [] 0) h n (fun a h n=>K.v (.map a) h n)=_
 rw [new_at]
theorem SO.rangeM {m c:Nat} {es:List (AV × AV × Nat)} (hg:wantB R g=true) (hd:Nat.beq p.len depth=true) (h1:lookX R X=some (.map m)) (hm:hb h m=some (.map es c)) (hw:∀ h1,hb h1 n=some (.miter (some m) c [] c)->Gr h n h1 (n+1)->SO E Q fn md ((p,.ptr n 0)::R) os todo cs h1 (n+1)):SO E Q fn md R (⟨some p,g,[X],.rangeMap⟩::os) todo cs h n:=by
 refine SO.val hg hd (one1 h1) (fun K=>?_) (hw (hput n (.miter (some m) c [] c) h) (hb_self _ _ _) ((Gr.refl h n).new _))
 show blkK h m (fun b=>ifMapB b fun _ clock=>newK (.miter (some m) clock [] clock) h n fun a h n=>K.v (.ptr a 0) h n)=_
 rw [blk_at hm]
 show newK (.miter (some m) c [] c) h n (fun a h n=>K.v (.ptr a 0) h n)=_
 rw [new_at]
theorem SO.nextM {m c:Nat} {es:List (AV × AV × Nat)} {seen:List Nat} (hg:wantB R g=true) (hd:Nat.beq p.len depth=true) (h1:lookX R X=some (.ptr a 0)) (hi:hb h a=some (.miter (some m) c seen c)) (hm:hb h m=some (.map es c)) (hst:∀ e ∈ es,e.2.2 < c)
  (hend:(∀ e ∈ es,e.2.2 ∈ seen)->SO E Q fn .ops ((p,.tup [.bool false])::R) os todo cs h n)
  (hw:∀ e ∈ es,e.2.2 ∉ seen->∀ h1,hb h1 a=some (.miter (some m) c (seen++[e.2.2]) c)->(∀ b,b≠a->hb h1 b=hb h b)->SO E Q fn .ops ((p,.tup [.bool true,e.1,e.2.1])::R) os todo cs h1 n):SO E Q fn .ops R (⟨some p,g,[X],.nextMap⟩::os) todo cs h n:=by
 have hguard:(seen.isEmpty||es.isEmpty||es.any fun e=>Nat.blt e.2.2 c)=true:=by
  cases es with
  | nil=>simp
  | cons e es =>
   have:=hst e (by simp)
   have h2:Nat.blt e.2.2 c=true:=by simp [Nat.blt,Nat.lt_iff_add_one_le] at this ⊢;exact this
   simp [h2]
 refine SO.many (c:=⟨some p,g,[X],.nextMap⟩) (P:=fun v h1 n1=>n1=n/\(((∀ e ∈ es,e.2.2 ∈ seen)/\v=.tup [.bool false]/\h1=h)\/∃ e ∈ es,e.2.2 ∉ seen/\v=.tup [.bool true,e.1,e.2.1]/\h1=hput a (.miter (some m) c (seen++[e.2.2]) c) h)) hg hd (one1 h1) (fun K hK=>?_) ?_
 ·show guardB (Nat.beq 0 0) (blkK h a fun b=>ifMiter b fun m since seen last =>
   Option.casesOn (motive:=fun _=>Bool) m (K.v (.tup [.bool false]) h n) fun m=>blkK h m fun b=>ifMapB b fun es clock=>guardB (seen.isEmpty||es.isEmpty||es.any fun e=>Nat.blt e.2.2 last) (
    List.casesOn (motive:=fun _=>Bool) (es.filter fun e=>!seen.contains e.2.2) (K.v (.tup [.bool false]) h n) fun e rest=>allK (e::rest) fun e =>
     guardB (Nat.blt e.2.2 since) (appK seen [e.2.2] fun seen=>putK a (.miter (some m) since seen clock) h fun h=>K.v (.tup [.bool true,e.1,e.2.1]) h n)))=true
  rw [show Nat.beq 0 0=true from rfl,guardT,blk_at hi]
  show blkK h m (fun b=>ifMapB b fun es clock=>guardB (seen.isEmpty||es.isEmpty||es.any fun e=>Nat.blt e.2.2 c) (
    List.casesOn (motive:=fun _=>Bool) (es.filter fun e=>!seen.contains e.2.2) (K.v (.tup [.bool false]) h n) fun e rest=>allK (e::rest) fun e =>
     guardB (Nat.blt e.2.2 c) (appK seen [e.2.2] fun seen=>putK a (.miter (some m) c seen clock) h fun h=>K.v (.tup [.bool true,e.1,e.2.1]) h n)))=true
  rw [blk_at hm]
  show guardB (seen.isEmpty||es.isEmpty||es.any fun e=>Nat.blt e.2.2 c) (
    List.casesOn (motive:=fun _=>Bool) (es.filter fun e=>!seen.contains e.2.2) (K.v (.tup [.bool false]) h n) fun e rest=>allK (e::rest) fun e =>
     guardB (Nat.blt e.2.2 c) (appK seen [e.2.2] fun seen=>putK a (.miter (some m) c seen c) h fun h=>K.v (.tup [.bool true,e.1,e.2.1]) h n))=true
  rw [hguard,guardT]
  cases hf:es.filter fun e=>!seen.contains e.2.2 with
  | nil =>
   refine hK _ _ _ ⟨rfl,.inl ⟨fun e he=>?_,rfl,rfl⟩⟩
   have:=List.filter_eq_nil_iff.1 hf e he
   simpa using this
  | cons e rest =>
   show allK (e::rest) _=true
   rw [allK_iff]
   intro x hx
   rw [<- hf] at hx
   obtain⟨hx1,hx2⟩:=List.mem_filter.1 hx
   have h2:Nat.blt x.2.2 c=true:=by have:=hst x hx1;simp [Nat.blt,Nat.lt_iff_add_one_le] at this ⊢;exact this
   rw [h2,guardT,appK_eq,putK_eq]
   exact hK _ _ _ ⟨rfl,.inr ⟨x,hx1,by simpa using hx2,rfl,rfl⟩⟩
 ·rintro v h1 n1 ⟨rfl,⟨h2,rfl,rfl⟩ |⟨e,h2,h3,rfl,rfl⟩⟩
  ·exact hend h2
  ·exact hw e h2 h3 _ (hb_self _ _ _) fun b hb=>hb_other _ _ hb
theorem SO.entryM {m s c:Nat} {es:List (AV × AV × Nat)} {seen:List Nat} {e:AV × AV × Nat} (hg:wantB R g=true) (hd:Nat.beq p.len depth=true) (h1:lookX R X=some (.ptr a 0)) (hi:hb h a=some (.miter (some m) s (seen++[e.2.2]) c)) (hm:hb h m=some (.map es c)) (hf:es.find? (fun x=>Nat.beq x.2.2 e.2.2)=some e) (hw:SO E Q fn md ((p,.tup [e.1,e.2.1])::R) os todo cs h n):SO E Q fn md R (⟨some p,g,[X],.entry⟩::os) todo cs h n:=by
 refine SO.val hg hd (one1 h1) (fun K=>?_) hw
 show guardB (Nat.beq 0 0) (blkK h a fun b=>ifMiter b fun m _ seen stepped=>Option.casesOn (motive:=fun _=>Bool) m false fun m=>blkK h m fun b=>ifMapB b fun es clock=>guardB (Nat.beq clock stepped)
  (Option.casesOn (motive:=fun _=>Bool) seen.getLast? false fun stamp=>Option.casesOn (motive:=fun _=>Bool) (es.find? fun e=>Nat.beq e.2.2 stamp) false fun e=>K.v (.tup [e.1,e.2.1]) h n))=_
 rw [show Nat.beq 0 0=true from rfl,guardT,blk_at hi]
 show blkK h m (fun b=>ifMapB b fun es clock=>guardB (Nat.beq clock c)
  (Option.casesOn (motive:=fun _=>Bool) (seen++[e.2.2]).getLast? false fun stamp=>Option.casesOn (motive:=fun _=>Bool) (es.find? fun e=>Nat.beq e.2.2 stamp) false fun e=>K.v (.tup [e.1,e.2.1]) h n))=_
 rw [blk_at hm]
 show guardB (Nat.beq c c) (Option.casesOn (motive:=fun _=>Bool) (seen++[e.2.2]).getLast? false fun stamp=>Option.casesOn (motive:=fun _=>Bool) (es.find? fun e=>Nat.beq e.2.2 stamp) false fun e=>K.v (.tup [e.1,e.2.1]) h n)=_
 rw [show Nat.beq c c=true by simp,guardT,List.getLast?_concat]
 show (Option.casesOn (motive:=fun _=>Bool) (es.find? fun x=>Nat.beq x.2.2 e.2.2) false fun e=>K.v (.tup [e.1,e.2.1]) h n)=_
 rw [hf]
end
theorem find_stamp {es:List (AV × AV × Nat)} (hn:(es.map (·.2.2)).Nodup) {e:AV × AV × Nat} (he:e ∈ es):es.find? (fun x=>Nat.beq x.2.2 e.2.2)=some e:=by
 induction es with
 | nil=>simp at he
 | cons x es ih =>
  simp only [List.map_cons,List.nodup_cons] at hn
  rw [List.find?_cons]
  rcases List.mem_cons.1 he with rfl|he
  ·simp
  ·have hne:x.2.2≠e.2.2:=fun h=>hn.1 (by rw [h];exact List.mem_map_of_mem he)
   have:Nat.beq x.2.2 e.2.2=false:=by
    cases hq:Nat.beq x.2.2 e.2.2 with
    | false=>rfl
    | true=>exact absurd (Nat.eq_of_beq_eq_true hq) hne
   rw [this]
   exact ih hn.2 he
theorem MapE.nodup {α:Type} {kf:α->AV} {es:List (AV × AV × Nat)} {keys:List α} (hE:MapE kf es keys):(es.map (·.2.2)).Nodup:=by rw [hE.stamps];exact List.nodup_range
theorem MapE.lt {α:Type} {kf:α->AV} {es:List (AV × AV × Nat)} {keys:List α} (hE:MapE kf es keys):∀ e ∈ es,e.2.2 < es.length:=by
 intro e he
 have:e.2.2 ∈ es.map (·.2.2):=List.mem_map_of_mem he
 rw [hE.stamps] at this
 simpa using this
theorem fn_calls_on {P:Program} {N:FuncId->Option Ext} {w0 w:World} (hP:POk ⟨P,N,w0⟩) {g:FuncId} {args:List AV} {cargs:Array Value} {φ:Phi} {h:Hp} {n:Nat} {Pst:AV->Hp->Nat->Prop} (hf:Fn (env ⟨P,N,w0⟩ fun _=>false) g args h n Pst) (hw:W ⟨P,N,w0⟩ φ h n w) (hr:VRels φ args cargs.toList) :
  Calls P g cargs w fun e w'=>∃ v c φ' h' n',Pst v h' n'/\VRel φ' v c/\e=.returned c/\φ.le φ'/\W ⟨P,N,w0⟩ φ' h' n' w':=by
 intro cs0
 obtain⟨ps,rs,body,h1,h2,h3⟩:=hf
 have hwp:=h3 (fun st h' n'=>∃ v,Pst v h' n'/\st=.give v []) [] (fun v h' n' hp=>.done ⟨v,hp,rfl⟩)
 have hK:enterK (env ⟨P,N,w0⟩ fun _=>false) g args (.mk g .nil [] [] none) [] h n (fun st _ _=>dec (st=.run (.mk g (setAll ps args .nil) [.code body] [] none) [.mk g .nil [] [] none]))=true:=by
  rw [enter_eq h1 h2];exact dec_iff.2 rfl
 obtain⟨t,nt,bd,T,k1,k2,k3,k4⟩:=enter_frame (kd:=.normal) (w:=w) hP hK hr
 have k1':=dec_iff.1 k1
 simp only [St.run.injEq,AF.mk.injEq,List.cons.injEq,AItem.code.injEq,and_true,true_and] at k1'
 obtain⟨rfl,rfl⟩:=k1'
 have hs:SR ⟨P,N,w0⟩ g cs0 φ h n w (.run (.mk g (setAll ps args .nil) [.code (compC P N nt bd)] [] none) []) (lone (mkF .normal g T [.code bd] [] none) ([]++cs0) w):=⟨nt,T,_,[],none,[],n,rfl,k4,Nat.le_refl _,rfl,fun _=>⟨rfl,rfl⟩⟩
 rcases wp_sim hP hwp hs hw with ⟨v,c,φ',h',n',w',fr,e1,_⟩ |⟨st',h',n',φ',w',M',hle,⟨v,hp,rfl⟩,hst,hsr,hw'⟩
 ·simp at e1
 ·obtain⟨c,frs,m,hv,_,hstk,hh⟩:=hsr
  have hfr:frs=[]:=hstk
  subst hfr
  rcases hh with ⟨fr,rfl,hlv,hfn⟩ |⟨fr,frs',e,_⟩
  ·refine⟨.returned c,w',fr,⟨v,c,φ',h',n',hp,hv,rfl,hle,hw'⟩,?_,hfn rfl,hlv⟩
   rw [k3]
   show Steps P _ _
   simpa using hst
  ·simp at e
theorem exists_hp (F:Nat->AB):∀ n,∃ h:Hp,∀ a,hb h a=if a < n then some (F a) else none
 | 0=>⟨⟨.nil,fun _=>none⟩,fun a=>by
  have hnil:∀ d a,hget d a .nil=.nil:=by
   intro d
   induction d with
   | zero=>intro a;rfl
   | succ d ih=>intro a;rw [hget_succ];split<;>exact ih _
  rw [if_neg (Nat.not_lt_zero a)]
  unfold hb
  split
  ·rw [hnil]
  ·rfl⟩
 | n+1=>by
  obtain⟨h,hh⟩:=exists_hp F n
  refine⟨hput n (F n) h,fun a=>?_⟩
  by_cases ha:a=n
  ·subst ha;rw [hb_self,if_pos (by omega)]
  ·rw [hb_other _ _ ha,hh]
   by_cases h1:a < n
   ·rw [if_pos h1,if_pos (by omega)]
   ·rw [if_neg h1,if_neg (by omega)]
def inpPhi (pl:Nat->Pl) (n:Nat):Phi:=fun a=>if 1<=a/\a < n then some (pl a) else none
theorem inpPhi_at {pl:Nat->Pl} {n a:Nat} (h1:1<=a) (h2:a < n):inpPhi pl n a=some (pl a):=if_pos ⟨h1,h2⟩
theorem w_inp {P:Program} {N:FuncId->Option Ext} {w:World} {n:Nat} (F:Nat->List AV) (pl:Nat->Pl)
  (hF:∀ a,1<=a->a < n->∃ c e fr,w.heap[(pl a).blk]?=some (.cells c e fr)/\c.size=(pl a).size/\(pl a).off+(F a).length<=(pl a).size/\CRel (inpPhi pl n) (F a) (pl a).off c)
  (hg:∀ g,N (1000000+g)≠none->1<=g/\g < n/\∃ sz,pl g=⟨g,0,sz⟩) :
  ∃ h,W ⟨P,N,w⟩ (inpPhi pl n) h n w/\∀ a,a < n->hb h a=some (.inp (F a)):=by
 obtain⟨h,hh⟩:=exists_hp (fun a=>.inp (F a)) n
 have hsome:∀ a p,inpPhi pl n a=some p->(1<=a/\a < n)/\p=pl a:=fun a p hp=>by
  unfold inpPhi at hp
  split at hp
  ·rename_i h1;simp at hp;exact⟨h1,hp.symm⟩
  ·simp at hp
 have hat:∀ a,a < n->hb h a=some (.inp (F a)):=fun a ha=>by rw [hh,if_pos ha]
 refine⟨h,⟨?_,?_,?_,?_,fun _ _=>rfl,Nat.le_refl _,trivial,rfl,rfl,rfl,?_⟩,hat⟩
 ·intro a p hp
  obtain⟨⟨h1,h2⟩,rfl⟩:=hsome a p hp
  obtain⟨c,e,fr,k1,k2,k3,k4⟩:=hF a h1 h2
  exact⟨h2,_,_,hat a h2,k1,c,e,fr,rfl,k2,k3,k4⟩
 ·intro a a' p p' hp hp' hne he
  obtain⟨⟨h1,h2⟩,rfl⟩:=hsome a p hp
  obtain⟨c,e,fr,k1,_⟩:=hF a h1 h2
  rw [Array.getElem?_eq_some_iff] at k1
  exact .inr k1.1
 ·intro a p vs e f z hp hr
  obtain⟨⟨h1,h2⟩,rfl⟩:=hsome a p hp
  rw [hat a h2] at hr
  simp at hr
 ·intro a ha _
  rw [hh,if_neg (by omega)]
 ·intro g hgn
  obtain⟨h1,h2,sz,h3⟩:=hg g hgn
  exact⟨sz,by rw [inpPhi_at h1 h2,h3]⟩
section
variable {E:Env} {Q:Post} {fn:Fr} {md:Md} {R:List (Path × AV)} {todo:List AItem} {cs:List AF} {h h' h0:Hp} {n n' n0:Nat} {os:List COp} {k k':IntKind} {p:Path} {g:Option (Path × Bool)} {X Y:CX} {u v:AV} {a o b:Nat} {xs:List CX} {vs:List AV}
theorem SO.mkIfc {t:TypeId} (hg:wantB R g=true) (hd:Nat.beq p.len depth=true) (h1:lookX R X=some v) (hw:SO E Q fn md ((p,.ifc t v)::R) os todo cs h n):SO E Q fn md R (⟨some p,g,[X],.mkIfc t⟩::os) todo cs h n :=
 SO.val hg hd (one1 h1) (fun K=>rfl) hw
theorem SO.mkFnA {f:FuncId} {m:Nat} (hg:wantB R g=true) (hd:Nat.beq p.len depth=true) (hv:lookXs R xs=some vs) (hx:∀ K,execV (.mkFn f m) vs h n K=K.v v h n) (hw:SO E Q fn md ((p,v)::R) os todo cs h n):SO E Q fn md R (⟨some p,g,xs,.mkFn f m⟩::os) todo cs h n:=SO.val hg hd hv hx hw
theorem SO.subK (b:Nat) (hg:wantB R g=true) (hd:Nat.beq p.len depth=true) (h1:lookX R X=some (.int k (a:Int))) (h2:lookX R Y=some (.int k (b:Int))) (hle:b<=a) (hr:a<=topN k) (hw:SO E Q fn md ((p,.int k ((a - b:Nat):Int))::R) os todo cs h n):SO E Q fn md R (⟨some p,g,[X,Y],.sub⟩::os) todo cs h n :=
 SO.val hg hd (two h1 h2) (fun K=>by
  show exSub _ h n K=_
  unfold exSub
  rw [ints_two,forceI_eq,show Int.sub (a:Int) (b:Int)=((a - b:Nat):Int) from (by show (a:Int) - (b:Int)=_;omega),wrapN k _ (by omega)]) hw
theorem SO.sliceAt {bs:List UInt8} {x y:Int} {Z:CX} (i j:Nat) (hg:wantB R g=true) (hd:Nat.beq p.len depth=true) (h1:lookX R X=some (strOf bs)) (h2:lookX R Y=some (.int k y)) (h3:lookX R Z=some (.int k' x)) (hy:y=(j:Int)) (hx:x=(i:Int)) (hij:i<=j) (hj:j<=bs.length) (hw:SO E Q fn md ((p,strOf (part bs i j))::R) os todo cs h n):SO E Q fn md R (⟨some p,g,[X,Y,Z],.sliceStr true true⟩::os) todo cs h n:=by
 subst hy hx
 exact SO.sliceTT hg hd h1 h2 h3 hij hj hw
theorem SO.sliceFTb {bs:List UInt8} {y:Int} (j:Nat) (hg:wantB R g=true) (hd:Nat.beq p.len depth=true) (h1:lookX R X=some (strOf bs)) (h2:lookX R Y=some (.int k y)) (hy:y=(j:Int)) (hj:j<=bs.length) (hw:SO E Q fn md ((p,strOf (bs.take j))::R) os todo cs h n):SO E Q fn md R (⟨some p,g,[X,Y],.sliceStr false true⟩::os) todo cs h n:=by
 subst hy
 exact SO.sliceFT hg hd h1 h2 hj hw
theorem SO.sliceTFb {bs:List UInt8} {y:Int} (i:Nat) (hg:wantB R g=true) (hd:Nat.beq p.len depth=true) (h1:lookX R X=some (strOf bs)) (h2:lookX R Y=some (.int k y)) (hy:y=(i:Int)) (hi:i<=bs.length) (hw:SO E Q fn md ((p,strOf (bs.drop i))::R) os todo cs h n):SO E Q fn md R (⟨some p,g,[X,Y],.sliceStr true false⟩::os) todo cs h n:=by
 subst hy
 exact SO.sliceTF hg hd h1 h2 hi hw
theorem SO.put1 {us:List AV} {e:TypeId} (hg:wantB R g=true) (h1:lookX R X=some (.ptr a o)) (h2:lookX R Y=some v) (hb0:hb h a=some (.cell us e false)) (hv:v.cells=[v]) (hv':∀ us,v≠.tup us) (hl:o < us.length)
  (hw:∀ h1,hb h1 a=some (.cell (splice o [v] us) e false)->(∀ b,b≠a->hb h1 b=hb h b)->SO E Q fn md R os todo cs h1 n):SO E Q fn md R (⟨none,g,[X,Y],.store 1⟩::os) todo cs h n :=
 SO.store hg h1 h2 hb0 hv' (by rw [hv];rfl) (by omega) fun h1 hc hk=>hw h1 (by rw [hv] at hc;exact hc) hk
theorem SO.ifcNil {c:Bool} {f:TypeId->Bool} {t:TypeId} {neg:Bool} (hg:wantB R g=true) (hd:Nat.beq p.len depth=true) (h1:lookX R X=some (.ifc t v)) (h2:lookX R Y=some .nili) (hw:SO E Q fn md ((p,.bool neg)::R) os todo cs h n):SO E Q fn md R (⟨some p,g,[X,Y],.eql neg (.iface c f)⟩::os) todo cs h n :=
 SO.val hg hd (two h1 h2) (fun K=>by cases neg<;>rfl) hw
theorem SO.nilNil {f:TypeId->Bool} {neg:Bool} (hg:wantB R g=true) (hd:Nat.beq p.len depth=true) (h1:lookX R X=some .nili) (h2:lookX R Y=some .nili) (hw:SO E Q fn md ((p,.bool (!neg))::R) os todo cs h n):SO E Q fn md R (⟨some p,g,[X,Y],.eql neg (.iface true f)⟩::os) todo cs h n :=
 SO.val hg hd (two h1 h2) (fun K=>by cases neg<;>rfl) hw
theorem SO.ifcInt {c:Bool} {f:TypeId->Bool} {t:TypeId} {x y:Int} {neg z:Bool} (hg:wantB R g=true) (hd:Nat.beq p.len depth=true) (h1:lookX R X=some (.ifc t (.int k x))) (h2:lookX R Y=some (.ifc t (.int k y))) (hf:f t=true) (hz:((x == y) != neg)=z) (hw:SO E Q fn md ((p,.bool z)::R) os todo cs h n):SO E Q fn md R (⟨some p,g,[X,Y],.eql neg (.iface c f)⟩::os) todo cs h n :=
 SO.val hg hd (two h1 h2) (fun K=>by
  have hk:kindEq k k=true:=by simp [kindEq]
  have he:eqlB (.iface c f) (.ifc t (.int k x)) (.ifc t (.int k y))=some (x == y):=by simp [eqlB,intEq,hf,hk]
  show optB (eqlB (.iface c f) (.ifc t (.int k x)) (.ifc t (.int k y))) (fun z=>forceB (z != neg) fun z=>K.v (.bool z) h n)=_
  rw [he,<- hz]
  cases (x == y)<;>cases neg<;>rfl) hw
theorem SO.notB {b:Bool} (hg:wantB R g=true) (hd:Nat.beq p.len depth=true) (h1:lookX R X=some (.bool b)) (hw:SO E Q fn md ((p,.bool (!b))::R) os todo cs h n):SO E Q fn md R (⟨some p,g,[X],.not⟩::os) todo cs h n :=
 SO.val hg hd (one1 h1) (fun K=>by cases b<;>rfl) hw
end
def But (b:Nat) (h:Hp) (n:Nat) (h':Hp) (n':Nat):Prop:=n<=n'/\∀ c,c < n->c≠b->hb h' c=hb h c
theorem But.trans {b n n' n'':Nat} {h h' h'':Hp} (x:But b h n h' n') (y:But b h' n' h'' n''):But b h n h'' n'':=⟨Nat.le_trans x.1 y.1,fun c h1 h2=>by rw [y.2 c (by have:=x.1;omega) h2,x.2 c h1 h2]⟩
theorem But.of {b n n':Nat} {h h':Hp} (x:Gr h n h' n'):But b h n h' n':=⟨x.le,fun c h1 _=>x.same c h1⟩
theorem But.put {b n:Nat} {h h':Hp} (x:∀ c,c≠b->hb h' c=hb h c):But b h n h' n:=⟨Nat.le_refl _,fun c _ h2=>x c h2⟩
theorem own_low {h:Hp} {n0 n esz:Nat} {e:TypeId} {v:AV} {fo:Option Nat} {cells:List AV} (ho:Own h n0 n esz e v fo cells) {f:Nat} (hf:fo=some f):n0<=f/\f < n:=by
 rcases ho with ⟨_,_,h1⟩ |⟨_,_,_,_,_,_,_,_,h1⟩ |⟨a,g,lo,l,_,_,_,h3,h4,_,_,h7,_,h1⟩
 ·rw [h1] at hf;simp at hf
 ·rw [h1] at hf;simp at hf
 ·rw [h1] at hf;simp at hf;omega
theorem own_one {h:Hp} {n0 n esz:Nat} {e:TypeId} {v:AV} {fo:Option Nat} {cells:List AV} (ho:Own h n0 n esz e v fo cells):v.cells=[v]/\∀ us,v≠.tup us:=by
 rcases ho with ⟨rfl,_⟩ |⟨_,_,_,rfl,_⟩ |⟨_,_,_,_,rfl,_⟩<;>exact⟨rfl,fun us=>by simp⟩
end Go.Ev
