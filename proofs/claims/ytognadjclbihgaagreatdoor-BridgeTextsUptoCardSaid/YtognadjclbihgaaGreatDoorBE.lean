/- Contracts: bridge.snapshot. -/
import Derived.Test.YtognadjclbihgaaGreatDoorE6
import Derived.Test.YtognadjclbihgaaGreatDoorBD
import Derived.Test.YtognadjclbihgaaGreatDoorFE4
set_option linter.all false
namespace Go.Ev
set_option maxRecDepth 100000
set_option maxHeartbeats 16000000
section
variable {E:Env} {Q:Post} {fn:Fr} {md:Md} {R:List (Path × AV)} {rc:List COp} {todo:List AItem} {cs:List AF} {h h' h0:Hp} {n n' n0 b m:Nat} {os:List COp} {k k':IntKind} {p:Path} {g:Option (Path × Bool)} {X Y:CX} {u v:AV} {a o:Nat} {x y:Int}
theorem SO.idxX {ex:Nat->Prop} {ys:List XR} (i:Nat) (hg:wantB R g=true) (hd:Nat.beq p.len depth=true) (h1:lookX R X=some u) (h2:lookX R Y=some (.int .i64 y)) (hy:y=(i:Int)) (hs:StE ex m h0 (ElsP ys u)) (hi:i < ys.length)
  (hw:∀ a o,StE ex m h0 (fun g k=>Pt g k (.ptr a o) (xC ys[i]))->SO E Q fn md ((p,.ptr a o)::R) os todo cs h n):SO E Q fn md R (⟨some p,g,[X,Y],.idxSlA 3⟩::os) todo cs h n:=by
 subst hy
 obtain⟨a,o,k1,k2⟩:=idx_stE (hs.mono fun g k hg=>hg.1) hi
 refine SO.val hg hd (two h1 h2) (k1 h n) (hw a o (k2.mono fun g k hp=>?_))
 rw [flatMap_at xC_length] at hp
 exact hp
theorem SO.loadX {ex:Nat->Prop} {z:XR} (hg:wantB R g=true) (hd:Nat.beq p.len depth=true) (h1:lookX R X=some (.ptr a o)) (hs:StE ex m h0 (fun g k=>Pt g k (.ptr a o) (xC z))) (hm:m<=n) (hk:∀ c,c < m->¬ ex c->hb h c=hb h0 c) (hw:SO E Q fn md ((p,.agg (xC z))::R) os todo cs h n):SO E Q fn md R (⟨some p,g,[X],.loadA 3⟩::os) todo cs h n :=
 SO.loadA hg hd h1 (hs h n hm hk) (Gr.refl _ _) (xC_length z) hw
theorem Still.loadX {c:COp} {ex:Nat->Prop} {z:XR} (hg:wantB R g=true) (hp:look R p=some (.agg (xC z))) (hX:lookX R X=some (.ptr a o)) (hS:StE ex m h0 (fun g k=>Pt g k (.ptr a o) (xC z))) (hk:∀ c,c < m->¬ ex c->hb h c=hb h0 c) (hs:Still R rc h):Still R (⟨some p,g,[X],.loadA 3⟩::rc) h :=
 Still.cons (c:=⟨some p,g,[X],.loadA 3⟩) hg rfl hp (one1 hX) (fun n' K=>by
  have:=ex_loadA (n':=n') (hS h m (Nat.le_refl _) hk) (Nat.le_of_eq (xC_length z).symm) K
  rw [this,<- xC_length z,List.take_length]) hs
end
theorem not_or_not (a b:Bool):(!a||!b)=!(a&&b):=by cases a<;>cases b<;>rfl
theorem snapshot14 {h:Hp} {n:Nat} (x:XR) (hx:XGood h n x) (he:Err h n) :
  Fn E 14 [.agg (xC x)] h n fun r h' n'=>Gr h n h' n'/\∃ vp vf:AV,r=.tup [.agg (srC ⟨vp,vf,snapD x.sx⟩),.bool (okS x.sx)] /\
   Stand n n' h' (fun g k=>Sl g k 1 vp (snapD x.sx).parents.length ((snapD x.sx).parents.flatMap intC)/\Sl g k 4 vf (snapD x.sx).files.length ((snapD x.sx).files.flatMap pfC)):=by
 refine Fn.of code14 (by decide) rfl fun Q cs hq=>?_
 show SW E Q 14 [(r0,.agg (xC x))] _ _ _ _
 refine SW.seq ?_
 refine SW.reg ?_
 refine SO.box rfl rfl rfl (by simp) (fun ha ca hEa=>?_)
 refine SO.alloc rfl rfl (fun hb' cb hEb=>?_)
 repeat' first|refine SO.alloc rfl rfl (fun hc' cc hEc=>?_)|refine SW.a rfl ?_|refine SW.reg ?_|refine SO.nil ?_|refine SO.a rfl ?_
 have hE0:Gr h n hc' (n+3):=(hEa.trans hEb).trans hEc
 have a0:hb hc' n=some (.cell (xC x) 56 false):=by rw [hEc.same n (by omega),hEb.same n (by omega)];exact ca
 have a1:hb hc' (n+1)=some (.cell [.nils,strOf [],strOf [],.int .i64 0,.nils] 38 false):=by rw [hEc.same (n+1) (by omega)];exact cb
 refine SO.loadVA rfl rfl rfl a0 (xC_length x) ?_
 have hxe:StE (fun c=>c=n+2) (n+3) hc' (fun g j=>XGood g j x):=fun g j hj hg=>hx.ext ⟨by omega,fun c h1=>by rw [hg c (by omega) (by omega)];exact hE0.same c h1⟩
 refine SO.callG rfl rfl rfl (elsN30 5 (by omega) x hxe rfl (fun c h1=>by omega) cc (by omega)) ?_
 rintro u5 h1 n1 ⟨ys,hys,hY,hc1,hB1⟩
 have hl5:ys.length=5:=by
  have:=congrArg List.length hys
  rw [List.length_map,tupD_length] at this
  exact this
 obtain⟨x0,x1,x2,x3,x4,rfl⟩:=five_of hl5
 simp only [List.map_cons,List.map_nil] at hys
 have hsD:snapD x.sx=⟨(lstD x0.sx).map numD,txtD x1.sx,txtD x2.sx,numD x3.sx,(lstD x4.sx).map fileD⟩:=by rw [snapD,<- hys];rfl
 have hsK:okS x.sx=(isT 5 x.sx&&(isA x1.sx&&isA x2.sx&&isN x3.sx&&isL x0.sx&&(lstD x0.sx).all isN&&isL x4.sx&&(lstD x4.sx).all okF)):=by rw [okS,<- hys];rfl
 rw [hsD,hsK] at hq
 generalize isT 5 x.sx=k0 at *
 rw [Bool.false_or] at hc1
 have hB1':=hB1.2
 have l1:=hB1.1
 have hlow1:∀ c,c < n->hb h1 c=hb h c:=fun c hc=>by rw [hB1' c (by omega) (by omega)];exact hE0.same c hc
 have b1:hb h1 (n+1)=some (.cell [.nils,strOf [],strOf [],.int .i64 0,.nils] 38 false):=by rw [hB1' (n+1) (by omega) (by omega)];exact a1
 repeat' first|refine SW.a rfl ?_|refine SO.nil ?_|(refine SW.drawG ?_;simp only [gOps,gRc,gTail])|refine SO.a rfl ?_
 refine SO.idxX 1 rfl rfl rfl rfl rfl hY (by simp) (fun p1 o1 hp1=>?_)
 refine SO.loadX rfl rfl rfl hp1 (Nat.le_refl _) (fun _ _ _=>rfl) ?_
 repeat' refine SO.a rfl ?_
 refine SO.idxX 2 rfl rfl rfl rfl rfl hY (by simp) (fun p2 o2 hp2=>?_)
 refine SO.loadX rfl rfl rfl hp2 (Nat.le_refl _) (fun _ _ _=>rfl) ?_
 repeat' refine SO.a rfl ?_
 refine SO.idxX 3 rfl rfl rfl rfl rfl hY (by simp) (fun p3 o3 hp3=>?_)
 refine SO.loadX rfl rfl rfl hp3 (Nat.le_refl _) (fun _ _ _=>rfl) ?_
 refine SO.alloc rfl rfl (fun h2 c2 hE2=>?_)
 have g2:∀ c,c < n1->¬ (c=n+2)->hb h2 c=hb h1 c:=fun c h _=>hE2.same c h
 refine SO.more (Still.loadX (c:=⟨none,none,[],.mov⟩) rfl rfl rfl hp3 g2 (Still.loadX (c:=⟨none,none,[],.mov⟩) rfl rfl rfl hp2 g2 (Still.loadX (c:=⟨none,none,[],.mov⟩) rfl rfl rfl hp1 g2 Still.nil))) ?_
 simp only [gOps,gRc,gTail]
 have d2:hb h2 (n+2)=some (.cell (wrC (!k0)) 80 false):=by rw [hE2.same (n+2) (by omega)];exact hc1
 refine SO.callG rfl rfl rfl (text31 x1 d2 (by omega)) ?_
 rintro _ h3 n3 ⟨rfl,d3,hB3⟩
 rw [not_or_not] at d3
 have g3:∀ c,c < n1->¬ (c=n+2)->hb h3 c=hb h1 c:=fun c h h'=>by rw [hB3.2 c (by omega) h'];exact g2 c h h'
 refine SO.more (Still.loadX (c:=⟨none,none,[],.mov⟩) rfl rfl rfl hp3 g3 (Still.loadX (c:=⟨none,none,[],.mov⟩) rfl rfl rfl hp2 g3 Still.nil)) ?_
 simp only [gOps,gRc,gTail]
 have l3:=hB3.1
 refine SO.callG rfl rfl rfl (text31 x2 d3 (by omega)) ?_
 rintro _ h4 n4 ⟨rfl,d4,hB4⟩
 rw [not_or_not] at d4
 have g4:∀ c,c < n1->¬ (c=n+2)->hb h4 c=hb h1 c:=fun c h h'=>by rw [hB4.2 c (by omega) h'];exact g3 c h h'
 refine SO.more (Still.loadX (c:=⟨none,none,[],.mov⟩) rfl rfl rfl hp3 g4 Still.nil) ?_
 simp only [gOps,gRc,gTail]
 have l4:=hB4.1
 have hlow4:Gr h n h4 n4:=⟨by omega,fun c hc=>by rw [g4 c (by omega) (by omega)];exact hlow1 c hc⟩
 have hx3:XGood h4 n4 x3:=(hY h4 n4 (by omega) g4).2 x3 (by simp)
 refine SO.callG rfl rfl rfl (int32 x3 hx3 (he.ext hlow4) d4 (by omega)) ?_
 rintro _ h5 n5 ⟨rfl,d5,hB5⟩
 rw [not_or_not] at d5
 have l5:=hB5.1
 have g5:∀ c,c < n1->¬ (c=n+2)->hb h5 c=hb h1 c:=fun c h h'=>by rw [hB5.2 c (by omega) h'];exact g4 c h h'
 have c5:hb h5 n1=some (.cell [.nils,strOf [],strOf [],.int .i64 0,.nils] 38 false):=by rw [hB5.2 n1 (by omega) (by omega),hB4.2 n1 (by omega) (by omega),hB3.2 n1 (by omega) (by omega)];exact c2
 repeat' refine SO.build rfl rfl rfl (fun K=>rfl) ?_
 refine SO.storeAll rfl rfl rfl c5 rfl rfl (fun h6 c6 hk6=>?_)
 have g6:∀ c,c < n1->¬ (c=n+2)->hb h6 c=hb h1 c:=fun c h h'=>by rw [hk6 c (by omega)];exact g5 c h h'
 have d6:hb h6 (n+2)=some (.cell (wrC (!((k0&&isA x1.sx&&isA x2.sx)&&isN x3.sx))) 80 false):=by rw [hk6 (n+2) (by omega)];exact d5
 repeat' first|refine SW.a rfl ?_|refine SW.reg ?_|refine SO.nilD ?_|refine SO.a rfl ?_
 generalize hq1:((k0&&isA x1.sx&&isA x2.sx)&&isN x3.sx)=k1 at *
 generalize ha1:txtD x1.sx=au at *
 generalize hm1:txtD x2.sx=ms at *
 generalize ht1:numD x3.sx=tm at *
 have fin_:∀ (g:Hp) (m mp mf:Nat) (k:Bool) (up uf:AV) (fp ff:Option Nat) (ps:List Int) (fs:List PF),hb g (n+2)=some (.cell (wrC (!k)) 80 false)->hb g n1=some (.cell [up,strOf au,strOf ms,.int .i64 tm,uf] 38 false)->hb g (n+1)=some (.cell [.nils,strOf [],strOf [],.int .i64 0,.nils] 38 false)->n5<=mp->mp<=m->n5<=mf->Own g mp m 1 3 up fp (ps.flatMap intC)->Own g mf m 4 68 uf ff (fs.flatMap pfC)->(∀ c,c < n->hb g c=hb h c) ->
   ps=(lstD x0.sx).map numD->fs=(lstD x4.sx).map fileD->k=(k0&&(isA x1.sx&&isA x2.sx&&isN x3.sx&&isL x0.sx&&(lstD x0.sx).all isN&&isL x4.sx&&(lstD x4.sx).all okF)) ->
   ∀ R,look R r2=some (.ptr (n+1) 0)->look R r4=some (.ptr (n+2) 0)->look R r6=some (.ptr n1 0)->SW E Q 14 R [.code (.draw c14x17),.code .ret] cs g m:=by
  intro g m mp mf k up uf fp ff ps fs e4 e6 e2 hmp hmm hmf op of hlow hps hfs hk R q2 q4 q6
  rw [<- hps,<- hfs,<- hk] at hq
  refine SW.sub (R':=[(r2,.ptr (n+1) 0),(r4,.ptr (n+2) 0),(r6,.ptr n1 0)]) (by simp [q2,q4,q6]) ?_
  repeat' first|refine SO.loadVA rfl rfl rfl e6 rfl ?_|refine SO.loadV rfl rfl rfl e4 rfl ?_|refine SO.notB rfl rfl rfl ?_|(refine SW.drawG ?_;simp only [gOps,gRc,gTail])|refine SO.a rfl ?_
  refine SO.storeAll rfl rfl rfl e2 rfl rfl (fun g7 e7 k7=>?_)
  have e4':hb g7 (n+2)=some (.cell (wrC (!k)) 80 false):=by rw [k7 (n+2) (by omega)];exact e4
  refine SO.more (Still.loadV (c:=⟨none,none,[],.mov⟩) rfl rfl rfl e4' rfl Still.nil) ?_
  simp only [gOps,gRc,gTail]
  repeat' first|refine SO.nilD ?_|refine SO.a rfl ?_
  have hp':Own g7 mp m 1 3 up fp (ps.flatMap intC):=op.keep (Nat.le_refl _) fun c h1 _=>k7 c (by omega)
  have hf':Own g7 mf m 4 68 uf ff (fs.flatMap pfC):=of.keep (Nat.le_refl _) fun c h1 _=>k7 c (by omega)
  refine SW.ret code14 ⟨n+1,0,_,rfl,.inl ⟨_,_,e7⟩,by simp,_,rfl,hq _ _ _ ⟨⟨by omega,fun c hc=>by rw [k7 c (by omega)];exact hlow c hc⟩,up,uf,?_,fun g8 m8 hm8 hk8=>⟨?_,?_⟩⟩⟩
  ·rw [Bool.not_not];rfl
  ·exact (hp'.keep hm8 fun c h1 h2=>hk8 c (by omega) h2).sl (by rw [flatMap_length (esz:=1) (fun _=>rfl)]) (by decide)
  ·exact (hf'.keep hm8 fun c h1 h2=>hk8 c (by omega) h2).sl (by rw [flatMap_length (esz:=4) (fun _=>rfl)]) (by decide)
 have loop2:∀ (hA:Hp) (mA mp:Nat) (up:AV) (fp:Option Nat) (ps:List Int) (k2:Bool) (ws:List XR) (uw:AV),StE (fun c=>c=n+2\/c=n1) mA hA (ElsP ws uw)->ws.map XR.sx=lstD x4.sx->ws.length < 20000->n5<=mp->mp<=mA->Own hA mp mA 1 3 up fp (ps.flatMap intC)->ps=(lstD x0.sx).map numD->(∀ c,c < n1->c≠n+2->hb hA c=hb h1 c) ->
   k2=(k0&&(isA x1.sx&&isA x2.sx&&isN x3.sx&&isL x0.sx&&(lstD x0.sx).all isN&&isL x4.sx)) ->
   ∀ (k i:Nat) (g:Hp) (m:Nat) (uf:AV) (ff:Option Nat),i+k=ws.length->mA<=m->(∀ c,c < mA->c≠n+2->c≠n1->hb g c=hb hA c)->hb g (n+2)=some (.cell (wrC (!(k2&&((ws.take i).map XR.sx).all okF))) 80 false)->hb g n1=some (.cell [up,strOf au,strOf ms,.int .i64 tm,uf] 38 false)->Own g mA m 4 68 uf ff ((((ws.take i).map XR.sx).map fileD).flatMap pfC) ->
   ∀ R,look R r2=some (.ptr (n+1) 0)->look R r4=some (.ptr (n+2) 0)->look R r6=some (.ptr n1 0)->look R r47=some uw->look R r48=some (.int .i64 (ws.length:Int))->look R r49=some (.int .i64 (i:Int))->SW E Q 14 R [.code c14x16,.inLoop c14x16,.inBlock 2,.code (.seq (.draw c14x17) .ret)] cs g m:=by
  intro hA mA mp up fp ps k2 ws uw hW hws hnw hmp hmpA op hps hgA hk2 k
  induction k with
  | zero =>
   intro i g m uf ff hi hm hg e4 e6 of R q2 q4 q6 q47 q48 q49
   rw [show i=ws.length by omega,List.take_length,hws] at e4 of
   refine SW.sub (R':=[(r2,.ptr (n+1) 0),(r4,.ptr (n+2) 0),(r6,.ptr n1 0),(r47,uw),(r48,.int .i64 (ws.length:Int)),(r49,.int .i64 (i:Int))]) (by simp [q2,q4,q6,q47,q48,q49]) ?_
   repeat' first|refine SW.a rfl ?_|refine SW.reg ?_|refine SO.nil ?_|refine SO.cF rfl (by omega) ?_|fail
   refine fin_ g m mp mA _ up uf fp ff ps _ e4 e6 ?_ hmp (by omega) (by omega) (op.keep hm fun c h1 h2=>hg c h2 (by omega) (by omega)) of ?_ hps rfl ?_ _ rfl rfl rfl
   ·rw [hg (n+1) (by omega) (by omega) (by omega),hgA (n+1) (by omega) (by omega)];exact b1
   ·intro c hc
    rw [hg c (by omega) (by omega) (by omega),hgA c (by omega) (by omega)];exact hlow1 c hc
   ·rw [hk2];simp only [Bool.and_assoc]
  | succ k ih =>
   intro i g m uf ff hi hm hg e4 e6 of R q2 q4 q6 q47 q48 q49
   have hi':i < ws.length:=by omega
   have hWg:∀ (g':Hp) (j:Nat),mA<=j->(∀ c,c < mA->c≠n+2->c≠n1->hb g' c=hb hA c)->ElsP ws uw g' j:=fun g' j hj hg'=>hW g' j hj fun c h1 h2=>hg' c h1 (fun e=>h2 (.inl e)) (fun e=>h2 (.inr e))
   have hlow:∀ c,c < n->hb g c=hb h c:=fun c hc=>by rw [hg c (by omega) (by omega) (by omega),hgA c (by omega) (by omega)];exact hlow1 c hc
   refine SW.sub (R':=[(r2,.ptr (n+1) 0),(r4,.ptr (n+2) 0),(r6,.ptr n1 0),(r47,uw),(r48,.int .i64 (ws.length:Int)),(r49,.int .i64 (i:Int))]) (by simp [q2,q4,q6,q47,q48,q49]) ?_
   have hsn:(ws.take (i+1)).map XR.sx=(ws.take i).map XR.sx++[ws[i].sx]:=by rw [List.take_succ_eq_append_getElem hi',List.map_append];rfl
   have hmem:=List.getElem_mem hi'
   have htl:(((ws.take i).map XR.sx).map fileD).length=i:=by simp;omega
   generalize hki:(k2&&((ws.take i).map XR.sx).all okF)=ki at *
   generalize hfi:((ws.take i).map XR.sx).map fileD=fsi at *
   have hsl:=(hWg g m hm hg).1
   repeat' first|refine SO.idxOf xC_length rfl rfl rfl rfl hsl hi' (fun a o hp=>?_)|refine SO.loadA rfl rfl rfl (by assumption) (Gr.refl _ _) (xC_length _) ?_|refine SO.alloc rfl rfl (fun g1 e1 hE1=>?_)|refine SW.a rfl ?_|refine SW.reg ?_|refine SO.nil ?_|refine SO.cT rfl (by omega) ?_|fail
   refine SO.storeAll rfl rfl rfl e1 (xC_length _) rfl (fun g2 e2 k2'=>?_)
   have hE2:Gr g m g2 (m+1):=hE1.keep (Nat.le_refl _) k2'
   repeat' first|refine SW.a rfl ?_|refine SW.reg ?_|refine SO.nil ?_
   refine SO.loadVA rfl rfl rfl e2 (xC_length _) ?_
   have d2':hb g2 (n+2)=some (.cell (wrC (!ki)) 80 false):=by rw [hE2.same (n+2) (by omega)];exact e4
   have hwx:StE (fun c=>c=n+2\/c=n1) (m+1) g2 (fun g j=>XGood g j ws[i]):=fun g' j hj hg'=>(hWg g' j (by omega) fun c h1 h2 h3=>by rw [hg' c (by omega) (by omega),hE2.same c (by omega)];exact hg c h1 h2 h3).2 _ hmem
   generalize ws[i]=wx at *
   refine SO.callG rfl rfl rfl (elsN30 4 (by omega) wx hwx (.inl rfl) (fun c hc=>by omega) d2' (by omega)) ?_
   rintro uy g3 m3 ⟨ys,hys,hY4,d3',hB3'⟩
   rw [not_or_not] at d3'
   have hl4:ys.length=4:=by
    have:=congrArg List.length hys
    rw [List.length_map,tupD_length] at this
    exact this
   obtain⟨y0,y1,y2,y3,rfl⟩:=four_of hl4
   simp only [List.map_cons,List.map_nil] at hys
   have hfD:fileD wx.sx=⟨txtD y0.sx,numD y1.sx,numD y2.sx,txtD y3.sx⟩:=by rw [fileD,<- hys];rfl
   have hfK:okF wx.sx=(isT 4 wx.sx&&(isA y0.sx&&isN y1.sx&&isN y2.sx&&isA y3.sx)):=by rw [okF,<- hys];rfl
   generalize isT 4 wx.sx=kt at *
   have lm3:=hB3'.1
   have e6':hb g3 n1=some (.cell [up,strOf au,strOf ms,.int .i64 tm,uf] 38 false):=by rw [hB3'.2 n1 (by omega) (by omega),hE2.same n1 (by omega)];exact e6
   have a3:∀ c,c < m->c≠n+2->hb g3 c=hb g c:=fun c h1 h2=>by rw [hB3'.2 c (by omega) h2];exact hE2.same c h1
   repeat' first|refine SO.loadV rfl rfl rfl e6' rfl ?_|refine SO.nil ?_|(refine SW.drawG ?_;simp only [gOps,gRc,gTail])|refine SO.a rfl ?_
   refine SO.idxX 0 rfl rfl rfl rfl rfl hY4 (by simp) (fun p0 o0 hp0=>?_)
   refine SO.loadX rfl rfl rfl hp0 (Nat.le_refl _) (fun _ _ _=>rfl) ?_
   repeat' refine SO.a rfl ?_
   refine SO.idxX 1 rfl rfl rfl rfl rfl hY4 (by simp) (fun p1 o1 hp1=>?_)
   refine SO.loadX rfl rfl rfl hp1 (Nat.le_refl _) (fun _ _ _=>rfl) ?_
   repeat' refine SO.a rfl ?_
   refine SO.idxX 2 rfl rfl rfl rfl rfl hY4 (by simp) (fun p2 o2 hp2=>?_)
   refine SO.loadX rfl rfl rfl hp2 (Nat.le_refl _) (fun _ _ _=>rfl) ?_
   repeat' refine SO.a rfl ?_
   refine SO.idxX 3 rfl rfl rfl rfl rfl hY4 (by simp) (fun p3 o3 hp3=>?_)
   refine SO.loadX rfl rfl rfl hp3 (Nat.le_refl _) (fun _ _ _=>rfl) ?_
   refine SO.callG rfl rfl rfl (text31 y0 d3' (by omega)) ?_
   rintro _ g4 m4 ⟨rfl,d4',hB4'⟩
   rw [not_or_not] at d4'
   have lm4:=hB4'.1
   have x4':∀ c,c < m3->¬ (c=n+2\/c=n1)->hb g4 c=hb g3 c:=fun c h1 h2=>hB4'.2 c h1 (fun e=>h2 (.inl e))
   have f4:hb g4 n1=some (.cell [up,strOf au,strOf ms,.int .i64 tm,uf] 38 false):=by rw [hB4'.2 n1 (by omega) (by omega)];exact e6'
   refine SO.more (Still.loadX (c:=⟨none,none,[],.mov⟩) rfl rfl rfl hp3 x4' (Still.loadX (c:=⟨none,none,[],.mov⟩) rfl rfl rfl hp2 x4' (Still.loadX (c:=⟨none,none,[],.mov⟩) rfl rfl rfl hp1 x4' (Still.loadV (c:=⟨none,none,[],.mov⟩) rfl rfl rfl f4 rfl Still.nil)))) ?_
   simp only [gOps,gRc,gTail]
   have hG4:Gr h n g4 m4:=⟨by omega,fun c hc=>by rw [hB4'.2 c (by omega) (by omega),a3 c (by omega) (by omega)];exact hlow c hc⟩
   refine SO.callG rfl rfl rfl (int32 y1 ((hY4 g4 m4 (by omega) x4').2 y1 (by simp)) (he.ext hG4) d4' (by omega)) ?_
   rintro _ g5 m5 ⟨rfl,d5',hB5'⟩
   rw [not_or_not] at d5'
   have lm5:=hB5'.1
   have x5':∀ c,c < m3->¬ (c=n+2\/c=n1)->hb g5 c=hb g3 c:=fun c h1 h2=>by rw [hB5'.2 c (by omega) (fun e=>h2 (.inl e))];exact x4' c h1 h2
   have f5:hb g5 n1=some (.cell [up,strOf au,strOf ms,.int .i64 tm,uf] 38 false):=by rw [hB5'.2 n1 (by omega) (by omega)];exact f4
   refine SO.more (Still.loadX (c:=⟨none,none,[],.mov⟩) rfl rfl rfl hp3 x5' (Still.loadX (c:=⟨none,none,[],.mov⟩) rfl rfl rfl hp2 x5' (Still.loadV (c:=⟨none,none,[],.mov⟩) rfl rfl rfl f5 rfl Still.nil))) ?_
   simp only [gOps,gRc,gTail]
   have hG5:Gr h n g5 m5:=⟨by omega,fun c hc=>by rw [hB5'.2 c (by omega) (by omega)];exact hG4.same c hc⟩
   refine SO.callG rfl rfl rfl (int32 y2 ((hY4 g5 m5 (by omega) x5').2 y2 (by simp)) (he.ext hG5) d5' (by omega)) ?_
   rintro _ g6 m6 ⟨rfl,d6',hB6'⟩
   rw [not_or_not] at d6'
   have lm6:=hB6'.1
   have x6':∀ c,c < m3->¬ (c=n+2\/c=n1)->hb g6 c=hb g3 c:=fun c h1 h2=>by rw [hB6'.2 c (by omega) (fun e=>h2 (.inl e))];exact x5' c h1 h2
   have f6:hb g6 n1=some (.cell [up,strOf au,strOf ms,.int .i64 tm,uf] 38 false):=by rw [hB6'.2 n1 (by omega) (by omega)];exact f5
   refine SO.more (Still.loadX (c:=⟨none,none,[],.mov⟩) rfl rfl rfl hp3 x6' (Still.loadV (c:=⟨none,none,[],.mov⟩) rfl rfl rfl f6 rfl Still.nil)) ?_
   simp only [gOps,gRc,gTail]
   refine SO.callG rfl rfl rfl (text31 y3 d6' (by omega)) ?_
   rintro _ g7 m7 ⟨rfl,d7',hB7'⟩
   rw [not_or_not] at d7'
   have lm7:=hB7'.1
   have x7':∀ c,c < m3->¬ (c=n+2\/c=n1)->hb g7 c=hb g3 c:=fun c h1 h2=>by rw [hB7'.2 c (by omega) (fun e=>h2 (.inl e))];exact x6' c h1 h2
   have f7:hb g7 n1=some (.cell [up,strOf au,strOf ms,.int .i64 tm,uf] 38 false):=by rw [hB7'.2 n1 (by omega) (by omega)];exact f6
   refine SO.more (Still.loadV (c:=⟨none,none,[],.mov⟩) rfl rfl rfl f7 rfl Still.nil) ?_
   simp only [gOps,gRc,gTail]
   repeat' refine SO.build rfl rfl rfl (fun K=>rfl) ?_
   refine SO.bslice rfl rfl rfl (fun k=>rfl) (fun g8 e8 hE8=>?_)
   have x8':∀ c,c < m3->¬ (c=n+2\/c=n1)->hb g8 c=hb g3 c:=fun c h1 h2=>by rw [hE8.same c (by omega)];exact x7' c h1 h2
   have f8:hb g8 n1=some (.cell [up,strOf au,strOf ms,.int .i64 tm,uf] 38 false):=by rw [hE8.same n1 (by omega)];exact f7
   refine SO.more (Still.loadX (c:=⟨none,none,[],.mov⟩) rfl rfl rfl hp3 x8' (Still.loadX (c:=⟨none,none,[],.mov⟩) rfl rfl rfl hp2 x8' (Still.loadX (c:=⟨none,none,[],.mov⟩) rfl rfl rfl hp1 x8' (Still.loadX (c:=⟨none,none,[],.mov⟩) rfl rfl rfl hp0 x8' (Still.loadV (c:=⟨none,none,[],.mov⟩) rfl rfl rfl f8 rfl Still.nil))))) ?_
   simp only [gOps,gRc,gTail]
   have x8:∀ c,c < m->c≠n+2->hb g8 c=hb g c:=fun c h1 h2=>by
    rw [hE8.same c (by omega),hB7'.2 c (by omega) h2,hB6'.2 c (by omega) h2,hB5'.2 c (by omega) h2,hB4'.2 c (by omega) h2];exact a3 c h1 h2
   have of8:Own g8 mA (m7+1) 4 68 uf ff (fsi.flatMap pfC):=of.keep (by omega) fun c h1 h2=>x8 c h2 (by omega)
   have hx:Sl g8 (m7+1) 4 (.slc m7 0 1 1) 1 (pfC ⟨txtD y0.sx,numD y1.sx,numD y2.sx,txtD y3.sx⟩):=⟨rfl,.inr ⟨m7,0,1,_,.inl ⟨rfl,Nat.le_refl _⟩,⟨by omega,.inl ⟨_,_,e8⟩⟩,by simp,rfl⟩⟩
   refine SO.append rfl rfl rfl rfl (by decide) (by decide) of8 (by omega) hx (by rw [flatMap_length (esz:=4) (fun _=>rfl),htl];simp;omega) fun uf' ff' g9 m9 of9 hn9 hk9 hf9=>?_
   have hfo:∀ c,c < mA->ff≠some c:=fun c hc e=>by have:=own_low of e;omega
   have f9:hb g9 n1=some (.cell [up,strOf au,strOf ms,.int .i64 tm,uf] 38 false):=by rw [hk9 n1 (by omega) (hfo n1 (by omega))];exact f8
   repeat' refine SO.a rfl ?_
   refine SO.put1 rfl rfl rfl f9 (own_one of9).1 (own_one of9).2 (by simp) (fun g10 e10 k10=>?_)
   repeat' first|refine SW.a rfl ?_|refine SW.reg ?_|refine SO.nil ?_|refine SO.nilD ?_|refine SO.a rfl ?_|refine SO.add rfl rfl rfl rfl (by omega) ?_|fail
   refine SW.again ?_
   refine ih (i+1) g10 m9 uf' ff' (by omega) (by omega) ?_ ?_ e10 ?_ _ rfl rfl rfl rfl rfl rfl
   ·intro c h1 h2 h3
    rw [k10 c h3,hk9 c (by omega) (hfo c h1),x8 c (by omega) h2];exact hg c h1 h2 h3
   ·rw [k10 (n+2) (by omega),hk9 (n+2) (by omega) (hfo _ (by omega)),hE8.same (n+2) (by omega),d7',hsn,List.all_append,<- Bool.and_assoc,hki]
    simp only [List.all_cons,List.all_nil,Bool.and_true,hfK,Bool.and_assoc]
   ·rw [hsn,List.map_append,hfi]
    have:=of9.keep (h':=g10) (Nat.le_refl _) fun c h1 _=>k10 c (by omega)
    simpa [List.flatMap_append,hfD] using this
 have loop1:∀ (h7:Hp) (n7:Nat) (zs:List XR) (uz:AV),StE (fun c=>c=n+2\/c=n1) n7 h7 (ElsP zs uz)->zs.map XR.sx=lstD x0.sx->zs.length < 20000->n5<=n7->(∀ c,c < n1->c≠n+2->hb h7 c=hb h1 c) ->
   ∀ (k i:Nat) (g:Hp) (m:Nat) (u:AV) (fo:Option Nat),i+k=zs.length->n7<=m->(∀ c,c < n7->c≠n+2->c≠n1->hb g c=hb h7 c)->hb g (n+2)=some (.cell (wrC (!((k1&&isL x0.sx)&&((zs.take i).map XR.sx).all isN))) 80 false)->hb g n1=some (.cell [u,strOf au,strOf ms,.int .i64 tm,.nils] 38 false)->Own g n7 m 1 3 u fo ((((zs.take i).map XR.sx).map numD).flatMap intC) ->
   ∀ R,look R r2=some (.ptr (n+1) 0)->look R r4=some (.ptr (n+2) 0)->look R r5=some u5->look R r6=some (.ptr n1 0)->look R r30=some uz->look R r31=some (.int .i64 (zs.length:Int))->look R r32=some (.int .i64 (i:Int))->SW E Q 14 R [.code c14x9,.inLoop c14x9,.inBlock 0,.code (.seq (.seq (.reg c14x10) (.block 2 (.loop c14x16))) (.seq (.draw c14x17) .ret))] cs g m:=by
  intro h7 n7 zs uz hZ hzs hnz hn7 hg7 k
  induction k with
  | zero =>
   intro i g m u fo hi hm hg e4 e6 op R q2 q4 q5 q6 q30 q31 q32
   rw [show i=zs.length by omega,List.take_length,hzs] at e4 op
   have hg1:∀ c,c < n1->¬ (c=n+2)->hb g c=hb h1 c:=fun c h1' h2=>by rw [hg c (by omega) h2 (by omega)];exact hg7 c h1' h2
   refine SW.sub (R':=[(r2,.ptr (n+1) 0),(r4,.ptr (n+2) 0),(r5,u5),(r6,.ptr n1 0),(r30,uz),(r31,.int .i64 (zs.length:Int)),(r32,.int .i64 (i:Int))]) (by simp [q2,q4,q5,q6,q30,q31,q32]) ?_
   repeat' first|refine SW.a rfl ?_|refine SW.reg ?_|refine SO.nil ?_|refine SO.a rfl ?_|refine SO.cF rfl (by omega) ?_|fail
   refine SO.idxX 4 rfl rfl rfl rfl rfl hY (by simp) (fun p4 o4 hp4=>?_)
   refine SO.loadX rfl rfl rfl hp4 (by omega) hg1 ?_
   have hx4e:StE (fun c=>c=n+2\/c=n1) m g (fun g j=>XGood g j x4):=fun g' j hj hg'=>(hY g' j (by omega) (fun c h1' h2=>by rw [hg' c (by omega) (by omega)];exact hg1 c h1' h2)).2 x4 (by simp)
   refine SO.callG rfl rfl rfl (elsA30 x4 hx4e (.inl rfl) (fun c hc=>by omega) e4 (by omega)) ?_
   rintro uw hA mA ⟨ws,hws,hW,dA,hBA⟩
   rw [not_or_not] at dA
   have lA:=hBA.1
   have hnw:ws.length < 20000:=by
    have:=congrArg List.length hws
    rw [List.length_map] at this
    rw [this];exact hx4e.now.lst
   have hslw:=hW.now.1
   repeat' first|refine SO.lenSl rfl rfl rfl hslw ?_|refine SW.a rfl ?_|refine SO.nil ?_|refine SO.a rfl ?_
   refine SW.loop ?_
   refine loop2 hA mA n7 u fo _ (k1&&isL x0.sx&&(lstD x0.sx).all isN&&isL x4.sx) ws uw hW hws hnw hn7 (by omega) (op.keep lA fun c h1' h2=>hBA.2 c h2 (by omega)) rfl (fun c h1' h2=>by rw [hBA.2 c (by omega) h2];exact hg1 c h1' h2) ?_ ws.length 0 hA mA .nils none (by omega) (Nat.le_refl _) (fun _ _ _ _=>rfl) ?_ ?_ (.inl ⟨rfl,rfl,rfl⟩) _ rfl rfl rfl rfl rfl rfl
   ·rw [<- hq1];simp only [Bool.and_assoc]
   ·rw [List.take_zero,List.map_nil,List.all_nil,Bool.and_true];exact dA
   ·rw [hBA.2 n1 (by omega) (by omega)];exact e6
  | succ k ih =>
   intro i g m u fo hi hm hg e4 e6 op R q2 q4 q5 q6 q30 q31 q32
   have hi':i < zs.length:=by omega
   have hg1:∀ c,c < n1->¬ (c=n+2)->hb g c=hb h1 c:=fun c h1' h2=>by rw [hg c (by omega) h2 (by omega)];exact hg7 c h1' h2
   have hZg:∀ (g':Hp) (j:Nat),n7<=j->(∀ c,c < n7->c≠n+2->c≠n1->hb g' c=hb h7 c)->ElsP zs uz g' j:=fun g' j hj hg'=>hZ g' j hj fun c h1 h2=>hg' c h1 (fun e=>h2 (.inl e)) (fun e=>h2 (.inr e))
   refine SW.sub (R':=[(r2,.ptr (n+1) 0),(r4,.ptr (n+2) 0),(r5,u5),(r6,.ptr n1 0),(r30,uz),(r31,.int .i64 (zs.length:Int)),(r32,.int .i64 (i:Int))]) (by simp [q2,q4,q5,q6,q30,q31,q32]) ?_
   have hsn:(zs.take (i+1)).map XR.sx=(zs.take i).map XR.sx++[zs[i].sx]:=by rw [List.take_succ_eq_append_getElem hi',List.map_append];rfl
   have hmem:=List.getElem_mem hi'
   have htl:(((zs.take i).map XR.sx).map numD).length=i:=by simp;omega
   generalize hki:((k1&&isL x0.sx)&&((zs.take i).map XR.sx).all isN)=ki at *
   generalize hpi:((zs.take i).map XR.sx).map numD=psi at *
   have hels:=hZg g m hm hg
   have hsl:=hels.1
   repeat' first|refine SO.idxOf xC_length rfl rfl rfl rfl hsl hi' (fun a o hp=>?_)|refine SO.loadA rfl rfl rfl (by assumption) (Gr.refl _ _) (xC_length _) ?_|refine SO.alloc rfl rfl (fun g1 e1 hE1=>?_)|refine SW.a rfl ?_|refine SW.reg ?_|refine SO.nil ?_|refine SO.cT rfl (by omega) ?_|fail
   refine SO.storeAll rfl rfl rfl e1 (xC_length _) rfl (fun g2 e2 k2'=>?_)
   have hE2:Gr g m g2 (m+1):=hE1.keep (Nat.le_refl _) k2'
   have f2:hb g2 n1=some (.cell [u,strOf au,strOf ms,.int .i64 tm,.nils] 38 false):=by rw [hE2.same n1 (by omega)];exact e6
   have d2':hb g2 (n+2)=some (.cell (wrC (!ki)) 80 false):=by rw [hE2.same (n+2) (by omega)];exact e4
   repeat' first|refine SO.loadV rfl rfl rfl f2 rfl ?_|refine SO.nil ?_|(refine SW.drawG ?_;simp only [gOps,gRc,gTail])|refine SO.a rfl ?_
   refine SO.loadVA rfl rfl rfl e2 (xC_length _) ?_
   have hG2:Gr h n g2 (m+1):=⟨by omega,fun c hc=>by rw [hE2.same c (by omega),hg1 c (by omega) (by omega)];exact hlow1 c hc⟩
   refine SO.callG rfl rfl rfl (int32 zs[i] ((hels.2 _ hmem).ext hE2) (he.ext hG2) d2' (by omega)) ?_
   rintro _ g3 m3 ⟨rfl,d3',hB3'⟩
   rw [not_or_not] at d3'
   have lm3:=hB3'.1
   have f3:hb g3 n1=some (.cell [u,strOf au,strOf ms,.int .i64 tm,.nils] 38 false):=by rw [hB3'.2 n1 (by omega) (by omega)];exact f2
   have e3:hb g3 m=some (.cell (xC zs[i]) 56 false):=by rw [hB3'.2 m (by omega) (by omega)];exact e2
   refine SO.more (Still.loadV (c:=⟨none,none,[],.mov⟩) rfl rfl rfl f3 rfl Still.nil) ?_
   simp only [gOps,gRc,gTail]
   refine SO.bslice rfl rfl rfl (fun k=>rfl) (fun g8 e8 hE8=>?_)
   have f8:hb g8 n1=some (.cell [u,strOf au,strOf ms,.int .i64 tm,.nils] 38 false):=by rw [hE8.same n1 (by omega)];exact f3
   have e3':hb g8 m=some (.cell (xC zs[i]) 56 false):=by rw [hE8.same m (by omega)];exact e3
   refine SO.more (Still.loadVA rfl rfl rfl e3' (xC_length _) (Still.loadV (c:=⟨none,none,[],.mov⟩) rfl rfl rfl f8 rfl Still.nil)) ?_
   simp only [gOps,gRc,gTail]
   have x8:∀ c,c < m->c≠n+2->hb g8 c=hb g c:=fun c h1 h2=>by rw [hE8.same c (by omega),hB3'.2 c (by omega) h2];exact hE2.same c h1
   have of8:Own g8 n7 (m3+1) 1 3 u fo (psi.flatMap intC):=op.keep (by omega) fun c h1 h2=>x8 c h2 (by omega)
   have hx:Sl g8 (m3+1) 1 (.slc m3 0 1 1) 1 (intC (numD zs[i].sx)):=⟨rfl,.inr ⟨m3,0,1,_,.inl ⟨rfl,Nat.le_refl _⟩,⟨by omega,.inl ⟨_,_,e8⟩⟩,by simp,rfl⟩⟩
   refine SO.append rfl rfl rfl rfl (by decide) (by decide) of8 (by omega) hx (by rw [flatMap_length (esz:=1) (fun _=>rfl),htl];simp;omega) fun u' fo' g9 m9 of9 hn9 hk9 hf9=>?_
   have hfo:∀ c,c < n7->fo≠some c:=fun c hc e=>by have:=own_low op e;omega
   have f9:hb g9 n1=some (.cell [u,strOf au,strOf ms,.int .i64 tm,.nils] 38 false):=by rw [hk9 n1 (by omega) (hfo n1 (by omega))];exact f8
   repeat' refine SO.a rfl ?_
   refine SO.put1 rfl rfl rfl f9 (own_one of9).1 (own_one of9).2 (by simp) (fun g10 e10 k10=>?_)
   repeat' first|refine SW.a rfl ?_|refine SW.reg ?_|refine SO.nil ?_|refine SO.nilD ?_|refine SO.a rfl ?_|refine SO.add rfl rfl rfl rfl (by omega) ?_|fail
   refine SW.again ?_
   refine ih (i+1) g10 m9 u' fo' (by omega) (by omega) ?_ ?_ e10 ?_ _ rfl rfl rfl rfl rfl rfl rfl
   ·intro c h1 h2 h3
    rw [k10 c h3,hk9 c (by omega) (hfo c h1),x8 c (by omega) h2];exact hg c h1 h2 h3
   ·rw [k10 (n+2) (by omega),hk9 (n+2) (by omega) (hfo _ (by omega)),hE8.same (n+2) (by omega),d3',hsn,List.all_append,<- Bool.and_assoc,hki]
    simp only [List.all_cons,List.all_nil,Bool.and_true]
   ·rw [hsn,List.map_append,hpi]
    have:=of9.keep (h':=g10) (Nat.le_refl _) fun c h1 _=>k10 c (by omega)
    simpa [List.flatMap_append] using this
 refine SO.idxX 0 rfl rfl rfl rfl rfl hY (by simp) (fun p0 o0 hp0=>?_)
 refine SO.loadX rfl rfl rfl hp0 (by omega) g6 ?_
 have hx0e:StE (fun c=>c=n+2\/c=n1) n5 h6 (fun g j=>XGood g j x0):=fun g' j hj hg'=>(hY g' j (by omega) (fun c h1' h2=>by rw [hg' c (by omega) (by omega)];exact g6 c h1' h2)).2 x0 (by simp)
 refine SO.callG rfl rfl rfl (elsA30 x0 hx0e (.inl rfl) (fun c hc=>by omega) d6 (by omega)) ?_
 rintro uz h7 n7 ⟨zs,hzs,hZ,d7,hB7⟩
 rw [not_or_not] at d7
 have l7:=hB7.1
 have hnz:zs.length < 20000:=by
  have:=congrArg List.length hzs
  rw [List.length_map] at this
  rw [this];exact hx0e.now.lst
 have hslz:=hZ.now.1
 repeat' first|refine SO.lenSl rfl rfl rfl hslz ?_|refine SW.a rfl ?_|refine SO.nil ?_|refine SO.a rfl ?_
 refine SW.loop ?_
 refine loop1 h7 n7 zs uz hZ hzs hnz l7 (fun c h1' h2=>by rw [hB7.2 c (by omega) h2];exact g6 c h1' h2) zs.length 0 h7 n7 .nils none (by omega) (Nat.le_refl _) (fun _ _ _ _=>rfl) ?_ ?_ (.inl ⟨rfl,rfl,rfl⟩) _ rfl rfl rfl rfl rfl rfl rfl
 ·rw [List.take_zero,List.map_nil,List.all_nil,Bool.and_true];exact d7
 ·rw [hB7.2 n1 (by omega) (by omega)];exact c6
end Go.Ev
