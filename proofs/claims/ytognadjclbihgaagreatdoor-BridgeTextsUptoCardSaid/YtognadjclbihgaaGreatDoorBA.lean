/- What stands as long as the blocks of an interval stand. -/
import Derived.Test.YtognadjclbihgaaGreatDoorE6
import Derived.Test.YtognadjclbihgaaGreatDoorFD
import Derived.Test.YtognadjclbihgaaGreatDoorPA
import Derived.Test.YtognadjclbihgaaGreatDoorE7
import Derived.Test.YtognadjclbihgaaGreatDoorKCodeA
set_option linter.all false
namespace Go.Ev
def Stand (lo hi:Nat) (h:Hp) (P:Hp->Nat->Prop):Prop:=∀ (g:Hp) (m:Nat),hi<=m->(∀ b,lo<=b->b < hi->hb g b=hb h b)->P g m
section
variable {lo hi lo' hi' m m' n0:Nat} {h h':Hp} {P Q:Hp->Nat->Prop}
theorem Stand.now (s:Stand lo hi h P) (hm:hi<=m):P h m:=s h m hm fun _ _ _=>rfl
theorem Stand.keep (s:Stand lo hi h P) (hk:∀ b,lo<=b->b < hi->hb h' b=hb h b):Stand lo hi h' P:=fun g m hm hg=>s g m hm fun b h1 h2=>by rw [hg b h1 h2,hk b h1 h2]
theorem Stand.wide (s:Stand lo hi h P) (h1:lo'<=lo) (h2:hi<=hi'):Stand lo' hi' h P:=fun g m hm hg=>s g m (by omega) fun b h3 h4=>hg b (by omega) (by omega)
def Each {α:Type} (h:Hp) (n0 m:Nat) (fo:Option Nat) (P:α->Hp->Nat->Prop) (xs:List α):Prop:=∀ x ∈ xs,∃ lo hi,n0<=lo/\hi<=m/\Stand lo hi h (P x)/\∀ f,fo=some f->f < lo\/hi<=f
variable {α:Type} {P:α->Hp->Nat->Prop} {fo fo':Option Nat} {xs:List α} {x:α}
theorem Each.nil:Each h n0 m fo P []:=fun x hx=>by simp at hx
theorem Each.keep (e:Each h n0 m fo P xs) (hm:m<=m') (hk:∀ b,n0<=b->b < m->fo≠some b->hb h' b=hb h b):Each h' n0 m' fo P xs:=fun x hx=>by
 obtain⟨lo,hi,h1,h2,h3,h4⟩:=e x hx
 refine⟨lo,hi,h1,by omega,h3.keep fun b h5 h6=>hk b (by omega) (by omega) fun e'=>?_,h4⟩
 have:=h4 b e'
 omega
theorem Each.append (e:Each h n0 m fo P xs) (hm:m<=m') (hk:∀ b,b < m->fo≠some b->hb h' b=hb h b) (hf:fo'=fo\/∃ f,fo'=some f/\m<=f):Each h' n0 m' fo' P xs:=fun x hx=>by
 obtain⟨lo,hi,h1,h2,h3,h4⟩:=e x hx
 refine⟨lo,hi,h1,by omega,h3.keep fun b h5 h6=>hk b (by omega) fun e'=>?_,fun f hf'=>?_⟩
 ·have:=h4 b e'
  omega
 ·rcases hf with rfl |⟨f',rfl,h5⟩
  ·exact h4 f hf'
  ·simp only [Option.some.injEq] at hf';omega
theorem Each.snoc (e:Each h n0 m fo P xs) (hx:∃ lo hi,n0<=lo/\hi<=m/\Stand lo hi h (P x)/\∀ f,fo=some f->f < lo\/hi<=f):Each h n0 m fo P (xs++[x]):=fun y hy=>by
 rcases List.mem_append.1 hy with hy|hy
 ·exact e y hy
 ·simp only [List.mem_singleton] at hy
  rw [hy];exact hx
end
theorem sxs_eq:∀ xs:List XR,XR.sxs xs=xs.map XR.sx
 | []=>rfl
 | x::xs=>by simp only [XR.sxs,List.map_cons,sxs_eq xs]
theorem fit_x (x:XR):∀ d,SX.fit d x.sx->XFit d x:=by
 induction hsz:SizeOf.sizeOf x using Nat.strongRecOn generalizing x with
 | ind sz ih =>
  intro d h
  cases x with
  | atom bs =>
   cases d with
   | zero=>simp [XR.sx,SX.fit] at h
   | succ d=>exact .atom d bs (by simpa [XR.sx,SX.fit] using h)
  | list v xs =>
   cases d with
   | zero=>simp [XR.sx,SX.fit] at h
   | succ d =>
    simp only [XR.sx,SX.fit] at h
    refine .list d v xs fun x hx=>ih (SizeOf.sizeOf x) (by rw [<- hsz];have:=List.sizeOf_lt_of_mem hx;simp;omega) x rfl d ?_
    rw [sxs_eq] at h
    exact fits_mem h _ (List.mem_map_of_mem hx)
theorem nodes_x (x:XR):x.sx.nodes=x.nodes:=by
 induction hsz:SizeOf.sizeOf x using Nat.strongRecOn generalizing x with
 | ind sz ih =>
  cases x with
  | atom bs=>rfl
  | list v xs =>
   have key:∀ ys:List XR,(∀ y ∈ ys,y ∈ xs)->SX.nodess (XR.sxs ys)=XR.nodess ys:=by
    intro ys
    induction ys with
    | nil=>intro _;rfl
    | cons y ys ihy =>
     intro hy
     have h1:=ih (SizeOf.sizeOf y) (by rw [<- hsz];have:=List.sizeOf_lt_of_mem (hy y (by simp));simp;omega) y rfl
     simp only [XR.sxs,SX.nodess,XR.nodess,h1,ihy fun z hz=>hy z (List.mem_cons_of_mem _ hz)]
   simp only [XR.sx,SX.nodes,XR.nodes,key xs fun _ h=>h]
theorem fit_up:∀ {x:XR} {d:Nat},XFit d x->XFit (d+1) x:=by
 intro x
 induction hsz:SizeOf.sizeOf x using Nat.strongRecOn generalizing x with
 | ind sz ih =>
  intro d h
  cases h with
  | atom d bs hb=>exact .atom _ _ hb
  | list d v xs hx=>exact .list _ _ _ fun x hx'=>ih (SizeOf.sizeOf x) (by rw [<- hsz];have:=List.sizeOf_lt_of_mem hx';simp;omega) rfl (hx x hx')
theorem fit_le {x:XR} {d d':Nat} (h:XFit d x) (hd:d<=d'):XFit d' x:=by
 induction hd with
 | refl=>exact h
 | step _ ih=>exact fit_up ih
theorem nodes_mem {x:XR} {xs:List XR} (hx:x ∈ xs):x.nodes<=XR.nodess xs:=by
 induction xs with
 | nil=>simp at hx
 | cons y ys ih =>
  simp only [XR.nodess]
  rcases List.mem_cons.1 hx with rfl|hx
  ·omega
  ·have:=ih hx;omega
structure XGood (h:Hp) (n:Nat) (x:XR):Prop where
 ok:XOk h n x
 fit:XFit 12 x
 few:x.nodes<=20000
theorem XGood.ext {h h':Hp} {n n':Nat} {x:XR} (g:XGood h n x) (e:Gr h n h' n'):XGood h' n' x:=⟨g.ok.ext e,g.fit,g.few⟩
theorem XGood.atom (h:Hp) (n:Nat) (bs:List UInt8) (hb:bs.length<=65536):XGood h n (.atom bs):=⟨.atom bs,.atom _ _ hb,by simp [XR.nodes]⟩
theorem XGood.mem {h:Hp} {n:Nat} {v:AV} {xs:List XR} (g:XGood h n (.list v xs)):Sl h n 3 v xs.length (xs.flatMap xC)/\(∀ x ∈ xs,XGood h n x)/\xs.length < 20000:=by
 obtain⟨h1,h2,h3⟩:=g
 cases h1 with
 | list _ _ hs hxs =>
  cases h2 with
  | list d _ _ hf =>
   simp only [XR.nodes] at h3
   refine⟨hs,fun x hx=>⟨hxs x hx,fit_le (hf x hx) (by omega),by have:=nodes_mem hx;omega⟩,?_⟩
   have hlen:∀ ys:List XR,ys.length<=XR.nodess ys:=by
    intro ys
    induction ys with
    | nil=>simp [XR.nodess]
    | cons y ys ih =>
     have:1<=y.nodes:=by cases y<;>simp [XR.nodes]
     simp [XR.nodess];omega
   have:=hlen xs
   omega
set_option maxRecDepth 100000
set_option maxHeartbeats 4000000
abbrev rdC (s:List UInt8) (a c:Nat):List AV:=[strOf s,.int .i64 (a:Int),.int .i64 (c:Int)]
abbrev panV (e:Int):AV:=.ifc 136 (.agg [.int .i64 e])
theorem next107 {h:Hp} {n b:Nat} {s:List UInt8} {a c:Nat} (hc:hb h b=some (.cell (rdC s a c) 140 false)) (hl:s.length<=4000000000000000000) (ha:a<=s.length) :
  FnP E 107 [.ptr b 0] h n (fun r h' n'=>(∃ hlt:a < s.length,r=.int .u8 (s[a].toNat:Int))/\h'=h/\n'=n) (fun v h' n'=>a=s.length/\v=panV 11/\h'=h/\n'=n):=by
 refine FnP.of code107 (by decide) rfl fun Q cs hq hqq=>?_
 show SW E Q 107 [(r0,.ptr b 0)] _ _ _ _
 by_cases hlt:a < s.length
 ·repeat' first|refine SO.loadV rfl rfl rfl hc rfl ?_|refine SO.idxStrAt a rfl rfl rfl rfl rfl hlt ?_|refine SW.a rfl ?_|refine SW.reg ?_|refine SO.nil ?_|refine SO.nilD ?_|(refine SW.drawO rfl ?_;simp only [List.map_cons,List.map_nil])|refine SO.a rfl ?_|refine SO.cF rfl (by omega) ?_|fail
  exact SW.ret code107 ⟨_,rfl,hq _ _ _ ⟨⟨hlt,rfl⟩,rfl,rfl⟩⟩
 ·repeat' first|refine SO.loadV rfl rfl rfl hc rfl ?_|refine SO.build rfl rfl rfl (fun K=>rfl) ?_|refine SO.mkIfc rfl rfl rfl ?_|refine SW.a rfl ?_|refine SW.reg ?_|refine SO.nil ?_|refine SO.nilD ?_|(refine SW.drawO rfl ?_;simp only [List.map_cons,List.map_nil])|refine SO.a rfl ?_|refine SO.cT rfl (by omega) ?_|fail
  exact SO.panic rfl rfl (hqq _ _ _ ⟨by omega,rfl,rfl,rfl⟩)
theorem length108 {h:Hp} {n b:Nat} {s:List UInt8} {a c:Nat} (hc:hb h b=some (.cell (rdC s a c) 140 false)) (hbn:b < n) (hl:s.length<=4000000000000000000) (ha:a<=s.length) :
  FnP E 108 [.ptr b 0] h n (fun r h' n'=>∃ m rest,lenS true 0 (s.drop a)=.ok m rest/\r=.int .i64 (m:Int)/\hb h' b=some (.cell (rdC s (s.length - rest.length) c) 140 false)/\(∀ x,x≠b->hb h' x=hb h x)/\n'=n)
   (fun v h' n'=>∃ e,lenS true 0 (s.drop a)=.err e/\v=panV e/\(∀ x,x≠b->hb h' x=hb h x)/\n'=n):=by
 refine FnP.of code108 (by decide) rfl fun Q cs hq hqq=>?_
 show SW E Q 108 [(r0,.ptr b 0)] _ _ _ _
 have loop:∀ (k a' m:Nat) (first:Bool) (h1:Hp),a'+k=s.length->m<=65536->(first=true->m=0)->hb h1 b=some (.cell (rdC s a' c) 140 false)->(∀ x,x≠b->hb h1 x=hb h x)->lenS true 0 (s.drop a)=lenS first m (s.drop a') ->
   ∀ R,look R r0=some (.ptr b 0)->look R r3=some (.int .i64 (m:Int))->look R r4=some (.bool first)->SW E Q 108 R [.code c108x14,.inLoop c108x14,.inBlock 0] cs h1 n:=by
  intro k
  induction k with
  | zero =>
   intro a' m first h1 hk hm hf hc1 hk1 hS R q0 q3 q4
   refine SW.sub (R':=[(r0,.ptr b 0),(r3,.int .i64 (m:Int)),(r4,.bool first)]) (by simp [q0,q3,q4]) ?_
   repeat' first|refine SW.a rfl ?_|refine SW.reg ?_|refine SO.a rfl ?_
   refine SO.callP rfl rfl rfl (next107 hc1 hl (by omega)) ?_ ?_
   ·rintro _ _ _ ⟨⟨hlt,_⟩,_⟩
    omega
   ·rintro _ _ _ ⟨_,rfl,rfl,rfl⟩
    refine hqq _ _ _ ⟨11,?_,rfl,hk1,rfl⟩
    rw [hS,List.drop_eq_nil_of_le (by omega)]
    simp [lenS]
  | succ k ih =>
   intro a' m first h1 hk hm hf hc1 hk1 hS R q0 q3 q4
   have hlt:a' < s.length:=by omega
   have hd:s.drop a'=s[a']::s.drop (a'+1):=List.drop_eq_getElem_cons hlt
   have hch:=s[a'].toNat_lt
   rw [hd] at hS
   refine SW.sub (R':=[(r0,.ptr b 0),(r3,.int .i64 (m:Int)),(r4,.bool first)]) (by simp [q0,q3,q4]) ?_
   repeat' first|refine SW.a rfl ?_|refine SW.reg ?_|refine SO.a rfl ?_
   refine SO.callP rfl rfl rfl (next107 hc1 hl (by omega)) ?_ ?_
   case refine_2 =>
    rintro _ _ _ ⟨e,_⟩
    omega
   rintro _ h2 n2 ⟨⟨_,rfl⟩,rfl,rfl⟩
   simp only [lenS] at hS
   have hbyte:∀ t:Nat,t < 256->(s[a']=UInt8.ofNat t ↔ s[a'].toNat=t):=fun t ht=>by
    constructor
    ·intro e;rw [e];simp;omega
    ·intro e;apply UInt8.toNat_inj.1;rw [e];simp;omega
   have h58:(s[a']=58 ↔ s[a'].toNat=58):=hbyte 58 (by decide)
   generalize hcc:s[a'].toNat=ch at *
   cases first with
   | true =>
    obtain rfl:m=0:=hf rfl
    rw [if_neg (by simp)] at hS
    by_cases hbad:ch < 48\/57 < ch
    ·rw [if_pos (by rcases hbad with h|h<;>simp [h])] at hS
     rcases hbad with hbad|hbad
     ·by_cases h58':ch=58
      ·omega
      ·repeat' first|refine SO.build rfl rfl rfl (fun K=>rfl) ?_|refine SO.mkIfc rfl rfl rfl ?_|refine SW.a rfl ?_|refine SW.reg ?_|refine SO.nil ?_|refine SO.a rfl ?_|refine SO.cT rfl (by omega) ?_|refine SO.cF rfl (by omega) ?_|fail
       exact SO.panic rfl rfl (hqq _ _ _ ⟨12,hS,rfl,hk1,rfl⟩)
     ·by_cases h58':ch=58
      ·repeat' first|refine SO.build rfl rfl rfl (fun K=>rfl) ?_|refine SO.mkIfc rfl rfl rfl ?_|refine SW.a rfl ?_|refine SW.reg ?_|refine SO.nil ?_|refine SO.a rfl ?_|refine SO.cT rfl (by omega) ?_|refine SO.cF rfl (by omega) ?_|fail
       exact SO.panic rfl rfl (hqq _ _ _ ⟨12,hS,rfl,hk1,rfl⟩)
      ·repeat' first|refine SO.build rfl rfl rfl (fun K=>rfl) ?_|refine SO.mkIfc rfl rfl rfl ?_|refine SW.a rfl ?_|refine SW.reg ?_|refine SO.nil ?_|refine SO.a rfl ?_|refine SO.cT rfl (by omega) ?_|refine SO.cF rfl (by omega) ?_|fail
       exact SO.panic rfl rfl (hqq _ _ _ ⟨12,hS,rfl,hk1,rfl⟩)
    ·rw [if_neg (by simp;omega),if_neg (by omega)] at hS
     have h58':ch≠58:=by omega
     repeat' first|refine SO.loadV rfl rfl rfl hc1 rfl ?_|refine SO.mulN (a:=10) 0 rfl rfl rfl rfl (by decide) ?_|refine SO.subK 48 rfl rfl rfl rfl (by omega) (by show ch<=255;omega) ?_|refine SO.convN rfl rfl rfl (by show ch - 48<=9223372036854775807;omega) ?_|refine SO.addN (ch - 48) rfl rfl rfl rfl (by show 10*0+(ch - 48)<=9223372036854775807;omega) ?_|refine SW.a rfl ?_|refine SW.reg ?_|refine SO.nil ?_|refine SO.a rfl ?_|refine SO.cF rfl (by omega) ?_|refine SO.add rfl rfl rfl rfl (by omega) ?_|fail
     refine SO.put1 rfl rfl rfl hc1 rfl (by simp) (by simp) (fun h3 hc3 hk3=>?_)
     repeat' first|refine SW.a rfl ?_|refine SW.reg ?_|refine SO.nil ?_|refine SO.a rfl ?_
     refine SW.again ?_
     refine ih (a'+1) (10*0+(ch - 48)) false h3 (by omega) (by omega) (by simp) ?_ (fun x hx=>by rw [hk3 x hx,hk1 x hx]) (by rw [hS]) _ rfl rfl rfl
     exact hc3
   | false =>
    by_cases h58':ch=58
    ·rw [if_pos ⟨h58.2 h58',rfl⟩] at hS
     repeat' first|refine SO.loadV rfl rfl rfl hc1 rfl ?_|refine SW.a rfl ?_|refine SW.reg ?_|refine SO.nil ?_|refine SO.a rfl ?_|refine SO.cT rfl (by omega) ?_|refine SO.add rfl rfl rfl rfl (by omega) ?_|fail
     refine SO.put1 rfl rfl rfl hc1 rfl (by simp) (by simp) (fun h3 hc3 hk3=>?_)
     repeat' first|refine SW.a rfl ?_|refine SW.reg ?_|refine SO.nil ?_|refine SO.a rfl ?_
     refine SW.ret code108 ⟨_,rfl,hq _ _ _ ⟨m,s.drop (a'+1),hS,rfl,?_,fun x hx=>by rw [hk3 x hx,hk1 x hx],rfl⟩⟩
     have:s.length - (s.drop (a'+1)).length=a'+1:=by simp;omega
     rw [this]
     exact hc3
    ·rw [if_neg (fun e=>h58' (h58.1 e.1))] at hS
     by_cases hbad:ch < 48\/57 < ch\/m=0
     ·rw [if_pos (by rcases hbad with h|h|h<;>simp [h])] at hS
      rcases hbad with hbad|hbad|rfl
      ·repeat' first|refine SO.build rfl rfl rfl (fun K=>rfl) ?_|refine SO.mkIfc rfl rfl rfl ?_|refine SW.a rfl ?_|refine SW.reg ?_|refine SO.nil ?_|refine SO.a rfl ?_|refine SO.cT rfl (by omega) ?_|refine SO.cF rfl (by omega) ?_|fail
       exact SO.panic rfl rfl (hqq _ _ _ ⟨12,hS,rfl,hk1,rfl⟩)
      ·repeat' first|refine SO.build rfl rfl rfl (fun K=>rfl) ?_|refine SO.mkIfc rfl rfl rfl ?_|refine SW.a rfl ?_|refine SW.reg ?_|refine SO.nil ?_|refine SO.a rfl ?_|refine SO.cT rfl (by omega) ?_|refine SO.cF rfl (by omega) ?_|fail
       exact SO.panic rfl rfl (hqq _ _ _ ⟨12,hS,rfl,hk1,rfl⟩)
      ·by_cases h48:ch < 48
       ·repeat' first|refine SO.build rfl rfl rfl (fun K=>rfl) ?_|refine SO.mkIfc rfl rfl rfl ?_|refine SW.a rfl ?_|refine SW.reg ?_|refine SO.nil ?_|refine SO.a rfl ?_|refine SO.cT rfl (by omega) ?_|refine SO.cF rfl (by omega) ?_|fail
        exact SO.panic rfl rfl (hqq _ _ _ ⟨12,hS,rfl,hk1,rfl⟩)
       ·by_cases h57:57 < ch
        ·repeat' first|refine SO.build rfl rfl rfl (fun K=>rfl) ?_|refine SO.mkIfc rfl rfl rfl ?_|refine SW.a rfl ?_|refine SW.reg ?_|refine SO.nil ?_|refine SO.a rfl ?_|refine SO.cT rfl (by omega) ?_|refine SO.cF rfl (by omega) ?_|fail
         exact SO.panic rfl rfl (hqq _ _ _ ⟨12,hS,rfl,hk1,rfl⟩)
        ·repeat' first|refine SO.build rfl rfl rfl (fun K=>rfl) ?_|refine SO.mkIfc rfl rfl rfl ?_|refine SW.a rfl ?_|refine SW.reg ?_|refine SO.nil ?_|refine SO.a rfl ?_|refine SO.cT rfl (by omega) ?_|refine SO.cF rfl (by omega) ?_|fail
         exact SO.panic rfl rfl (hqq _ _ _ ⟨12,hS,rfl,hk1,rfl⟩)
     ·rw [if_neg (by simp;omega)] at hS
      repeat' first|refine SO.mulN (a:=10) m rfl rfl rfl rfl (by show 10*m<=9223372036854775807;omega) ?_|refine SO.subK 48 rfl rfl rfl rfl (by omega) (by show ch<=255;omega) ?_|refine SO.convN rfl rfl rfl (by show ch - 48<=9223372036854775807;omega) ?_|refine SO.addN (ch - 48) rfl rfl rfl rfl (by show 10*m+(ch - 48)<=9223372036854775807;omega) ?_|refine SW.a rfl ?_|refine SW.reg ?_|refine SO.nil ?_|refine SO.a rfl ?_|refine SO.cF rfl (by omega) ?_|fail
      by_cases hbig:65536 < 10*m+(ch - 48)
      ·rw [if_pos hbig] at hS
       repeat' first|refine SO.build rfl rfl rfl (fun K=>rfl) ?_|refine SO.mkIfc rfl rfl rfl ?_|refine SW.a rfl ?_|refine SW.reg ?_|refine SO.nil ?_|refine SO.cT rfl (by omega) ?_|fail
       exact SO.panic rfl rfl (hqq _ _ _ ⟨12,hS,rfl,hk1,rfl⟩)
      ·rw [if_neg hbig] at hS
       repeat' first|refine SO.loadV rfl rfl rfl hc1 rfl ?_|refine SW.a rfl ?_|refine SW.reg ?_|refine SO.nil ?_|refine SO.a rfl ?_|refine SO.cF rfl (by omega) ?_|refine SO.add rfl rfl rfl rfl (by omega) ?_|fail
       refine SO.put1 rfl rfl rfl hc1 rfl (by simp) (by simp) (fun h3 hc3 hk3=>?_)
       repeat' first|refine SW.a rfl ?_|refine SW.reg ?_|refine SO.nil ?_|refine SO.a rfl ?_
       refine SW.again ?_
       exact ih (a'+1) (10*m+(ch - 48)) false h3 (by omega) (by omega) (by simp) hc3 (fun x hx=>by rw [hk3 x hx,hk1 x hx]) hS _ rfl rfl rfl
 repeat' first|refine SW.a rfl ?_|refine SW.reg ?_|refine SO.nil ?_|refine SO.a rfl ?_
 refine SW.loop ?_
 exact loop (s.length - a) a 0 true h (by omega) (by omega) (fun _=>rfl) hc (fun _ _=>rfl) rfl _ rfl rfl rfl
end Go.Ev
