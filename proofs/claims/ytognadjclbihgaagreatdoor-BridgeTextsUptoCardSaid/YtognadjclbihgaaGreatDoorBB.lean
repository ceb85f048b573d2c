/- Contracts: csexp's reader: an expression. -/
import Derived.Test.YtognadjclbihgaaGreatDoorE6
import Derived.Test.YtognadjclbihgaaGreatDoorBA
set_option linter.all false
namespace Go.Ev
set_option maxRecDepth 100000
set_option maxHeartbeats 8000000
def appL (xs:List SX):RL->RL
 | .ok ys rest left=>.ok (xs++ys) rest left
 | .err e=>.err e
theorem appL_nil (r:RL):appL [] r=r:=by cases r<;>rfl
theorem rest_at {s u rest:List UInt8} {a:Nat} (h:s.drop a=u++rest) (ha:a<=s.length):rest=s.drop (s.length - rest.length)/\rest.length<=s.length:=by
 have h1:=congrArg List.length h
 simp only [List.length_drop,List.length_append] at h1
 have h2:rest=s.drop (a+u.length):=by rw [<- List.drop_drop,h];simp
 have h3:s.length - rest.length=a+u.length:=by omega
 rw [h3];exact⟨h2,by omega⟩
theorem sexp60:∀ (d lv:Nat),lv+d=13->∀ {h:Hp} {n b:Nat} {s:List UInt8} {a c:Nat},hb h b=some (.cell (rdC s a c) 140 false)->b < n->s.length<=100000->a<=s.length->c<=20000 ->
  FnP E 60 [.ptr b 0,.int .i64 (lv:Int)] h n
   (fun r h' n'=>∃ (x:XR) (rest:List UInt8) (left:Nat),readS d (s.drop a) (20000 - c)=.ok x.sx rest left/\r=.agg (xC x)/\Stand n n' h' (fun g m=>XOk g m x)/\hb h' b=some (.cell (rdC s (s.length - rest.length) (20000 - left)) 140 false)/\But b h n h' n')
   (fun v h' n'=>∃ e,readS d (s.drop a) (20000 - c)=.err e/\v=panV e/\But b h n h' n'):=by
 intro d
 induction d with
 | zero =>
  intro lv hlv h n b s a c hc hbn hl ha hcl
  refine FnP.of code60 (by decide) rfl fun Q cs hq hqq=>?_
  show SW E Q 60 [(r0,.ptr b 0),(r1,.int .i64 (lv:Int))] _ _ _ _
  repeat' first|refine SO.alloc rfl rfl (fun h1 hc1 hE1=>?_)|refine SW.a rfl ?_|refine SW.reg ?_|refine SO.nil ?_|refine SO.a rfl ?_
  have hcb:hb h1 b=some (.cell (rdC s a c) 140 false):=by rw [hE1.same b hbn];exact hc
  refine SO.callP rfl rfl rfl (next107 hcb (by omega) ha) ?_ ?_
  case refine_2 =>
   rintro _ _ _ ⟨rfl,rfl,rfl,rfl⟩
   refine hqq _ _ _ ⟨11,?_,rfl,But.of hE1⟩
   rw [List.drop_length];rfl
  rintro _ h1' m1' ⟨⟨hlt,rfl⟩,hge,hme⟩
  rw [hge,hme]
  have hd:s.drop a=s[a]::s.drop (a+1):=List.drop_eq_getElem_cons hlt
  have hpan:∀ (h3:Hp),(∀ x,x≠b->hb h3 x=hb h1 x)->Wp E Q (.raise (panV 12) cs) h3 (n+1):=fun h3 hk3=>hqq _ _ _ ⟨12,by rw [hd];rfl,rfl,(But.of hE1).trans (But.put hk3)⟩
  repeat' first|refine SO.loadV rfl rfl rfl hcb rfl ?_|refine SW.a rfl ?_|refine SW.reg ?_|refine SO.nil ?_|refine SO.a rfl ?_|refine SO.add rfl rfl rfl rfl (by omega) ?_|fail
  refine SO.put1 rfl rfl rfl hcb rfl (by simp) (by simp) (fun h3 hc3 hk3=>?_)
  have hcb3:hb h3 b=some (.cell (rdC s a (c+1)) 140 false):=hc3
  by_cases h20:20000 < c+1
  ·repeat' first|refine SO.loadV rfl rfl rfl hcb3 rfl ?_|refine SO.build rfl rfl rfl (fun K=>rfl) ?_|refine SO.mkIfc rfl rfl rfl ?_|refine SW.a rfl ?_|refine SW.reg ?_|refine SO.nil ?_|refine SO.a rfl ?_|refine SO.cT rfl (by omega) ?_|fail
   exact SO.panic rfl rfl (hpan h3 hk3)
  ·repeat' first|refine SO.loadV rfl rfl rfl hcb3 rfl ?_|refine SO.build rfl rfl rfl (fun K=>rfl) ?_|refine SO.mkIfc rfl rfl rfl ?_|refine SW.a rfl ?_|refine SW.reg ?_|refine SO.nil ?_|refine SO.a rfl ?_|refine SO.cT rfl (by omega) ?_|refine SO.cF rfl (by omega) ?_|fail
   exact SO.panic rfl rfl (hpan h3 hk3)
 | succ d ihd =>
  intro lv hlv h n b s a c hc hbn hl ha hcl
  refine FnP.of code60 (by decide) rfl fun Q cs hq hqq=>?_
  show SW E Q 60 [(r0,.ptr b 0),(r1,.int .i64 (lv:Int))] _ _ _ _
  repeat' first|refine SO.alloc rfl rfl (fun h1 hc1 hE1=>?_)|refine SW.a rfl ?_|refine SW.reg ?_|refine SO.nil ?_|refine SO.a rfl ?_
  have hcb:hb h1 b=some (.cell (rdC s a c) 140 false):=by rw [hE1.same b hbn];exact hc
  refine SO.callP rfl rfl rfl (next107 hcb (by omega) ha) ?_ ?_
  case refine_2 =>
   rintro _ _ _ ⟨rfl,rfl,rfl,rfl⟩
   refine hqq _ _ _ ⟨11,?_,rfl,But.of hE1⟩
   rw [List.drop_length];rfl
  rintro _ h1' m1' ⟨⟨hlt,rfl⟩,hge,hme⟩
  rw [hge,hme]
  have hd:s.drop a=s[a]::s.drop (a+1):=List.drop_eq_getElem_cons hlt
  have hch:=s[a].toNat_lt
  have hB1:But b h n h1 (n+1):=But.of hE1
  repeat' first|refine SO.loadV rfl rfl rfl hcb rfl ?_|refine SW.a rfl ?_|refine SW.reg ?_|refine SO.nil ?_|refine SO.a rfl ?_|refine SO.add rfl rfl rfl rfl (by omega) ?_|fail
  refine SO.put1 rfl rfl rfl hcb rfl (by simp) (by simp) (fun h3 hc3 hk3=>?_)
  have hcb3:hb h3 b=some (.cell (rdC s a (c+1)) 140 false):=hc3
  have hB3:But b h n h3 (n+1):=hB1.trans (But.put hk3)
  have hcn3:hb h3 n=some (.cell [.bool false,strOf [],.nils] 56 false):=by rw [hk3 n (by omega)];exact hc1
  by_cases h20:20000 < c+1
  ·repeat' first|refine SO.loadV rfl rfl rfl hcb3 rfl ?_|refine SO.build rfl rfl rfl (fun K=>rfl) ?_|refine SO.mkIfc rfl rfl rfl ?_|refine SW.a rfl ?_|refine SW.reg ?_|refine SO.nil ?_|refine SO.a rfl ?_|refine SO.cT rfl (by omega) ?_|fail
   refine SO.panic rfl rfl (hqq _ _ _ ⟨12,?_,rfl,hB3⟩)
   rw [hd]
   simp only [readS]
   rw [if_pos (by omega)]
  have hleft:¬ (20000 - c=0):=by omega
  have h40:(s[a]=40 ↔ s[a].toNat=40):=by
   constructor
   ·intro e;rw [e];rfl
   ·intro e;apply UInt8.toNat_inj.1;rw [e];rfl
  have hrd:readS (d+1) (s.drop a) (20000 - c)=if s[a].toNat=40 then (match listS (readS d) ((s.drop (a+1)).length+1) (s.drop (a+1)) (20000 - c - 1) with
   | .err e=>.err e
   | .ok xs rest left'=>.ok (.list xs) rest left') else atomS (s.drop a) (20000 - c - 1):=by
   rw [hd]
   simp only [readS]
   rw [if_neg hleft]
   by_cases h:s[a]=40
   ·rw [if_pos h,if_pos (h40.1 h)];rfl
   ·rw [if_neg h,if_neg (fun e=>h (h40.2 e))]
  rw [hrd] at hq hqq
  by_cases hch40:s[a].toNat=40
  case neg =>
   rw [if_neg hch40] at hq hqq
   repeat' first|refine SO.loadV rfl rfl rfl hcb3 rfl ?_|refine SW.a rfl ?_|refine SW.reg ?_|refine SO.nil ?_|refine SO.a rfl ?_|refine SO.cT rfl (by omega) ?_|refine SO.cF rfl (by omega) ?_|fail
   refine SO.callP rfl rfl rfl (length108 hcb3 (by omega) (by omega) ha) ?_ ?_
   case refine_2 =>
    rintro _ h4 n4 ⟨e,he,rfl,hk4,rfl⟩
    refine hqq _ _ _ ⟨e,?_,rfl,hB3.trans (But.put hk4)⟩
    simp only [atomS,he]
   rintro _ h4 n4 ⟨m,rest,he,rfl,hc4,hk4,rfl⟩
   have hB4:But b h n h4 (n+1):=hB3.trans (But.put hk4)
   have hcn4:hb h4 n=some (.cell [.bool false,strOf [],.nils] 56 false):=by rw [hk4 n (by omega)];exact hcn3
   have hinv:=lenS_inv0 he
   have hra:=rest_at (u:=decN m++[58]) (rest:=rest) (by rw [hinv.1];simp) ha
   have hat:atomS (s.drop a) (20000 - c - 1)=if rest.length < m then .err 11 else .ok (.atom (rest.take m)) (rest.drop m) (20000 - c - 1):=by simp only [atomS,he]
   rw [hat] at hq hqq
   generalize ha':s.length - rest.length=a' at *
   have hm:=hinv.2
   have hdl:=s.length
   by_cases hshort:rest.length < m
   ·rw [if_pos hshort] at hqq
    repeat' first|refine SO.loadV rfl rfl rfl hc4 rfl ?_|refine SO.build rfl rfl rfl (fun K=>rfl) ?_|refine SO.mkIfc rfl rfl rfl ?_|refine SW.a rfl ?_|refine SW.reg ?_|refine SO.nil ?_|refine SO.nilD ?_|(refine SW.drawO rfl ?_;simp only [List.map_cons,List.map_nil])|refine SO.a rfl ?_|refine SO.cT rfl (by omega) ?_|refine SO.sub rfl rfl rfl rfl (by omega) ?_|fail
    exact SO.panic rfl rfl (hqq _ _ _ ⟨11,rfl,rfl,hB4⟩)
   ·rw [if_neg hshort] at hq
    repeat' first|refine SO.loadV rfl rfl rfl hc4 rfl ?_|refine SW.a rfl ?_|refine SW.reg ?_|refine SO.nil ?_|refine SO.nilD ?_|(refine SW.drawO rfl ?_;simp only [List.map_cons,List.map_nil])|refine SO.a rfl ?_|refine SO.cF rfl (by omega) ?_|refine SO.add rfl rfl rfl rfl (by omega) ?_|refine SO.sub rfl rfl rfl rfl (by omega) ?_|fail
    refine SO.put1 rfl rfl rfl hc4 rfl (by simp) (by simp) (fun h5 hc5 hk5=>?_)
    have hcb5:hb h5 b=some (.cell (rdC s (a'+m) (c+1)) 140 false):=hc5
    have hcn5:hb h5 n=some (.cell [.bool false,strOf [],.nils] 56 false):=by rw [hk5 n (by omega)];exact hcn4
    repeat' first|refine SO.loadV rfl rfl rfl hcb5 rfl ?_|refine SW.a rfl ?_|refine SO.nil ?_|(refine SW.drawO rfl ?_;simp only [List.map_cons,List.map_nil])|refine SO.a rfl ?_|refine SO.sub rfl rfl rfl rfl (by omega) ?_|fail
    refine SO.sliceAt a' (a'+m) rfl rfl rfl rfl rfl rfl (by omega) (by omega) (by omega) ?_
    repeat' refine SO.build rfl rfl rfl (fun K=>rfl) ?_
    refine SO.storeAll rfl rfl rfl hcn5 rfl rfl (fun h6 hc6 hk6=>?_)
    have hp:part s a' (a'+m)=rest.take m:=by
     unfold part
     rw [show a'+m - a'=m by omega,<- hra.1]
    rw [hp] at hc6
    repeat' refine SO.nilD ?_
    refine SW.ret code60 ⟨n,0,_,rfl,.inl ⟨_,_,hc6⟩,by simp,hq _ _ _ ⟨.atom (rest.take m),rest.drop m,20000 - c - 1,rfl,rfl,fun g m' _ _=>.atom _,?_,?_⟩⟩
    ·rw [hk6 b (by omega),List.length_drop,show s.length - (rest.length - m)=a'+m by omega,show 20000 - (20000 - c - 1)=c+1 by omega]
     exact hcb5
    ·exact⟨by omega,fun x h1 h2=>by rw [hk6 x (by omega),hk5 x h2];exact hB4.2 x h1 h2⟩
  case pos =>
   rw [if_pos hch40] at hq hqq
   generalize hK:(s.drop (a+1)).length+1=K at *
   repeat' first|refine SO.loadV rfl rfl rfl hcb3 rfl ?_|refine SW.a rfl ?_|refine SW.reg ?_|refine SO.nil ?_|refine SO.a rfl ?_|refine SO.cF rfl (by omega) ?_|refine SO.add rfl rfl rfl rfl (by omega) ?_|fail
   refine SO.put1 rfl rfl rfl hcb3 rfl (by simp) (by simp) (fun h4 hc4 hk4=>?_)
   have hcb4:hb h4 b=some (.cell (rdC s (a+1) (c+1)) 140 false):=hc4
   have hcn4:hb h4 n=some (.cell [.bool false,strOf [],.nils] 56 false):=by rw [hk4 n (by omega)];exact hcn3
   have hB4:But b h n h4 (n+1):=hB3.trans (But.put hk4)
   repeat' first|refine SO.build rfl rfl rfl (fun K=>rfl) ?_|refine SO.alloc rfl rfl (fun h5 hc5 hE5=>?_)|refine SW.a rfl ?_|refine SW.reg ?_|refine SO.nil ?_
   refine SO.storeAll rfl rfl rfl hc5 rfl rfl (fun h6 hc6 hk6=>?_)
   have hcb6:hb h6 b=some (.cell (rdC s (a+1) (c+1)) 140 false):=by rw [hk6 b (by omega),hE5.same b (by omega)];exact hcb4
   have hcn6:hb h6 n=some (.cell [.bool false,strOf [],.nils] 56 false):=by rw [hk6 n (by omega),hE5.same n (by omega)];exact hcn4
   have hB6:But b h n h6 (n+2):=⟨by omega,fun x h1 h2=>by rw [hk6 x (by omega),hE5.same x (by omega)];exact hB4.2 x h1 h2⟩
   have loop:∀ (k a1 c1:Nat) (g:Hp) (m:Nat) (v:AV) (fo:Option Nat) (xs:List XR),(s.drop a1).length < k->a1<=s.length->c1<=20000->xs.length+(s.length - a1)<=s.length->n+2<=m->hb g b=some (.cell (rdC s a1 c1) 140 false)->hb g n=some (.cell [.bool false,strOf [],.nils] 56 false)->hb g (n+1)=some (.cell [.bool true,strOf [],v] 56 false) ->
     Own g (n+2) m 3 56 v fo (xs.flatMap xC)->Each g (n+2) m fo (fun x g m=>XOk g m x) xs->But b h n g m ->
     listS (readS d) K (s.drop (a+1)) (20000 - c - 1)=appL (xs.map XR.sx) (listS (readS d) k (s.drop a1) (20000 - c1)) ->
     ∀ R,look R r0=some (.ptr b 0)->look R r1=some (.int .i64 (lv:Int))->look R r4=some (.ptr n 0)->look R r7=some (.ptr (n+1) 0)->SW E Q 60 R [.code c60x15,.inLoop c60x15,.inBlock 0,.code (.seq (.reg c60x16) (.seq (.reg c60x17) .ret))] cs g m:=by
    intro k
    induction k with
    | zero=>intro a1 c1 g m v fo xs hk;omega
    | succ k ihk =>
     intro a1 c1 g m v fo xs hk ha1 hc1' hxl hm g1 g2 g3 ho hX hB hL R q0 q1 q4 q7
     refine SW.sub (R':=[(r0,.ptr b 0),(r1,.int .i64 (lv:Int)),(r4,.ptr n 0),(r7,.ptr (n+1) 0)]) (by simp [q0,q1,q4,q7]) ?_
     repeat' first|refine SW.a rfl ?_|refine SW.reg ?_|refine SO.a rfl ?_
     refine SO.callP rfl rfl rfl (next107 g1 (by omega) ha1) ?_ ?_
     case refine_2 =>
      rintro _ _ _ ⟨rfl,rfl,rfl,rfl⟩
      refine hqq _ _ _ ⟨11,?_,rfl,hB⟩
      rw [hL,List.drop_length]
      simp [listS,appL]
     rintro _ g' m' ⟨⟨hlt1,rfl⟩,hge,hme⟩
     rw [hge,hme]
     have hd1:s.drop a1=s[a1]::s.drop (a1+1):=List.drop_eq_getElem_cons hlt1
     have hch1:=s[a1].toNat_lt
     have h41:(s[a1]=41 ↔ s[a1].toNat=41):=by
      constructor
      ·intro e;rw [e];rfl
      ·intro e;apply UInt8.toNat_inj.1;rw [e];rfl
     rw [hd1] at hL
     simp only [listS] at hL
     rw [<- hd1] at hL
     by_cases h41':s[a1].toNat=41
     ·
      rw [if_pos (h41.2 h41')] at hL
      simp only [appL,List.append_nil] at hL
      repeat' first|refine SO.loadV rfl rfl rfl g1 rfl ?_|refine SW.a rfl ?_|refine SW.reg ?_|refine SO.nil ?_|refine SO.a rfl ?_|refine SO.cF rfl (by omega) ?_|refine SO.add rfl rfl rfl rfl (by omega) ?_|fail
      refine SO.put1 rfl rfl rfl g1 rfl (by simp) (by simp) (fun g4 e4 k4=>?_)
      have e3:hb g4 (n+1)=some (.cell [.bool true,strOf [],v] 56 false):=by rw [k4 (n+1) (by omega)];exact g3
      have e2:hb g4 n=some (.cell [.bool false,strOf [],.nils] 56 false):=by rw [k4 n (by omega)];exact g2
      repeat' first|refine SO.loadVA rfl rfl rfl e3 rfl ?_|refine SW.a rfl ?_|refine SW.reg ?_|refine SO.nil ?_
      refine SO.storeAll rfl rfl rfl e2 rfl rfl (fun g5 e5 k5=>?_)
      repeat' refine SO.nil ?_
      refine SW.ret code60 ⟨n,0,_,rfl,.inl ⟨_,_,e5⟩,by simp,hq _ _ _ ⟨.list v xs,s.drop (a1+1),20000 - c1,?_,rfl,?_,?_,?_⟩⟩
      ·rw [hL]
       simp only [XR.sx,sxs_eq]
      ·
       have hag:∀ x,n+2<=x->x < m->hb g5 x=hb g x:=fun x h1 h2=>by rw [k5 x (by omega),k4 x (by omega)]
       have ho5:Own g5 (n+2) m 3 56 v fo (xs.flatMap xC):=ho.keep (Nat.le_refl _) hag
       have hX5:Each g5 (n+2) m fo (fun x g m=>XOk g m x) xs:=hX.keep (Nat.le_refl _) fun x h1 h2 _=>hag x h1 h2
       intro g6 m6 hm6 hk6
       refine .list v xs ((ho5.keep hm6 fun x h1 h2=>hk6 x (by omega) h2).sl (flatMap_length xC_length xs) (by decide)) fun x hx=>?_
       obtain⟨lo,hi,l1,l2,l3,_⟩:=hX5 x hx
       exact l3 g6 m6 (by omega) fun y h1 h2=>hk6 y (by omega) (by omega)
      ·rw [k5 b (by omega),show s.length - (s.drop (a1+1)).length=a1+1 by simp;omega,show 20000 - (20000 - c1)=c1 by omega]
       exact e4
      ·exact⟨hB.1,fun x h1 h2=>by rw [k5 x (by omega),k4 x h2];exact hB.2 x h1 h2⟩
     ·
      rw [if_neg (fun e=>h41' (h41.1 e))] at hL
      repeat' first|refine SO.loadV rfl rfl rfl g3 rfl ?_|refine SW.a rfl ?_|refine SO.nil ?_|(refine SW.drawG ?_;simp only [gOps,gRc,gTail])|refine SO.a rfl ?_|refine SO.cT rfl (by omega) ?_|refine SO.add rfl rfl rfl rfl (by omega) ?_|fail
      have hfn:=ihd (lv+1) (by omega) g1 (by omega) hl ha1 hc1' (n:=m)
      rw [show ((lv+1:Nat):Int)=(lv:Int)+1 by omega] at hfn
      refine SO.callP rfl rfl rfl hfn ?_ ?_
      case refine_2 =>
       rintro _ g4 m4 ⟨e,he,rfl,hB4⟩
       refine hqq _ _ _ ⟨e,?_,rfl,hB.trans hB4⟩
       rw [hL,he]
       rfl
      rintro _ g4 m4 ⟨x,rest,left,he,rfl,hst,e1,hB4⟩
      rw [he] at hL
      simp only at hL
      have hB4':=hB4.2
      have lm:=hB4.1
      have e3:hb g4 (n+1)=some (.cell [.bool true,strOf [],v] 56 false):=by rw [hB4' (n+1) (by omega) (by omega)];exact g3
      have e2:hb g4 n=some (.cell [.bool false,strOf [],.nils] 56 false):=by rw [hB4' n (by omega) (by omega)];exact g2
      have hinv:=readS_inv _ _ _ _ _ _ he
      have hra:=rest_at hinv.1 ha1
      have hsh:=readS_shorter _ _ _ _ _ _ he
      refine SO.more (Still.loadV (c:=⟨none,none,[],.mov⟩) rfl rfl rfl e3 rfl Still.nil) ?_
      simp only [gOps,gRc,gTail]
      refine SO.bslice (us:=xC x) rfl rfl rfl (fun k=>by cases x<;>rfl) (fun g5 c5 hE5=>?_)
      have f3:hb g5 (n+1)=some (.cell [.bool true,strOf [],v] 56 false):=by rw [hE5.same (n+1) (by omega)];exact e3
      refine SO.more (Still.loadV (c:=⟨none,none,[],.mov⟩) rfl rfl rfl f3 rfl Still.nil) ?_
      simp only [gOps,gRc,gTail]
      have ho5:Own g5 (n+2) (m4+1) 3 56 v fo (xs.flatMap xC):=(ho.keep lm fun y h1 h2=>hB4' y h2 (by omega)).keep (by omega) fun y _ h2=>hE5.same y h2
      have hx:Sl g5 (m4+1) 3 (.slc m4 0 1 1) 1 (xC x):=⟨xC_length x,.inr ⟨m4,0,1,_,.inl ⟨rfl,Nat.le_refl _⟩,⟨by omega,.inl ⟨_,_,c5⟩⟩,by rw [xC_length];omega,by rw [List.drop_zero,<- xC_length x,List.take_of_length_le (by omega)]⟩⟩
      have hxs:xs.length<=100000:=by omega
      refine SO.append rfl rfl rfl rfl (by decide) (by decide) ho5 (by omega) hx (by rw [flatMap_length xC_length,xC_length];omega) fun v' fo' g6 m6 ho6 hn6 hk6 hf6=>?_
      have hfo:∀ y,y < n+2->fo≠some y:=fun y hy e=>by have:=own_low ho e;omega
      have d3:hb g6 (n+1)=some (.cell [.bool true,strOf [],v] 56 false):=by rw [hk6 (n+1) (by omega) (hfo _ (by omega))];exact f3
      repeat' refine SO.a rfl ?_
      refine SO.put1 rfl rfl rfl d3 (own_one ho6).1 (own_one ho6).2 (by simp) (fun g7 c7 hk7=>?_)
      repeat' first|refine SW.a rfl ?_|refine SO.nilD ?_
      refine SW.again ?_
      have hlow:∀ y,y < n+2->y≠n+1->hb g7 y=hb g4 y:=fun y h1 h2=>by rw [hk7 y h2,hk6 y (by omega) (hfo y h1),hE5.same y (by omega)]
      refine ihk (s.length - rest.length) (20000 - left) g7 m6 v' fo' (xs++[x]) ?_ (by omega) (by omega) ?_ (by omega) ?_ ?_ ?_ ?_ ?_ ?_ ?_ _ rfl rfl rfl rfl
      ·rw [<- hra.1];omega
      ·have:=congrArg List.length hra.1
       simp only [List.length_drop,List.length_append,List.length_singleton] at hsh this ⊢
       omega
      ·rw [hlow b (by omega) (by omega)];exact e1
      ·rw [hlow n (by omega) (by omega)];exact e2
      ·exact c7
      ·rw [List.flatMap_append]
       have:=ho6.keep (h':=g7) (Nat.le_refl _) fun y h1 _=>hk7 y (by omega)
       simpa using this
      ·
       have h5:Each g5 (n+2) (m4+1) fo (fun x g m=>XOk g m x) (xs++[x]):=by
        refine Each.snoc (hX.keep (by omega) fun y h1 h2 _=>by rw [hE5.same y (by omega),hB4' y h2 (by omega)]) ⟨m,m4,by omega,by omega,hst.keep fun y h1 h2=>hE5.same y h2,fun f hf=>.inl ?_⟩
        have:=own_low ho hf;omega
       exact (h5.append hn6 hk6 hf6).keep (Nat.le_refl _) fun y h1 _ _=>hk7 y (by omega)
      ·exact⟨by omega,fun y h1 h2=>by rw [hlow y (by omega) (by omega),hB4' y (by omega) h2];exact hB.2 y h1 h2⟩
      ·rw [hL,<- hra.1,show 20000 - (20000 - left)=left by omega]
       cases listS (readS d) k rest left<;>simp [appL]
   repeat' first|refine SW.a rfl ?_|refine SO.nil ?_
   refine SW.loop ?_
   refine loop K (a+1) (c+1) h6 (n+2) .nils none [] (by omega) (by omega) (by omega) (by simp) (Nat.le_refl _) hcb6 hcn6 hc6 (.inl ⟨rfl,rfl,rfl⟩) Each.nil hB6 ?_ _ rfl rfl rfl rfl
   rw [List.map_nil,appL_nil,show 20000 - (c+1)=20000 - c - 1 by omega]
set_option maxRecDepth 100000
set_option maxHeartbeats 8000000
theorem back59 {Q:Post} {h:Hp} {n n0:Nat} {cs:List AF} {t:Tr} {R:List (Path × AV)} {e e0:Int} {x0:List AV} {i0:Int} {bd:CC} (hx:x0.length=3) (hn:n0+2 < n) (ht:RegIs t R) (q2:look R r2=some (.ptr n0 0)) (q3:look R r3=some (.ptr (n0+1) 0)) (q4:look R r4=some (.ptr (n0+2) 0))
  (c1:hb h n0=some (.cell x0 56 false)) (c2:hb h (n0+1)=some (.cell [.int .i64 i0] 3 false)) (c3:hb h (n0+2)=some (.cell [.int .i64 e0] 24 false)) (hcode:E.func 29=some ⟨firstPaths 1,[.cellA 3 r2,.cellC r3,.cellC r4],bd⟩)
  (hw:∀ h',(∀ b,b < n0->hb h' b=hb h b)->Wp E Q (.give (.tup [.agg [.bool false,strOf [],.nils],.int .i64 0,.int .i64 e]) cs) h' (n+1)) :
  Wp E Q (.run (.mk 59 (setAll (firstPaths 3) [.ptr n0 0,.ptr (n0+1) 0,.ptr (n0+2) 0] .nil) [.code c59] [] none) (.mk 29 t [.inUnw (.pan (panV e) false)] [] none::cs)) h n:=by
 refine SW.run (fn:=59) (R:=[(r0,.ptr n0 0),(r1,.ptr (n0+1) 0),(r2,.ptr (n0+2) 0)]) ?_ _ (RegIs.first (m:=3) (by decide) rfl)
 repeat' first|refine SW.a rfl ?_|refine SW.reg ?_
 refine SO.recoverV rfl rfl ?_
 repeat' first|refine SO.assertY rfl rfl rfl ?_|refine SO.alloc rfl rfl (fun h1 k1 hE1=>?_)|refine SW.a rfl ?_|refine SW.reg ?_|refine SO.nil ?_|refine SO.a rfl ?_
 refine SO.storeAll rfl rfl rfl k1 rfl rfl (fun h2 k2 hk2=>?_)
 have d1:hb h2 n0=some (.cell x0 56 false):=by rw [hk2 n0 (by omega),hE1.same n0 (by omega)];exact c1
 have d2:hb h2 (n0+1)=some (.cell [.int .i64 i0] 3 false):=by rw [hk2 (n0+1) (by omega),hE1.same (n0+1) (by omega)];exact c2
 have d3:hb h2 (n0+2)=some (.cell [.int .i64 e0] 24 false):=by rw [hk2 (n0+2) (by omega),hE1.same (n0+2) (by omega)];exact c3
 repeat' first|refine SO.build rfl rfl rfl (fun K=>rfl) ?_|refine SO.loadV rfl rfl rfl k2 rfl ?_|refine SW.a rfl ?_|refine SW.reg ?_|refine SO.nil ?_|(refine SW.drawG ?_;simp only [gOps,gRc,gTail])|refine SO.a rfl ?_
 refine SO.storeAll rfl rfl rfl d1 rfl hx (fun h3 k3 hk3=>?_)
 have e4:hb h3 n=some (.cell [.int .i64 e] 136 false):=by rw [hk3 n (by omega)];exact k2
 have e2:hb h3 (n0+1)=some (.cell [.int .i64 i0] 3 false):=by rw [hk3 (n0+1) (by omega)];exact d2
 refine SO.more (Still.loadV (c:=⟨none,none,[],.mov⟩) rfl rfl rfl e4 rfl Still.nil) ?_
 simp only [gOps,gRc,gTail]
 refine SO.put1 rfl rfl rfl e2 rfl (by simp) (by simp) (fun h4 k4 hk4=>?_)
 have f4:hb h4 n=some (.cell [.int .i64 e] 136 false):=by rw [hk4 n (by omega)];exact e4
 have f3:hb h4 (n0+2)=some (.cell [.int .i64 e0] 24 false):=by rw [hk4 (n0+2) (by omega),hk3 (n0+2) (by omega)];exact d3
 refine SO.more (Still.loadV (c:=⟨none,none,[],.mov⟩) rfl rfl rfl f4 rfl Still.nil) ?_
 simp only [gOps,gRc,gTail]
 refine SO.put1 rfl rfl rfl f3 rfl (by simp) (by simp) (fun h5 k5 hk5=>?_)
 repeat' refine SO.nilD ?_
 refine (SW.retG code59 ?_).2
 refine Wp.unwRet (.inr ⟨_,rfl⟩) ht hcode ?_
 have g1:hb h5 n0=some (.cell [.bool false,strOf [],.nils] 56 false):=by rw [hk5 n0 (by omega),hk4 n0 (by omega)];exact k3
 have g2:hb h5 (n0+1)=some (.cell [.int .i64 0] 3 false):=by rw [hk5 (n0+1) (by omega)];exact k4
 refine⟨n0,0,_,q2,.inl ⟨_,_,g1⟩,by simp,n0+1,0,_,_,q3,.inl ⟨_,_,g2⟩,rfl,n0+2,0,_,_,q4,.inl ⟨_,_,k5⟩,rfl,?_⟩
 exact hw h5 fun b hb0=>by rw [hk5 b (by omega),hk4 b (by omega),hk3 b (by omega),hk2 b (by omega),hE1.same b (by omega)]
theorem done59 {Q:Post} {h:Hp} {n n0:Nat} {cs:List AF} {t:Tr} {R:List (Path × AV)} {x0:List AV} {i0 e0:Int} {bd:CC} (hx:x0.length=3) (hn:n0+2 < n) (ht:RegIs t R) (q2:look R r2=some (.ptr n0 0)) (q3:look R r3=some (.ptr (n0+1) 0)) (q4:look R r4=some (.ptr (n0+2) 0))
  (c1:hb h n0=some (.cell x0 56 false)) (c2:hb h (n0+1)=some (.cell [.int .i64 i0] 3 false)) (c3:hb h (n0+2)=some (.cell [.int .i64 e0] 24 false)) (hcode:E.func 29=some ⟨firstPaths 1,[.cellA 3 r2,.cellC r3,.cellC r4],bd⟩)
  (hw:∀ h',(∀ b,b < n->hb h' b=hb h b)->Wp E Q (.give (.tup [.agg x0,.int .i64 i0,.int .i64 e0]) cs) h' (n+1)) :
  Wp E Q (.run (.mk 59 (setAll (firstPaths 3) [.ptr n0 0,.ptr (n0+1) 0,.ptr (n0+2) 0] .nil) [.code c59] [] none) (.mk 29 t [.inUnw .ret] [] none::cs)) h n:=by
 refine SW.run (fn:=59) (R:=[(r0,.ptr n0 0),(r1,.ptr (n0+1) 0),(r2,.ptr (n0+2) 0)]) ?_ _ (RegIs.first (m:=3) (by decide) rfl)
 repeat' first|refine SW.a rfl ?_|refine SW.reg ?_
 refine SO.recoverN rfl rfl ?_
 repeat' first|refine SO.assertN rfl rfl rfl ?_|refine SO.alloc rfl rfl (fun h1 k1 hE1=>?_)|refine SW.a rfl ?_|refine SW.reg ?_|refine SO.nil ?_|refine SO.a rfl ?_
 refine SO.storeAll rfl rfl rfl k1 rfl rfl (fun h2 k2 hk2=>?_)
 repeat' first|refine SO.nilNil rfl rfl rfl rfl ?_|refine SW.a rfl ?_|refine SW.reg ?_|refine SO.nil ?_|refine SO.a rfl ?_
 refine (SW.retG code59 ?_).2
 refine Wp.unwRet (.inl rfl) ht hcode ?_
 have hag:∀ b,b < n->hb h2 b=hb h b:=fun b hb0=>by rw [hk2 b (by omega),hE1.same b hb0]
 refine⟨n0,0,x0,q2,.inl ⟨_,_,by rw [hag n0 (by omega)];exact c1⟩,by omega,n0+1,0,_,_,q3,.inl ⟨_,_,by rw [hag (n0+1) (by omega)];exact c2⟩,rfl,n0+2,0,_,_,q4,.inl ⟨_,_,by rw [hag (n0+2) (by omega)];exact c3⟩,rfl,?_⟩
 have:(x0.drop 0).take 3=x0:=by rw [List.drop_zero,<- hx,List.take_length]
 rw [this]
 exact hw h2 hag
theorem read29 {h:Hp} {n:Nat} (s:List UInt8) (hl:s.length<=100000) :
  Fn E 29 [strOf s] h n fun r h' n'=>Gr h n h' n'/\((∃ (x:XR) (rest:List UInt8) (left:Nat),readS 12 s 20000=.ok x.sx rest left/\r=.tup [.agg (xC x),.int .i64 ((s.length - rest.length:Nat):Int),.int .i64 0]/\Stand n n' h' (fun g m=>XOk g m x)) \/
   ∃ e,readS 12 s 20000=.err e/\r=.tup [.agg [.bool false,strOf [],.nils],.int .i64 0,.int .i64 e]):=by
 refine Fn.of code29 (by decide) rfl fun Q cs hq=>?_
 show SW E Q 29 [(r0,strOf s)] _ _ _ _
 refine SW.seq ?_
 refine SW.reg ?_
 refine SO.alloc rfl rfl (fun h1 c1 hE1=>?_)
 refine SO.alloc rfl rfl (fun h2 c2 hE2=>?_)
 refine SO.alloc rfl rfl (fun h3 c3 hE3=>?_)
 have hE123:Gr h n h3 (n+3):=(hE1.trans hE2).trans hE3
 have a1:hb h3 n=some (.cell [.bool false,strOf [],.nils] 56 false):=by rw [hE3.same n (by omega),hE2.same n (by omega)];exact c1
 have a2:hb h3 (n+1)=some (.cell [.int .i64 0] 3 false):=by rw [hE3.same (n+1) (by omega)];exact c2
 repeat' first|refine SO.mkFnA rfl rfl rfl (fun K=>rfl) ?_|refine SW.a rfl ?_|refine SW.reg ?_|refine SO.nil ?_
 refine SO.defer (g2:=59) (a:=[]) (b:=[.ptr n 0,.ptr (n+1) 0,.ptr (n+2) 0]) rfl rfl ?_
 repeat' first|refine SO.build rfl rfl rfl (fun K=>rfl) ?_|refine SO.box rfl rfl rfl (by simp) (fun h4 c4 hE4=>?_)|refine SW.a rfl ?_|refine SW.reg ?_|refine SO.nil ?_|refine SO.a rfl ?_
 have b1:hb h4 n=some (.cell [.bool false,strOf [],.nils] 56 false):=by rw [hE4.same n (by omega)];exact a1
 have b2:hb h4 (n+1)=some (.cell [.int .i64 0] 3 false):=by rw [hE4.same (n+1) (by omega)];exact a2
 have b3:hb h4 (n+2)=some (.cell [.int .i64 0] 24 false):=by rw [hE4.same (n+2) (by omega)];exact c3
 have c4':hb h4 (n+3)=some (.cell (rdC s 0 0) 140 false):=c4
 have hfn:=sexp60 12 1 (by omega) (n:=n+4) c4' (by omega) hl (Nat.zero_le _) (by omega)
 rw [List.drop_zero] at hfn
 refine SO.callD rfl rfl rfl hfn code59 rfl ?_ ?_
 case refine_2 =>
  rintro t _ h5 n5 ht ⟨e,he,rfl,hB⟩
  have hB':=hB.2
  have ln:=hB.1
  refine back59 (n0:=n) (x0:=[.bool false,strOf [],.nils]) (i0:=0) (e0:=0) rfl (by omega) ht rfl rfl rfl ?_ ?_ ?_ code29 fun h6 hk6=>hq _ _ _ ⟨⟨by omega,fun b hb0=>?_⟩,.inr ⟨e,he,rfl⟩⟩
  ·rw [hB' n (by omega) (by omega)];exact b1
  ·rw [hB' (n+1) (by omega) (by omega)];exact b2
  ·rw [hB' (n+2) (by omega) (by omega)];exact b3
  ·rw [hk6 b hb0,hB' b (by omega) (by omega),hE4.same b (by omega)];exact hE123.same b hb0
 rintro _ h5 n5 ⟨x,rest,left,he,rfl,hst,e4,hB⟩
 have hB':=hB.2
 have ln:=hB.1
 have d1:hb h5 n=some (.cell [.bool false,strOf [],.nils] 56 false):=by rw [hB' n (by omega) (by omega)];exact b1
 have d2:hb h5 (n+1)=some (.cell [.int .i64 0] 3 false):=by rw [hB' (n+1) (by omega) (by omega)];exact b2
 have d3:hb h5 (n+2)=some (.cell [.int .i64 0] 24 false):=by rw [hB' (n+2) (by omega) (by omega)];exact b3
 refine SO.storeAll rfl rfl rfl d1 (xC_length x) rfl (fun h6 c6 hk6=>?_)
 have e4':hb h6 (n+3)=some (.cell (rdC s (s.length - rest.length) (20000 - left)) 140 false):=by rw [hk6 (n+3) (by omega)];exact e4
 repeat' first|refine SO.loadVA rfl rfl rfl c6 (xC_length x) ?_|refine SO.loadV rfl rfl rfl e4' rfl ?_|refine SW.a rfl ?_|refine SO.nil ?_|(refine SW.drawG ?_;simp only [gOps,gRc,gTail])|refine SO.a rfl ?_
 refine SO.storeAll rfl rfl rfl c6 (xC_length x) (xC_length x) (fun h7 c7 hk7=>?_)
 have e5:hb h7 (n+3)=some (.cell (rdC s (s.length - rest.length) (20000 - left)) 140 false):=by rw [hk7 (n+3) (by omega)];exact e4'
 refine SO.more (Still.loadV (c:=⟨none,none,[],.mov⟩) rfl rfl rfl e5 rfl Still.nil) ?_
 simp only [gOps,gRc,gTail]
 have d2':hb h7 (n+1)=some (.cell [.int .i64 0] 3 false):=by rw [hk7 (n+1) (by omega),hk6 (n+1) (by omega)];exact d2
 refine SO.put1 rfl rfl rfl d2' rfl (by simp) (by simp) (fun h8 c8 hk8=>?_)
 have d3':hb h8 (n+2)=some (.cell [.int .i64 0] 24 false):=by rw [hk8 (n+2) (by omega),hk7 (n+2) (by omega),hk6 (n+2) (by omega)];exact d3
 refine SO.put1 rfl rfl rfl d3' rfl (by simp) (by simp) (fun h9 c9 hk9=>?_)
 repeat' refine SO.nilD ?_
 refine SW.retC code59 rfl fun t ht=>?_
 have k1:hb h9 n=some (.cell (xC x) 56 false):=by rw [hk9 n (by omega),hk8 n (by omega)];exact c7
 have k2:hb h9 (n+1)=some (.cell [.int .i64 ((s.length - rest.length:Nat):Int)] 3 false):=by rw [hk9 (n+1) (by omega)];exact c8
 have hag:∀ b,b < n5->b≠n->b≠n+1->b≠n+2->hb h9 b=hb h5 b:=fun b _ g1 g2 g3=>by rw [hk9 b g3,hk8 b g2,hk7 b g1,hk6 b g1]
 refine done59 (n0:=n) (xC_length x) (by omega) ht rfl rfl rfl k1 k2 c9 code29 fun h10 hk10=>hq _ _ _ ⟨⟨by omega,fun b hb0=>?_⟩,.inl ⟨x,rest,left,he,rfl,?_⟩⟩
 ·rw [hk10 b (by omega),hag b (by omega) (by omega) (by omega) (by omega),hB' b (by omega) (by omega),hE4.same b (by omega)];exact hE123.same b hb0
 ·exact (hst.keep fun b g1 g2=>by rw [hk10 b (by omega),hag b g2 (by omega) (by omega) (by omega)]).wide (by omega) (by omega)
end Go.Ev
