/- Contracts: strings.HasSuffix; lines.each, Split, IsText; primpatch.content, element. -/
import Derived.Test.YtognadjclbihgaaGreatDoorE6
import Derived.Test.YtognadjclbihgaaGreatDoorFF
import Derived.Test.YtognadjclbihgaaGreatDoorE7
set_option linter.all false
namespace Go.Ev
set_option maxRecDepth 100000
set_option maxHeartbeats 8000000
theorem drop_last {bs:List UInt8} (hb:bs≠[]):bs.drop (bs.length - 1)=[10] ↔ bs.getLast?=some 10:=by
 have hpos:0 < bs.length:=List.length_pos_iff.2 hb
 have h1:bs.getLast?=some (bs[bs.length - 1]'(by omega)):=by rw [List.getLast?_eq_getElem?,List.getElem?_eq_getElem (by omega)]
 have h2:bs.drop (bs.length - 1)=[bs[bs.length - 1]'(by omega)]:=by
  rw [List.drop_eq_getElem_cons (by omega),List.drop_eq_nil_of_le (by omega)]
 rw [h1,h2]
 simp
theorem hasSuffix283 {h:Hp} {n:Nat} (bs:List UInt8) (hb:bs≠[]) (hl:bs.length<=4000000000000000000):Fn E 311 [strOf bs,strOf [10]] h n fun r h' n'=>r=.bool (bs.getLast? == some 10)/\h'=h/\n'=n:=by
 refine Fn.of code311 (by decide) rfl fun Q cs hq=>?_
 show SW E Q 311 [(r0,strOf bs),(r1,strOf [10])] _ _ _ _
 have hlen:([10]:List UInt8).length=1:=rfl
 have hpos:0 < bs.length:=List.length_pos_iff.2 hb
 repeat' first|refine SO.sliceTFa (bs.length - 1) rfl rfl rfl rfl (by omega) (by omega) ?_|refine SO.strEq rfl rfl rfl rfl (fun he=>?_) (fun hne=>?_)|refine SW.a rfl ?_|refine SW.reg ?_|refine SO.nil ?_|refine SO.a rfl ?_|refine SO.cT rfl (by omega) ?_|refine SO.sub rfl rfl rfl rfl (by omega) ?_|fail
 ·refine SW.ret code311 ⟨_,rfl,hq _ _ _ ⟨?_,rfl,rfl⟩⟩
  rw [(drop_last hb).1 he];rfl
 ·refine SW.ret code311 ⟨_,rfl,hq _ _ _ ⟨?_,rfl,rfl⟩⟩
  have:(bs.getLast? == some 10)=false:=by simpa using fun e=>hne ((drop_last hb).2 e)
  rw [this];rfl
theorem hasSuffix199 {h:Hp} {n:Nat} (bs:List UInt8) (hb:bs≠[]) (hl:bs.length<=4000000000000000000):Fn E 221 [strOf bs,strOf [10]] h n fun r h' n'=>r=.bool (bs.getLast? == some 10)/\h'=h/\n'=n:=by
 refine Fn.of code221 (by decide) rfl fun Q cs hq=>?_
 show SW E Q 221 [(r0,strOf bs),(r1,strOf [10])] _ _ _ _
 repeat' first|refine SW.a rfl ?_|refine SW.reg ?_|refine SO.nil ?_|refine SO.a rfl ?_
 refine SO.callG rfl rfl rfl (hasSuffix283 bs hb hl) ?_
 rintro _ h' n' ⟨rfl,rfl,rfl⟩
 repeat' first|refine SO.nil ?_|refine SO.a rfl ?_
 exact SW.ret code221 ⟨_,rfl,hq _ _ _ ⟨rfl,rfl,rfl⟩⟩
theorem each200 {h:Hp} {n:Nat} (bs:List UInt8):Fn E 222 [strOf bs] h n fun r h' n'=>r=.fn 312 [] [.ptr n 0]/\hb h' n=some (.cell [strOf bs] 9 false)/\Gr h n h' (n+1)/\n'=n+1:=by
 refine Fn.of code222 (by decide) rfl fun Q cs hq=>?_
 show SW E Q 222 [(r0,strOf bs)] _ _ _ _
 repeat' first|refine SO.box rfl rfl rfl (by simp [strOf_eq]) (fun h1 hc hE=>?_)|refine SO.val (oc:=.mkFn 312 0) (v:=.fn 312 [] [.ptr n 0]) rfl rfl (one1 rfl) (fun K=>rfl) ?_|refine SW.a rfl ?_|refine SW.reg ?_|refine SO.nil ?_|refine SO.a rfl ?_
 exact SW.ret code222 ⟨_,rfl,hq _ _ _ ⟨rfl,hc,hE,rfl⟩⟩
theorem parts_some:∀ {bs:List UInt8} {p:Nat} (cur:List UInt8),posOf 10 bs=some p->partsGo cur bs=(cur++bs.take p)::partsGo [] (bs.drop (p+1))
 | [],p,cur,h=>by simp [posOf] at h
 | x::xs,p,cur,h=>by
  simp only [posOf] at h
  split at h
  ·rename_i he
   simp at h;subst h
   simp [partsGo,he]
  ·rename_i hne
   simp only [Option.map_eq_some_iff] at h
   obtain⟨q,hq,rfl⟩:=h
   have ih:=parts_some (cur++[x]) hq
   simp only [partsGo,if_neg hne,ih,List.take_succ_cons,List.drop_succ_cons]
   simp
theorem parts_none:∀ {bs:List UInt8} (cur:List UInt8),posOf 10 bs=none->partsGo cur bs=[]
 | [],cur,_=>by simp [partsGo]
 | x::xs,cur,h=>by
  simp only [posOf] at h
  split at h
  ·simp at h
  ·rename_i hne
   simp only [Option.map_eq_none_iff] at h
   have ih:=parts_none (cur++[x]) h
   simp only [partsGo,if_neg hne,ih]
def longAny (ds:List (List UInt8)):Bool:=ds.any fun p=>decide (1000 < p.length)
abbrev body121:CC:=.block 1 (.seq (.reg c138x9) (.reg c138x10))
structure Lin (h0:Hp) (n:Nat) (t:Tr) (g:Hp) (m:Nat) (u:AV) (fo:Option Nat) (ds:List (List UInt8)) (rest:List UInt8):Prop where
 le:n+5<=m
 out:hb g n=some (.cell [u] 114 false)
 long:hb g (n+1)=some (.cell [.bool (longAny ds)] 4 false)
 s:hb g (n+2)=some (.cell [strOf rest] 9 false)
 d:hb g (n+3)=some (.dfr true)
 l:hb g (n+4)=some (.loop .ready none 138 t [r24] (.reg c138x8) body121 (n+3))
 own:Own g (n+5) m 1 9 u fo (ds.flatMap strC)
 low:∀ b,b < n->hb g b=hb h0 b
theorem longAny_snoc (ds:List (List UInt8)) (p:List UInt8):longAny (ds++[p])=(longAny ds||decide (1000 < p.length)):=by simp [longAny]
theorem lines121 {h:Hp} {n:Nat} (bs:List UInt8) (hl:bs.length<=4000000000000000000):Fn E 138 [strOf bs] h n fun r h' n'=>(∃ v e,r=.tup [v,.int .i64 e]/\(e=0 ↔ textOk bs=true))/\Gr h n h' n':=by
 refine Fn.of code138 (by decide) rfl fun Q cs hq=>?_
 show SW E Q 138 [(r0,strOf bs)] _ _ _ _
 have hret:∀ (v:AV) (e:Int) (h1:Hp) (n1:Nat) (R:List (Path × AV)) (todo:List AItem),(e=0 ↔ textOk bs=true)->Gr h n h1 n1->look R r2=some v->look R r3=some (.int .i64 e)->SW E Q 138 R (.code .ret::todo) cs h1 n1:=fun v e h1 n1 R todo he hE h2 h3=>SW.ret code138 ⟨v,h2,_,h3,hq _ _ _ ⟨⟨v,e,rfl,he⟩,hE⟩⟩
 by_cases hlen:bs.length<=65536
 case neg =>
  repeat' first|refine SW.a rfl ?_|refine SW.reg ?_|refine SO.nil ?_|refine SO.a rfl ?_|refine SO.cT rfl (by omega) ?_|fail
  exact hret _ 4 _ _ _ _ (by simp [textOk,hlen]) (Gr.refl _ _) rfl rfl
 repeat' first|refine SW.a rfl ?_|refine SW.reg ?_|refine SO.nil ?_|refine SO.a rfl ?_|refine SO.cF rfl (by omega) ?_|fail
 refine SO.callG rfl rfl rfl (indexByte198 bs 0) ?_
 rintro _ h' n' ⟨rfl,rfl,rfl⟩
 cases hz:posOf 0 bs with
 | some p =>
  rw [show posI (some p)=(p:Int) from rfl]
  repeat' first|refine SW.a rfl ?_|refine SW.reg ?_|refine SO.nil ?_|refine SO.a rfl ?_|refine SO.cT rfl (by omega) ?_|fail
  refine hret _ 3 _ _ _ _ ?_ (Gr.refl _ _) rfl rfl
  have hp:=posOf_lt hz
  have:bs.all (fun c=>c != 0)=false:=by
   cases ha:bs.all (fun c=>c != 0) with
   | false=>rfl
   | true =>
    have:posOf 0 bs=none:=posOf_no fun x hx=>by simpa using List.all_eq_true.1 ha x hx
    rw [this] at hz;simp at hz
  simp [textOk,this]
 | none =>
  rw [show posI none=-1 from rfl]
  have hz':bs.all (fun c=>c != 0)=true:=List.all_eq_true.2 fun x hx=>by simpa using posOf_none hz x hx
  have hrest:(bs == []||bs.getLast? == some 10)=true->∀ R,look R r0=some (strOf bs)->SO E Q 138 .ops R c138x5 [.code (.seq (.reg c138x6) (.seq (.seq (.reg c138x7) (.block 0 (.rangeFunc (.r r23) [r24] (.reg c138x8) body121))) (.seq (.seq (.reg c138x11) (.cond (.r r40) (.seq (.reg c138x12) .ret) .skip)) (.seq (.reg c138x13) .ret))))] cs h' n':=by
   intro hend R q0
   refine SO.forget (R':=[(r0,strOf bs)]) (by simp [q0]) ?_
   have htx:textOk bs=(decide ((partsOf bs).length<=2000)&&(partsOf bs).all fun p=>decide (p.length<=1000)):=by
    unfold textOk
    rw [hz',hend,decide_eq_true hlen]
    simp only [Bool.true_and]
   have hpl:(partsOf bs).length<=bs.length:=partsGo_length bs []
   repeat' first|refine SO.alloc rfl rfl (fun h1 hc1 hE1=>?_)|refine SW.a rfl ?_|refine SW.reg ?_|refine SO.nil ?_
   refine SO.store1 rfl rfl rfl (by assumption) rfl (by simp) (by simp) (fun h3 hc3 hk3=>?_)
   rename_i g1 k1 e1
   have hG3:Gr h' n' h3 (n'+2):=⟨by omega,fun b hb0=>by rw [hk3 b (by omega),hE1.same b (by omega),e1.same b hb0]⟩
   have a4:hb h3 n'=some (.cell [.nils] 114 false):=by rw [hk3 n' (by omega),hE1.same n' (by omega)];exact k1
   repeat' first|refine SW.a rfl ?_|refine SW.reg ?_|refine SO.nil ?_|refine SO.a rfl ?_
   refine SO.callG rfl rfl rfl (each200 bs) ?_
   rintro _ h4 n4 ⟨rfl,hc4,hE4,rfl⟩
   repeat' first|refine SW.a rfl ?_|refine SO.nil ?_
   have b4:hb h4 n'=some (.cell [.nils] 114 false):=by rw [hE4.same n' (by omega)];exact a4
   have b5:hb h4 (n'+1)=some (.cell [.bool false] 4 false):=by rw [hE4.same (n'+1) (by omega)];exact hc3
   have hG4:Gr h' n' h4 (n'+3):=hG3.trans hE4
   refine SW.sub (R':=[(r4,.ptr n' 0),(r5,.ptr (n'+1) 0),(r23,.fn 312 [] [.ptr (n'+2) 0])]) (by simp [look];exact⟨rfl,rfl,rfl⟩) ?_
   refine SW.rangeF rfl code312 rfl fun t ht h5 hd5 hl5 hE5=>?_
   have hG5:Gr h' n' h5 (n'+5):=hG4.trans hE5
   have after:∀ (g:Hp) (m:Nat) (u:AV) (fo:Option Nat) (rest:List UInt8),Lin h' n' t g m u fo (partsOf bs) rest->Wp E Q (.give (.tup []) (.mk 138 t (.inRF (n'+4)::[.inBlock 0,.code (.seq (.seq (.reg c138x11) (.cond (.r r40) (.seq (.reg c138x12) .ret) .skip)) (.seq (.reg c138x13) .ret))]) [.mark (n'+3)] none::cs)) g m:=by
    intro g m u fo rest hL
    have hle:=hL.le
    refine Wp.afterRF ht hL.l fun g1 hk1=>?_
    have c4:hb g1 n'=some (.cell [u] 114 false):=by rw [hk1 n' (by omega)];exact hL.out
    have c5:hb g1 (n'+1)=some (.cell [.bool (longAny (partsOf bs))] 4 false):=by rw [hk1 (n'+1) (by omega)];exact hL.long
    have cd:hb g1 (n'+3)=some (.dfr true):=by rw [hk1 (n'+3) (by omega)];exact hL.d
    have hsu:Sl g1 m 1 u (partsOf bs).length ((partsOf bs).flatMap strC):=(hL.own.keep (Nat.le_refl _) fun b hb1 _=>hk1 b (by omega)).sl (by rw [flatMap_length (esz:=1) (fun _=>rfl)]) (by decide)
    have hlast:∀ (v:AV) (e:Int) (R:List (Path × AV)) (todo:List AItem),(e=0 ↔ textOk bs=true)->look R r2=some v->look R r3=some (.int .i64 e)->SW E Q ⟨138,[.mark (n'+3)],none⟩ R (.code .ret::todo) cs g1 m:=fun v e R todo he q2 q3=>SW.retD code138 cd fun g2 hk2=>⟨v,q2,_,q3,hq _ _ _ ⟨⟨v,e,rfl,he⟩,⟨by omega,fun b hb0=>by rw [hk2 b (by omega),hk1 b (by omega)];exact hL.low b hb0⟩⟩⟩
    have hlong:(partsOf bs).all (fun p=>decide (p.length<=1000))=!longAny (partsOf bs):=by
     rw [longAny,List.not_any_eq_all_not]
     congr 1
     funext p
     by_cases h1:p.length<=1000
     ·simp [h1];try omega
     ·simp [h1];try omega
    rw [hlong] at htx
    cases hla:longAny (partsOf bs) with
    | true =>
     rw [hla] at c5 htx
     repeat' first|refine SO.loadV rfl rfl rfl c5 rfl ?_|refine SW.a rfl ?_|refine SW.reg ?_|refine SO.nil ?_|refine SO.a rfl ?_
     exact hlast _ 4 _ _ (by simp [htx]) rfl rfl
    | false =>
     rw [hla] at c5 htx
     by_cases hcnt:(partsOf bs).length<=2000
     ·repeat' first|refine SO.loadV rfl rfl rfl c5 rfl ?_|refine SO.loadV rfl rfl rfl c4 rfl ?_|refine SW.a rfl ?_|refine SW.reg ?_|refine SO.nil ?_|refine SO.a rfl ?_|refine SO.lenSl rfl rfl rfl (by assumption) ?_|refine SO.cF rfl (by omega) ?_|fail
      exact hlast _ 0 _ _ (by simp [htx,hcnt]) rfl rfl
     ·repeat' first|refine SO.loadV rfl rfl rfl c5 rfl ?_|refine SO.loadV rfl rfl rfl c4 rfl ?_|refine SW.a rfl ?_|refine SW.reg ?_|refine SO.nil ?_|refine SO.a rfl ?_|refine SO.lenSl rfl rfl rfl (by assumption) ?_|refine SO.cT rfl (by omega) ?_|fail
      exact hlast _ 4 _ _ (by simp [htx,hcnt]) rfl rfl
   have loop:∀ (k:Nat) (rest:List UInt8) (ds:List (List UInt8)) (g:Hp) (m:Nat) (u:AV) (fo:Option Nat),rest.length<=k->ds.length+rest.length<=bs.length->partsOf bs=ds++partsGo [] rest->Lin h' n' t g m u fo ds rest ->
     ∀ R,look R r0=some (.yld (n'+4))->look R r1=some (.ptr (n'+2) 0)->SW E Q 312 R [.code c312x3,.inLoop c312x3,.inBlock 0] (.mk 138 t (.inRF (n'+4)::[.inBlock 0,.code (.seq (.seq (.reg c138x11) (.cond (.r r40) (.seq (.reg c138x12) .ret) .skip)) (.seq (.reg c138x13) .ret))]) [.mark (n'+3)] none::cs) g m:=by
    intro k
    induction k with
    | zero =>
     intro rest ds g m u fo hk hdl hp hL R q0 q1
     obtain rfl:rest=[]:=List.length_eq_zero_iff.1 (by omega)
     have hs:=hL.s
     refine SW.sub (R':=[(r0,.yld (n'+4)),(r1,.ptr (n'+2) 0)]) (by simp [q0,q1]) ?_
     repeat' first|refine SO.loadV rfl rfl rfl hs rfl ?_|refine SW.a rfl ?_|refine SW.reg ?_
     refine SO.callG rfl rfl rfl (indexByte198 [] 10) ?_
     rintro _ g' m' ⟨rfl,rfl,rfl⟩
     rw [show posI (posOf 10 [])=-1 from rfl]
     repeat' first|refine SW.a rfl ?_|refine SW.reg ?_|refine SO.nil ?_|refine SO.a rfl ?_|refine SO.cT rfl (by omega) ?_|fail
     simp only [partsGo,List.append_nil] at hp
     rw [<- hp] at hL
     exact SW.ret code312 (after _ _ _ _ _ hL)
    | succ k ih =>
     intro rest ds g m u fo hk hdl hp hL R q0 q1
     have hs:=hL.s
     have hle:=hL.le
     refine SW.sub (R':=[(r0,.yld (n'+4)),(r1,.ptr (n'+2) 0)]) (by simp [q0,q1]) ?_
     repeat' first|refine SO.loadV rfl rfl rfl hs rfl ?_|refine SW.a rfl ?_|refine SW.reg ?_
     refine SO.callG rfl rfl rfl (indexByte198 rest 10) ?_
     rintro _ g' m' ⟨rfl,rfl,rfl⟩
     cases hpo:posOf 10 rest with
     | none =>
      rw [show posI none=-1 from rfl]
      repeat' first|refine SW.a rfl ?_|refine SW.reg ?_|refine SO.nil ?_|refine SO.a rfl ?_|refine SO.cT rfl (by omega) ?_|fail
      rw [parts_none [] hpo,List.append_nil] at hp
      rw [<- hp] at hL
      exact SW.ret code312 (after _ _ _ _ _ hL)
     | some p =>
      have hplt:=posOf_lt hpo
      rw [show posI (some p)=(p:Int) from rfl]
      rw [parts_some [] hpo,List.nil_append] at hp
      repeat' first|refine SO.loadV rfl rfl rfl hs rfl ?_|refine SO.sliceFTa p rfl rfl rfl rfl rfl (by omega) ?_|refine SW.a rfl ?_|refine SW.reg ?_|refine SO.nil ?_|refine SO.a rfl ?_|refine SO.cF rfl (by omega) ?_|fail
      refine SO.yield (P:=fun g1 m1=>∃ u1 fo1,Lin h' n' t g1 m1 u1 fo1 (ds++[rest.take p]) rest) rfl rfl rfl hL.l ht rfl ?_ ?_
      ·intro Q' cs' hun hq'
       repeat' first|refine SW.reg ?_|refine SO.nil ?_|refine SO.a rfl ?_
       refine SW.beginRound hL.l fun g1 hl1 hk1=>?_
       have c5:hb g1 (n'+1)=some (.cell [.bool (longAny ds)] 4 false):=by rw [hk1 (n'+1) (by omega)];exact hL.long
       have c4:hb g1 n'=some (.cell [u] 114 false):=by rw [hk1 n' (by omega)];exact hL.out
       have ho1:Own g1 (n'+5) m' 1 9 u fo (ds.flatMap strC):=hL.own.keep (Nat.le_refl _) fun b hb1 _=>hk1 b (by omega)
       have hlong:∃ w:Bool,w=longAny (ds++[rest.take p])/\(longAny ds=true->w=true)/\(longAny ds=false->w=decide (1000 <(rest.take p).length)):=⟨_,rfl,fun h1=>by rw [longAny_snoc,h1];rfl,fun h1=>by rw [longAny_snoc,h1];rfl⟩
       have second:∀ g2 R,hb g2 (n'+1)=some (.cell [.bool (longAny (ds++[rest.take p]))] 4 false)->(∀ b,b≠n'+1->hb g2 b=hb g1 b)->look R r4=some (.ptr n' 0)->look R r6=some (strOf (rest.take p))->SO E Q' ⟨138,[],some (n'+4)⟩ .ops R c138x10 [.inBlock 1] cs' g2 m':=by
        intro g2 R d5 hk2 q4 q6
        refine SO.forget (R':=[(r4,.ptr n' 0),(r6,strOf (rest.take p))]) (by simp [q4,q6]) ?_
        have d4:hb g2 n'=some (.cell [u] 114 false):=by rw [hk2 n' (by omega)];exact c4
        have ho2:Own g2 (n'+5) m' 1 9 u fo (ds.flatMap strC):=ho1.keep (Nat.le_refl _) fun b hb1 _=>hk2 b (by omega)
        repeat' first|refine SO.loadV rfl rfl rfl d4 rfl ?_|refine SO.bslice rfl rfl rfl (fun k=>rfl) (fun g3 hc3 hE3=>?_)|refine SO.a rfl ?_
        have ho3:Own g3 (n'+5) (m'+1) 1 9 u fo (ds.flatMap strC):=ho2.keep (by omega) fun b _ hb0=>hE3.same b hb0
        have hx:Sl g3 (m'+1) 1 (.slc m' 0 1 1) 1 (strC (rest.take p)):=⟨rfl,.inr ⟨m',0,1,strC (rest.take p),.inl ⟨rfl,Nat.le_refl _⟩,⟨by omega,.inl ⟨_,_,hc3⟩⟩,by simp,rfl⟩⟩
        refine SO.append rfl rfl rfl rfl (by decide) (by decide) ho3 (by omega) hx (by rw [flatMap_length (esz:=1) (fun _=>rfl)];simp;omega) fun v' fo' g4 m4 ho4 hn4 hk4 hf4=>?_
        have hfo:∀ b,b < n'+5->fo≠some b:=fun b hb0 e=>by have:=own_ge8 hL.own e;omega
        have e4:hb g4 n'=some (.cell [u] 114 false):=by rw [hk4 n' (by omega) (hfo _ (by omega)),hE3.same n' (by omega)];exact d4
        refine SO.store1 rfl rfl rfl e4 (own_plain8 ho4).1 (own_plain8 ho4).2 (by simp) (fun g5 hc5 hk5=>?_)
        repeat' first|refine SW.a rfl ?_|refine SO.nil ?_
        have hsame:∀ b,b < n'+5->b≠n'->b≠n'+1->b≠n'+4->hb g5 b=hb g' b:=fun b h1 h2 h3 h4=>by rw [hk5 b h2,hk4 b (by omega) (hfo b h1),hE3.same b (by omega),hk2 b h3,hk1 b h4]
        have hl5:hb g5 (n'+4)=some (.loop .busy none 138 t [r24] (.reg c138x8) body121 (n'+3)):=by rw [hk5 (n'+4) (by omega),hk4 (n'+4) (by omega) (hfo _ (by omega)),hE3.same (n'+4) (by omega),hk2 (n'+4) (by omega)];exact hl1
        refine SW.roundEnd hun hl5 fun g6 hl6 hk6=>hq' _ _ ⟨v',fo',?_⟩
        refine⟨by omega,by rw [hk6 n' (by omega)];exact hc5,?_,by rw [hk6 (n'+2) (by omega),hsame (n'+2) (by omega) (by omega) (by omega) (by omega)];exact hL.s,by rw [hk6 (n'+3) (by omega),hsame (n'+3) (by omega) (by omega) (by omega) (by omega)];exact hL.d,hl6,?_,fun b hb0=>by rw [hk6 b (by omega),hsame b (by omega) (by omega) (by omega) (by omega)];exact hL.low b hb0⟩
        ·rw [hk6 (n'+1) (by omega),hk5 (n'+1) (by omega),hk4 (n'+1) (by omega) (hfo _ (by omega)),hE3.same (n'+1) (by omega)];exact d5
        ·rw [List.flatMap_append]
         have:=ho4.keep (h':=g6) (Nat.le_refl _) fun b hb1 _=>by rw [hk6 b (by omega),hk5 b (by omega)]
         simpa using this
       obtain⟨w,hw,w1,w2⟩:=hlong
       cases hla:longAny ds with
       | true =>
        rw [hla] at c5
        refine SW.block ?_
        refine SW.seq ?_
        refine SW.reg ?_
        repeat' first|refine SO.loadV rfl rfl rfl c5 rfl ?_|refine SO.store1 rfl rfl rfl c5 rfl (by simp) (by simp) (fun g2 hc2 hk2=>?_)|refine SW.reg ?_|refine SO.nil ?_|refine SO.a rfl ?_
        refine second _ _ ?_ (by assumption) rfl rfl
        rw [<- hw,w1 hla];assumption
       | false =>
        rw [hla] at c5
        by_cases hlp:1000 <(rest.take p).length
        ·refine SW.block ?_
         refine SW.seq ?_
         refine SW.reg ?_
         repeat' first|refine SO.loadV rfl rfl rfl c5 rfl ?_|refine SO.store1 rfl rfl rfl c5 rfl (by simp) (by simp) (fun g2 hc2 hk2=>?_)|refine SW.reg ?_|refine SO.nil ?_|refine SO.a rfl ?_|refine SO.cT rfl (by omega) ?_|fail
         refine second _ _ ?_ (by assumption) rfl rfl
         rw [<- hw,w2 hla,decide_eq_true hlp];assumption
        ·refine SW.block ?_
         refine SW.seq ?_
         refine SW.reg ?_
         repeat' first|refine SO.loadV rfl rfl rfl c5 rfl ?_|refine SO.store1 rfl rfl rfl c5 rfl (by simp) (by simp) (fun g2 hc2 hk2=>?_)|refine SW.reg ?_|refine SO.nil ?_|refine SO.a rfl ?_|refine SO.cF rfl (by omega) ?_|fail
         refine second _ _ ?_ (by assumption) rfl rfl
         rw [<- hw,w2 hla,decide_eq_false hlp];assumption
      ·rintro g1 m1 ⟨u1,fo1,hL1⟩
       have hs1:=hL1.s
       repeat' first|refine SO.loadV rfl rfl rfl hs1 rfl ?_|refine SO.sliceTFa (p+1) rfl rfl rfl rfl (by omega) (by omega) ?_|refine SW.a rfl ?_|refine SW.reg ?_|refine SO.nil ?_|refine SO.a rfl ?_|refine SO.add rfl rfl rfl rfl (by omega) ?_|fail
       refine SO.store1 rfl rfl rfl hs1 rfl (by simp [strOf_eq]) (by simp) (fun g2 hc2 hk2=>?_)
       repeat' first|refine SW.a rfl ?_|refine SO.nil ?_
       refine SW.again ?_
       refine ih (rest.drop (p+1)) (ds++[rest.take p]) g2 m1 u1 fo1 (by rw [List.length_drop];omega) (by rw [List.length_drop,List.length_append];simp;omega) (by rw [hp];simp) ?_ _ rfl rfl
       have l1:=hL1.le
       exact⟨l1,by rw [hk2 n' (by omega)];exact hL1.out,by rw [hk2 (n'+1) (by omega)];exact hL1.long,hc2,by rw [hk2 (n'+3) (by omega)];exact hL1.d,by rw [hk2 (n'+4) (by omega)];exact hL1.l,hL1.own.keep (Nat.le_refl _) fun b hb1 _=>hk2 b (by omega),fun b hb0=>by rw [hk2 b (by omega)];exact hL1.low b hb0⟩
   refine SW.run (fn:=312) (R:=[(r0,.yld (n'+4)),(r1,.ptr (n'+2) 0)]) ?_ _ (RegIs.first (m:=2) (by decide) rfl)
   refine SW.block ?_
   refine SW.loop ?_
   refine loop bs.length bs [] h5 (n'+5) .nils none (Nat.le_refl _) (by simp) (by simp [partsOf]) ?_ _ rfl rfl
   exact⟨Nat.le_refl _,by rw [hE5.same n' (by omega)];exact b4,by rw [hE5.same (n'+1) (by omega)];exact b5,by rw [hE5.same (n'+2) (by omega)];exact hc4,hd5,hl5,.inl ⟨rfl,rfl,rfl⟩,fun b hb0=>hG5.same b hb0⟩
  by_cases hnil:bs=[]
  ·repeat' first|refine SO.strNe rfl rfl rfl rfl (fun hne=>absurd hnil hne) (fun _=>?_)|refine SW.a rfl ?_|refine SW.reg ?_|refine SO.nil ?_|refine SO.a rfl ?_|refine SO.cF rfl (by omega) ?_|fail
   exact hrest (by simp [hnil]) _ rfl
  ·repeat' first|refine SO.strNe rfl rfl rfl rfl (fun _=>?_) (fun he=>absurd he hnil)|refine SO.a rfl ?_|refine SO.cF rfl (by omega) ?_|fail
   refine SO.callG rfl rfl rfl (hasSuffix199 bs hnil hl) ?_
   rintro _ h2 n2 ⟨rfl,rfl,rfl⟩
   cases hsf:bs.getLast? == some 10 with
   | true =>
    repeat' first|refine SW.a rfl ?_|refine SW.reg ?_|refine SO.nil ?_|refine SO.a rfl ?_
    exact hrest (by rw [hsf];simp) _ rfl
   | false =>
    repeat' first|refine SW.a rfl ?_|refine SW.reg ?_|refine SO.nil ?_|refine SO.a rfl ?_
    refine hret _ 3 _ _ _ _ ?_ (Gr.refl _ _) rfl rfl
    have hn1:(bs == [])=false:=by simpa using hnil
    have:textOk bs=false:=by unfold textOk;rw [hn1,hsf];simp
    simp [this]
theorem isText263 {h:Hp} {n:Nat} (bs:List UInt8) (hl:bs.length<=4000000000000000000):Fn E 287 [strOf bs] h n fun r h' n'=>r=.bool (textOk bs)/\Gr h n h' n':=by
 refine Fn.of code287 (by decide) rfl fun Q cs hq=>?_
 show SW E Q 287 [(r0,strOf bs)] _ _ _ _
 repeat' first|refine SW.a rfl ?_|refine SW.reg ?_|refine SO.nil ?_|refine SO.a rfl ?_
 refine SO.callG rfl rfl rfl (lines121 bs hl) ?_
 rintro _ h1 n1 ⟨⟨v,e,rfl,he⟩,hE⟩
 repeat' first|refine SW.a rfl ?_|refine SW.reg ?_|refine SO.nil ?_|refine SO.a rfl ?_|refine SO.eqi rfl rfl rfl rfl (fun _=>?_) (fun _=>?_)
 ·rename_i h0
  exact SW.ret code287 ⟨_,rfl,hq _ _ _ ⟨by rw [he.1 h0];rfl,hE⟩⟩
 ·rename_i h0
  have:textOk bs=false:=by cases ht:textOk bs;rfl;exact absurd (he.2 ht) h0
  exact SW.ret code287 ⟨_,rfl,hq _ _ _ ⟨by rw [this];rfl,hE⟩⟩
theorem content178 {h:Hp} {n:Nat} (kind:Int) (bs:List UInt8) (hl:bs.length<=4000000000000000000):Fn E 196 [.int .i64 kind,strOf bs] h n fun r h' n'=>r=.int .i64 (contentE kind bs)/\Gr h n h' n':=by
 refine Fn.of code196 (by decide) rfl fun Q cs hq=>?_
 show SW E Q 196 [(r0,.int .i64 kind),(r1,strOf bs)] _ _ _ _
 have hret:∀ (e:Int) (h1:Hp) (n1:Nat) (R:List (Path × AV)) (todo:List AItem),e=contentE kind bs->Gr h n h1 n1->look R r4=some (.int .i64 e)->SW E Q 196 R (.code .ret::todo) cs h1 n1:=fun e h1 n1 R todo he hE h4=>SW.ret code196 ⟨_,h4,hq _ _ _ ⟨by rw [he];rfl,hE⟩⟩
 by_cases hlen:65536 < bs.length
 ·repeat' first|refine SW.a rfl ?_|refine SW.reg ?_|refine SO.nil ?_|refine SO.a rfl ?_|refine SO.cT rfl (by omega) ?_|fail
  exact hret 4 _ _ _ _ (by simp [contentE,hlen]) (Gr.refl _ _) rfl
 by_cases hk:kind=1
 ·repeat' first|refine SW.a rfl ?_|refine SW.reg ?_|refine SO.nil ?_|refine SO.a rfl ?_|refine SO.cT rfl (by omega) ?_|refine SO.cF rfl (by omega) ?_|fail
  refine SO.callG rfl rfl rfl (isText263 bs hl) ?_
  rintro _ h1 n1 ⟨rfl,hE⟩
  cases ht:textOk bs with
  | true =>
   repeat' first|refine SW.a rfl ?_|refine SW.reg ?_|refine SO.nil ?_|refine SO.a rfl ?_
   exact hret 0 _ _ _ _ (by simp [contentE,hlen,ht]) hE rfl
  | false =>
   repeat' first|refine SW.a rfl ?_|refine SW.reg ?_|refine SO.nil ?_|refine SO.a rfl ?_
   exact hret 3 _ _ _ _ (by simp [contentE,hlen,hk,ht]) hE rfl
 ·repeat' first|refine SW.a rfl ?_|refine SW.reg ?_|refine SO.nil ?_|refine SO.a rfl ?_|refine SO.cF rfl (by omega) ?_|fail
  exact hret 0 _ _ _ _ (by simp [contentE,hlen,hk]) (Gr.refl _ _) rfl
theorem element100 {h:Hp} {n:Nat} (x:PF) (hl:x.path.length<=4000000000000000000) (hl':x.data.length<=4000000000000000000):Fn E 113 [.agg (pfC x)] h n fun r h' n'=>r=.int .i64 (fileE x)/\Gr h n h' n':=by
 refine Fn.of code113 (by decide) rfl fun Q cs hq=>?_
 show SW E Q 113 [(r0,.agg (pfC x))] _ _ _ _
 have hret:∀ (e:Int) (h1:Hp) (n1:Nat) (R:List (Path × AV)) (todo:List AItem),e=fileE x->Gr h n h1 n1->look R r2=some (.int .i64 e)->SW E Q 113 R (.code .ret::todo) cs h1 n1:=fun e h1 n1 R todo he hE h2=>SW.ret code113 ⟨_,h2,hq _ _ _ ⟨by rw [he];rfl,hE⟩⟩
 repeat' first|refine SO.box rfl rfl rfl (by simp) (fun h1 hc hE=>?_)|refine SO.loadV rfl rfl rfl (by assumption) rfl ?_|refine SW.a rfl ?_|refine SW.reg ?_|refine SO.nil ?_|refine SO.a rfl ?_
 refine SO.callG rfl rfl rfl (isPath176 x.path hl) ?_
 rintro _ h1' n1 ⟨rfl,hE1⟩
 have l1:=hE1.le
 have hc1:hb h1' n=some (.cell (pfC x) 68 false):=by rw [hE1.same n (by omega)];exact hc
 have hG:=hE.trans hE1
 cases hp:pathOk x.path with
 | false =>
  repeat' first|refine SW.a rfl ?_|refine SW.reg ?_|refine SO.nil ?_|refine SO.a rfl ?_
  exact hret 5 _ _ _ _ (by simp [fileE,hp]) hG rfl
 | true =>
  repeat' first|refine SO.loadV rfl rfl rfl hc1 rfl ?_|refine SW.a rfl ?_|refine SW.reg ?_|refine SO.nil ?_|refine SO.a rfl ?_|refine SO.lss rfl rfl rfl rfl (fun _=>?_) (fun _=>?_)|refine SO.gtr rfl rfl rfl rfl (fun _=>?_) (fun _=>?_)|refine SO.eqi rfl rfl rfl rfl (fun _=>?_) (fun _=>?_)|refine SO.nei rfl rfl rfl rfl (fun _=>?_) (fun _=>?_)|refine SO.strNe rfl rfl rfl rfl (fun _=>?_) (fun _=>?_)
  all_goals first
   |(refine hret _ _ _ _ _ ?_ hG rfl;simp only [fileE,hp];simp;omega)
   | skip
  ·rename_i h1' h2' h3' h4' h5' h6' h7'
   refine hret 1 _ _ _ _ ?_ hG rfl
   simp only [fileE,hp]
   simp [h5',h6',h7']
  all_goals
   refine SO.callG rfl rfl rfl (content178 x.type x.data hl') ?_
   rintro _ h2 n2 ⟨rfl,hE2⟩
   repeat' first|refine SO.nil ?_|refine SO.a rfl ?_
   refine hret _ _ _ _ _ ?_ (hG.trans hE2) rfl
  ·rename_i h1' h2' h3' h4' h5' h6' h7'
   simp only [fileE,hp]
   simp [h5',h6',h7']
  ·rename_i h1' h2' h3' h4' h5'
   simp only [fileE,hp]
   simp [h5']
   omega
set_option maxRecDepth 100000
set_option maxHeartbeats 8000000
theorem less_cons (a b:UInt8) (x y:List UInt8):lessB (a::x) (b::y)=(decide (a.toNat < b.toNat)||(decide (a.toNat=b.toNat)&&lessB x y)):=by
 have e1:decide (a < b)=decide (a.toNat < b.toNat):=by simp [UInt8.lt_iff_toNat_lt]
 have e2:(a == b)=decide (a.toNat=b.toNat):=by rw [Bool.eq_iff_iff];simp [UInt8.toNat_inj]
 show (decide (a < b)||(a == b&&Op.bytesLess x y))=_
 rw [e1,e2]
theorem less_irrefl:∀ x:List UInt8,lessB x x=false
 | []=>rfl
 | a::x=>by rw [less_cons,less_irrefl x];simp
theorem less_nil (x:List UInt8):lessB x []=false:=by cases x<;>rfl
theorem less_trans:∀ {x y z:List UInt8},lessB x y=true->lessB y z=true->lessB x z=true
 | x,[],z,h1,_=>by rw [less_nil] at h1;simp at h1
 | x,y,[],_,h2=>by rw [less_nil] at h2;simp at h2
 | [],b::y,c::z,_,_=>rfl
 | a::x,b::y,c::z,h1,h2=>by
  rw [less_cons] at h1 h2 ⊢
  simp only [Bool.or_eq_true,Bool.and_eq_true,decide_eq_true_eq] at h1 h2 ⊢
  rcases h1 with h1 |⟨h1,h1'⟩<;>rcases h2 with h2 |⟨h2,h2'⟩
  ·left;omega
  ·left;omega
  ·left;omega
  ·right;exact⟨by omega,less_trans h1' h2'⟩
theorem less_total:∀ x y:List UInt8,(lessB x y||x == y)=!lessB y x
 | [],[]=>rfl
 | [],b::y=>rfl
 | a::x,[]=>rfl
 | a::x,b::y=>by
  have ih:=less_total x y
  rw [less_cons,less_cons]
  by_cases h1:a.toNat < b.toNat
  ·have:¬ b.toNat < a.toNat:=by omega
   have:¬ b.toNat=a.toNat:=by omega
   simp [*]
  ·by_cases h2:a.toNat=b.toNat
   ·have h3:a=b:=UInt8.toNat_inj.1 h2
    subst h3
    have e:(a::x == a::y)=(x == y):=by rw [Bool.eq_iff_iff];simp
    rw [e]
    simp only [Nat.lt_irrefl,decide_false,Bool.false_or,decide_true,Bool.true_and]
    exact ih
   ·have h3:b.toNat < a.toNat:=by omega
    have h4:a≠b:=fun e=>h2 (by rw [e])
    have e:(a::x == b::y)=false:=by simp [h4]
    rw [e]
    simp [h1,h2,h3]
theorem paths_asc {fs:List PF}:∀ (i:Nat),i<=fs.length->(∀ j,j < i->treeAt fs j=0)->(fs.take i).Pairwise fun x y=>lessB x.path y.path=true
 | 0,_,_=>by simp
 | i+1,hi,hz=>by
  have hi':i < fs.length:=by omega
  have ih:=paths_asc i (by omega) fun j hj=>hz j (by omega)
  rw [List.take_succ_eq_append_getElem hi',List.pairwise_append]
  refine⟨ih,by simp,?_⟩
  intro x hx y hy
  simp at hy;subst hy
  cases i with
  | zero=>simp at hx
  | succ j =>
   have hj:j < fs.length:=by omega
   have h0:=hz (j+1) (by omega)
   have hord:lessB fs[j].path fs[j+1].path=true:=by
    simp only [treeAt,List.getElem?_eq_getElem hi'] at h0
    by_cases h1:fileE fs[j+1]=0
    ·rw [if_neg (by simpa using h1)] at h0
     cases h2:ordBad fs fs[j+1].path (j+1) with
     | true=>rw [h2,if_pos rfl] at h0;simp at h0
     | false=>simpa [ordBad,List.getElem?_eq_getElem hj] using h2
    ·rw [if_pos h1] at h0;exact absurd h0 h1
   rw [List.take_succ_eq_append_getElem hj] at hx ih
   rcases List.mem_append.1 hx with hx|hx
   ·rw [List.pairwise_append] at ih
    exact less_trans (ih.2.2 x hx fs[j] (by simp)) hord
   ·simp at hx;subst hx;exact hord
def DirsOk (fs:List PF) (dk:List (List UInt8)):Prop:=∀ x,x ∈ dk ↔ x=[]\/∃ f ∈ fs,f.type=4/\f.path=x
theorem home_dirs {fs:List PF} {dk:List (List UInt8)} (hd:DirsOk fs dk) (ha:fs.Pairwise fun x y=>lessB x.path y.path=true) (path:List UInt8):homeE fs path≠0 ↔ parentOf path ∉ dk:=by
 rw [hd]
 unfold homeE
 by_cases hp:parentOf path=[]
 ·simp [hp]
 ·rw [if_neg hp]
  have huniq:∀ (gs:List PF),gs.Pairwise (fun x y=>lessB x.path y.path=true)->∀ f ∈ gs,f.path=parentOf path->findF gs (parentOf path)=some f:=by
   intro gs
   induction gs with
   | nil=>intro _ f hf;simp at hf
   | cons g gs ih =>
    intro hpw f hf hfp
    rw [List.pairwise_cons] at hpw
    unfold findF
    rw [List.find?_cons]
    rcases List.mem_cons.1 hf with rfl|hf
    ·simp [hfp]
    ·have h1:=hpw.1 f hf
     have h2:g.path≠parentOf path:=fun e=>by rw [hfp,e,less_irrefl] at h1;simp at h1
     have:(g.path == parentOf path)=false:=by simpa using h2
     rw [this]
     exact ih hpw.2 f hf hfp
  cases hf:findF fs (parentOf path) with
  | none =>
   simp only [ne_eq,not_or]
   refine⟨fun _=>⟨hp,?_⟩,fun _=>by decide⟩
   rintro⟨f,h1,_,h3⟩
   rw [huniq fs ha f h1 h3] at hf
   simp at hf
  | some f =>
   have h1:f ∈ fs:=List.mem_of_find?_eq_some hf
   have h2:f.path=parentOf path:=by simpa using List.find?_some hf
   simp only [ne_eq,not_or]
   by_cases h4:f.type=4
   ·simp only [h4,if_true]
    refine⟨fun h=>(h (by simp)).elim,fun h=>absurd ⟨f,h1,h4,h2⟩ h.2⟩
   ·simp only [h4,if_false]
    refine⟨fun _=>⟨hp,?_⟩,fun _=>by decide⟩
    rintro⟨f',k1,k2,k3⟩
    rw [huniq fs ha f' k1 k3] at hf
    simp at hf;subst hf
    exact h4 k2
abbrev s60_14:CC:=.seq (.reg c64x14) (.cond (.r r45) (.reg c64x15) .skip)
theorem checkTree60 {h:Hp} {n:Nat} {v:AV} {fs:List PF} (hs:Sl h n 4 v fs.length (fs.flatMap pfC)) (hl:Small fs.length) (hp:PFs fs):Fn E 64 [v] h n fun r h' n'=>r=.int .i64 (treeE fs)/\Gr h n h' n':=by
 unfold Small at hl
 refine Fn.of code64 (by decide) rfl fun Q cs hq=>?_
 show SW E Q 64 [(r0,v)] _ _ _ _
 have hret:∀ (e:Int) (h1:Hp) (n1:Nat) (R:List (Path × AV)) (todo:List AItem),e=treeE fs->Gr h n h1 n1->look R r2=some (.int .i64 e)->SW E Q 64 R (.code .ret::todo) cs h1 n1:=fun e h1 n1 R todo he hE h2=>SW.ret code64 ⟨_,h2,hq _ _ _ ⟨by rw [he];rfl,hE⟩⟩
 by_cases hlen:200 < fs.length
 ·repeat' first|refine SW.a rfl ?_|refine SW.reg ?_|refine SO.nil ?_|refine SO.a rfl ?_|refine SO.lenSl rfl rfl rfl (by assumption) ?_|refine SO.cT rfl (by omega) ?_|fail
  exact hret 4 _ _ _ _ (by simp [treeE,hlen]) (Gr.refl _ _) rfl
 have loop:∀ (k i:Nat) (g:Hp) (m:Nat) (dk:List (List UInt8)),i+k=fs.length->(∀ j,j < i->treeAt fs j=0)->treeE fs=firstE (treeAt fs) k i->Gr h n g m->n < m->MapIs strOf g n dk->DirsOk (fs.take i) dk->∀ R,look R r0=some v->look R r3=some (.map n)->look R r12=some v->look R r13=some (.int .i64 (fs.length:Int))->look R r14=some (.int .i64 (i:Int))->SW E Q 64 R [.code c64x17,.inLoop c64x17,.inBlock 0,.code (.seq (.reg c64x18) .ret)] cs g m:=by
  intro k
  induction k with
  | zero =>
   intro i g m dk hi hz he hE hnm hD hdo R q0 q3 q12 q13 q14
   refine SW.sub (R':=[(r0,v),(r3,.map n),(r12,v),(r13,.int .i64 (fs.length:Int)),(r14,.int .i64 (i:Int))]) (by simp [q0,q3,q12,q13,q14]) ?_
   repeat' first|refine SW.a rfl ?_|refine SW.reg ?_|refine SO.nil ?_|refine SO.a rfl ?_|refine SO.cF rfl (by omega) ?_|fail
   exact hret 0 _ _ _ _ (by rw [he];rfl) hE rfl
  | succ k ih =>
   intro i g m dk hi hz he hE hnm hD hdo R q0 q3 q12 q13 q14
   have hi':i < fs.length:=by omega
   have hat:fs[i]?=some fs[i]:=List.getElem?_eq_getElem hi'
   have hm:=hp fs[i] (List.getElem_mem hi')
   unfold Small at hm
   have hs1:=hs.ext hE
   have lE:=hE.le
   simp only [firstE] at he
   refine SW.sub (R':=[(r0,v),(r3,.map n),(r12,v),(r13,.int .i64 (fs.length:Int)),(r14,.int .i64 (i:Int))]) (by simp [q0,q3,q12,q13,q14]) ?_
   repeat' first|refine SO.idxOf (fun _=>rfl) rfl rfl rfl rfl hs1 hi' (fun a o hp=>?_)|refine SO.loadA rfl rfl rfl (by assumption) (Gr.refl _ _) rfl ?_|refine SO.alloc rfl rfl (fun g2 hc2 hE2=>?_)|refine SW.a rfl ?_|refine SW.reg ?_|refine SO.nil ?_|refine SO.a rfl ?_|refine SO.cT rfl (by omega) ?_|fail
   refine SO.storeAll rfl rfl rfl hc2 rfl rfl (fun g3 hc3 hk3=>?_)
   have hE3:Gr g m g3 (m+1):=hE2.keep (Nat.le_refl _) hk3
   repeat' first|refine SO.loadVA rfl rfl rfl hc3 rfl ?_|refine SW.a rfl ?_|refine SW.reg ?_|refine SO.nil ?_
   refine SO.callG rfl rfl rfl (element100 fs[i] hm.1 hm.2) ?_
   rintro _ g4 m4 ⟨rfl,hE4⟩
   have l4:=hE4.le
   have hG:Gr h n g4 m4:=(hE.trans hE3).trans hE4
   have hs4:=hs.ext hG
   have hc4:hb g4 m=some (.cell (pfC fs[i]) 68 false):=by rw [hE4.same m (by omega)];exact hc3
   have hD4:MapIs strOf g4 n dk:=hD.same (by rw [hE4.same n (by omega),hE3.same n (by omega)])
   by_cases hf0:fileE fs[i]=0
   case neg =>
    repeat' first|refine SW.a rfl ?_|refine SW.reg ?_|refine SO.nil ?_|refine SO.a rfl ?_|refine SO.cT rfl (by omega) ?_|fail
    refine hret _ _ _ _ _ ?_ hG rfl
    have:treeAt fs i=fileE fs[i]:=by simp only [treeAt,hat];rw [if_pos hf0]
    rw [he,this,if_pos hf0]
   have hlook:ordBad fs fs[i].path i=false->∀ R,look R r0=some v->look R r3=some (.map n)->look R r5=some (.ptr m 0)->look R r12=some v->look R r13=some (.int .i64 (fs.length:Int))->look R r14=some (.int .i64 (i:Int))->look R r37=some (.map n)->look R r39=some (strOf fs[i].path)->SO E Q 64 .ops R [⟨(some r40),none,[.r r39],(.call 114)⟩,⟨(some r41),none,[.r r37,.r r40],(.lookup [.str] false (.bool false) false)⟩,⟨(some r42),none,[.r r41],.not⟩] [.code (.cond (.r r42) (.seq (.reg c64x13) .ret) .skip),.code s60_14,.inBlock 1,.code (.reg c64x16),.inLoop c64x17,.inBlock 0,.code (.seq (.reg c64x18) .ret)] cs g4 m4:=by
    intro hord R q0 q3 q5 q12 q13 q14 q37 q39
    refine SO.forget (R':=[(r0,v),(r3,.map n),(r5,.ptr m 0),(r12,v),(r13,.int .i64 (fs.length:Int)),(r14,.int .i64 (i:Int)),(r37,.map n),(r39,strOf fs[i].path)]) (by simp [q0,q3,q5,q12,q13,q14,q37,q39]) ?_
    refine SO.callG rfl rfl rfl (parent101 fs[i].path hm.1) ?_
    rintro _ g5 m5 ⟨rfl,rfl,rfl⟩
    have hhome:=home_dirs hdo (paths_asc i (by omega) hz) fs[i].path
    by_cases hin:parentOf fs[i].path ∈ dk
    case neg =>
     refine SO.lookupF strKey (parentOf fs[i].path) rfl rfl rfl rfl hD4 hin ?_
     repeat' first|refine SW.a rfl ?_|refine SW.reg ?_|refine SO.nil ?_|refine SO.a rfl ?_
     refine hret 7 _ _ _ _ ?_ hG rfl
     have h7:homeE (fs.take i) fs[i].path≠0:=hhome.2 hin
     have:treeAt fs i=7:=by simp only [treeAt,hat];rw [if_neg (by simpa using hf0),hord,if_neg (by simp),if_pos h7]
     rw [he,this];rfl
    case pos =>
     refine SO.lookupT strKey (parentOf fs[i].path) rfl rfl rfl rfl hD4 hin ?_
     have h7:homeE (fs.take i) fs[i].path=0:=Classical.byContradiction fun h=>hhome.1 h hin
     have hz':treeAt fs i=0:=by simp only [treeAt,hat];rw [if_neg (by simpa using hf0),hord,if_neg (by simp),if_neg (by simpa using h7)]
     have hzz:∀ j,j < i+1->treeAt fs j=0:=fun j hj=>by
      by_cases h1:j=i
      ·rw [h1];exact hz'
      ·exact hz j (by omega)
     rw [hz',if_neg (by simp)] at he
     by_cases ht:fs[i].type=4
     ·repeat' first|refine SO.loadV rfl rfl rfl hc4 rfl ?_|refine SW.a rfl ?_|refine SW.reg ?_|refine SO.nil ?_|refine SO.a rfl ?_|refine SO.cT rfl (by omega) ?_|fail
      refine SO.mapSet strKey fs[i].path rfl rfl rfl rfl hD4 (fun g6 dk6 hD6 hmem hk6=>?_)
      repeat' first|refine SW.a rfl ?_|refine SW.reg ?_|refine SO.nil ?_|refine SO.a rfl ?_|refine SO.add rfl rfl rfl rfl (by omega) ?_|fail
      refine SW.again ?_
      refine ih (i+1) g6 _ _ (by omega) hzz he (hG.keep (Nat.le_refl _) hk6) (by omega) hD6 ?_ _ rfl rfl rfl rfl rfl
      intro x
      rw [List.take_succ_eq_append_getElem hi']
      have hx:=hdo x
      rw [hmem,hx]
      constructor
      ·rintro ((h1 |⟨y,h1,h2,h3⟩)|h1)
       ·exact .inl h1
       ·exact .inr ⟨y,List.mem_append.2 (.inl h1),h2,h3⟩
       ·exact .inr ⟨fs[i],List.mem_append.2 (.inr (List.mem_singleton.2 rfl)),ht,h1.symm⟩
      ·rintro (h1 |⟨y,h1,h2,h3⟩)
       ·exact .inl (.inl h1)
       ·rcases List.mem_append.1 h1 with h1|h1
        ·exact .inl (.inr ⟨y,h1,h2,h3⟩)
        ·rw [List.mem_singleton] at h1;subst h1;exact .inr h3.symm
     ·repeat' first|refine SO.loadV rfl rfl rfl hc4 rfl ?_|refine SW.a rfl ?_|refine SW.reg ?_|refine SO.nil ?_|refine SO.a rfl ?_|refine SO.cF rfl (by omega) ?_|refine SO.add rfl rfl rfl rfl (by omega) ?_|fail
      refine SW.again ?_
      refine ih (i+1) _ _ dk (by omega) hzz he hG (by omega) hD4 ?_ _ rfl rfl rfl rfl rfl
      intro x
      rw [List.take_succ_eq_append_getElem hi',hdo x]
      constructor
      ·rintro (h1 |⟨y,h1,h2,h3⟩)
       ·exact .inl h1
       ·exact .inr ⟨y,List.mem_append.2 (.inl h1),h2,h3⟩
      ·rintro (h1 |⟨y,h1,h2,h3⟩)
       ·exact .inl h1
       ·rcases List.mem_append.1 h1 with h1|h1
        ·exact .inr ⟨y,h1,h2,h3⟩
        ·rw [List.mem_singleton] at h1;subst h1;exact absurd h2 ht
   cases i with
   | zero =>
    repeat' first|refine SO.loadV rfl rfl rfl hc4 rfl ?_|refine SW.a rfl ?_|refine SW.reg ?_|refine SO.nil ?_|refine SO.nilD ?_|(refine SW.drawO rfl ?_;simp only [List.map_cons,List.map_nil])|refine SO.a rfl ?_|refine SO.cF rfl (by omega) ?_|fail
    exact hlook rfl _ rfl rfl rfl rfl rfl rfl rfl rfl
   | succ j =>
    have hj:j < fs.length:=by omega
    have hjt:fs[j]?=some fs[j]:=List.getElem?_eq_getElem hj
    have htot:=less_total fs[j+1].path fs[j].path
    repeat' first|refine SO.idxAt j (fun _=>rfl) rfl rfl rfl rfl (by omega) hs4 hj (fun a o hp=>?_)|refine SO.loadV rfl rfl rfl hc4 rfl ?_|refine SO.load0 rfl rfl rfl (by assumption) (Gr.refl _ _) ?_|refine SW.a rfl ?_|refine SW.reg ?_|refine SO.nil ?_|refine SO.nilD ?_|(refine SW.drawO rfl ?_;simp only [List.map_cons,List.map_nil])|refine SO.a rfl ?_|refine SO.cT rfl (by omega) ?_|refine SO.cF rfl (by omega) ?_|refine SO.sub rfl rfl rfl rfl (by omega) ?_|refine SO.leqS rfl rfl rfl rfl (fun _=>?_) (fun _=>?_)
    ·rename_i hh
     refine hret 9 _ _ _ _ ?_ hG rfl
     have:treeAt fs (j+1)=9:=by simp only [treeAt,hat];rw [if_neg (by simpa using hf0),if_pos (by simp only [ordBad,hjt];rw [<- htot];exact hh)]
     rw [he,this];rfl
    ·rename_i hh
     exact hlook (by simp only [ordBad,hjt];rw [<- htot];exact hh) _ rfl rfl rfl rfl rfl rfl rfl rfl
 repeat' first|refine SO.mkMap strOf rfl rfl (fun h1 hD1 hE1=>?_)|refine SW.a rfl ?_|refine SW.reg ?_|refine SO.nil ?_|refine SO.a rfl ?_|refine SO.lenSl rfl rfl rfl (by assumption) ?_|refine SO.cF rfl (by omega) ?_|fail
 refine SO.mapSet strKey [] rfl rfl rfl rfl hD1 (fun h2 dk2 hD2 hmem2 hk2=>?_)
 have hE2:Gr h n h2 (n+1):=hE1.keep (Nat.le_refl _) hk2
 repeat' first|refine SW.a rfl ?_|refine SW.reg ?_|refine SO.nil ?_|refine SO.a rfl ?_|refine SO.lenSl rfl rfl rfl (by assumption) ?_|fail
 refine SW.loop ?_
 refine loop fs.length 0 h2 (n+1) _ (by omega) (fun j hj=>by omega) (by simp [treeE,hlen]) hE2 (by omega) hD2 ?_ _ rfl rfl rfl rfl rfl
 intro x
 rw [hmem2]
 simp
end Go.Ev
