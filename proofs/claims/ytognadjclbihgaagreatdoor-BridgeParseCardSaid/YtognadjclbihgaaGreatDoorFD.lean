/- Contracts: quiltref12.parents, snapshot, first, Check. -/
import Derived.Test.YtognadjclbihgaaGreatDoorE6
import Derived.Test.YtognadjclbihgaaGreatDoorFC
import Derived.Test.YtognadjclbihgaaGreatDoorE7
set_option linter.all false
namespace Go.Ev
set_option maxRecDepth 100000
set_option maxHeartbeats 4000000
theorem natInt (xs:List Nat):xs.flatMap natC=(xs.map Int.ofNat).flatMap intC:=by
 induction xs with
 | nil=>rfl
 | cons x xs ih=>simp only [List.flatMap_cons,List.map_cons,ih];rfl
theorem parents61 {h:Hp} {n:Nat} {v:AV} {rs:List SnapR} (hs:Sn h n v rs) (hl:rs.length<=400) (i:Nat) (hi:i < rs.length):Fn E 67 [v,.int .i64 i] h n fun r h' n'=>r=.int .i64 (parentsE rs i)/\Gr h n h' n':=by
 refine Fn.of code67 (by decide) rfl fun Q cs hq=>?_
 show SW E Q 67 [(r0,v),(r1,.int .i64 i)] _ _ _ _
 have hsl:=hs.sl
 have hmem:=List.getElem_mem hi
 have hps:=hs.ps rs[i] hmem
 have hok:=(hs.ok rs[i] hmem).parents
 have hpa:=parAt_get hi
 have hret:∀ (e:Int) (h1:Hp) (n1:Nat) (R:List (Path × AV)) (todo:List AItem),e=parentsE rs i->Gr h n h1 n1->look R r4=some (.int .i64 e)->SW E Q 67 R (.code .ret::todo) cs h1 n1:=fun e h1 n1 R todo he hE h2=>SW.ret code67 ⟨_,h2,hq _ _ _ ⟨by rw [he];rfl,hE⟩⟩
 unfold parentsE at hret
 rw [hpa] at hret
 generalize hpv:rs[i].vp=pv at *
 generalize hpp:rs[i].s.parents=ps at *
 have loop2:firstE (par1 ps i) ps.length 0=0->(∀ x ∈ ps,0<=x/\x <(i:Int))->∀ (k2 m:Nat) (h1:Hp) (n1:Nat),m+k2=ps.length->firstE (par2 rs ps) ps.length 0=firstE (par2 rs ps) k2 m->Gr h n h1 n1->∀ R,look R r0=some v->look R r5=some pv->look R r7=some (.int .i64 m)->SW E Q 67 R [.code c67x20,.inLoop c67x20,.inBlock 2,.code (.seq (.reg c67x21) .ret)] cs h1 n1:=by
  intro hz hin k2
  rw [hz,if_neg (by simp)] at hret
  induction k2 with
  | zero =>
   intro m h1 n1 hm he hE R q0 q5 q7
   refine SW.sub (R':=[(r0,v),(r5,pv),(r7,.int .i64 m)]) (by simp [q0,q5,q7]) ?_
   repeat' first|refine SW.a rfl ?_|refine SW.reg ?_|refine SO.nil ?_|refine SO.a rfl ?_|refine SO.lenSl rfl rfl rfl (by assumption) ?_|refine SO.cF rfl (by omega) ?_|fail
   exact hret _ _ _ _ _ (by rw [he];rfl) hE rfl
  | succ k2 ih =>
   intro m h1 n1 hm he hE R q0 q5 q7
   have hm':m < ps.length:=by omega
   have hx:=hin ps[m] (List.getElem_mem hm')
   have hat:ps[m]?=some ps[m]:=List.getElem?_eq_getElem hm'
   have hps1:=hps.ext hE
   refine SW.sub (R':=[(r0,v),(r5,pv),(r7,.int .i64 m)]) (by simp [q0,q5,q7]) ?_
   repeat' first|refine SO.idxOf (fun _=>rfl) rfl rfl rfl rfl hps1 hm' (fun a o hp=>?_)|refine SO.load0 rfl rfl rfl (by assumption) (Gr.refl _ _) ?_|refine SW.a rfl ?_|refine SW.reg ?_|refine SO.nil ?_|refine SO.a rfl ?_|refine SO.lenSl rfl rfl rfl (by assumption) ?_|refine SO.cT rfl (by omega) ?_|fail
   have hfn:=ancestors102 (hs.ext hE) hl ps[m].toNat (by omega)
   rw [show ((ps[m].toNat:Nat):Int)=ps[m] by omega] at hfn
   refine SO.callG rfl rfl rfl hfn ?_
   rintro u h2 n2 ⟨hsu,hE2⟩
   have hps2:=hps1.ext hE2
   rw [natInt,show (ancOf rs ps[m].toNat).length=((ancOf rs ps[m].toNat).map Int.ofNat).length by simp] at hsu
   have hul:((ancOf rs ps[m].toNat).map Int.ofNat).length<=4000000000000000000:=by
    have:=ancGo_length rs ps[m].toNat ps[m].toNat []
    have e0:((ancOf rs ps[m].toNat).map Int.ofNat).length=(ancOf rs ps[m].toNat).length:=by simp
    have e1:(ancOf rs ps[m].toNat).length<=0+ps[m].toNat:=this
    omega
   have loop3:∀ (k3 w:Nat),w+k3=m->(ps.take w).any (fun y=>((ancOf rs ps[m].toNat).map Int.ofNat).contains y)=false->∀ R,look R r0=some v->look R r5=some pv->look R r7=some (.int .i64 m)->look R r8=some u->look R r9=some (.int .i64 w)->SW E Q 67 R [.code c67x18,.inLoop c67x18,.inBlock 4,.inBlock 3,.code (.reg c67x19),.inLoop c67x20,.inBlock 2,.code (.seq (.reg c67x21) .ret)] cs h2 n2:=by
    intro k3
    induction k3 with
    | zero =>
     intro w hw hany R q0 q5 q7 q8 q9
     rw [show w=m by omega] at hany
     refine SW.sub (R':=[(r0,v),(r5,pv),(r7,.int .i64 m),(r8,u),(r9,.int .i64 w)]) (by simp [q0,q5,q7,q8,q9]) ?_
     repeat' first|refine SW.a rfl ?_|refine SW.reg ?_|refine SO.nil ?_|refine SO.a rfl ?_|refine SO.cF rfl (by omega) ?_|refine SO.add rfl rfl rfl rfl (by omega) ?_|fail
     refine SW.again ?_
     refine ih (m+1) h2 n2 (by omega) ?_ (hE.trans hE2) _ rfl rfl rfl
     rw [he]
     have:par2 rs ps m=0:=by simp only [par2,hat];rw [hany,if_neg (by simp)]
     simp only [firstE,this];simp
    | succ k3 ih3 =>
     intro w hw hany R q0 q5 q7 q8 q9
     have hw':w < ps.length:=by omega
     refine SW.sub (R':=[(r0,v),(r5,pv),(r7,.int .i64 m),(r8,u),(r9,.int .i64 w)]) (by simp [q0,q5,q7,q8,q9]) ?_
     repeat' first|refine SO.idxOf (fun _=>rfl) rfl rfl rfl rfl hps2 hw' (fun a o hp=>?_)|refine SO.load0 rfl rfl rfl (by assumption) (Gr.refl _ _) ?_|refine SW.a rfl ?_|refine SW.reg ?_|refine SO.nil ?_|refine SO.a rfl ?_|refine SO.cT rfl (by omega) ?_|fail
     refine SO.callG rfl rfl rfl (has103 ps[w] hsu hul) ?_
     rintro _ h' n' ⟨rfl,rfl,rfl⟩
     cases hc:((ancOf rs ps[m].toNat).map Int.ofNat).contains ps[w] with
     | true =>
      repeat' first|refine SW.a rfl ?_|refine SW.reg ?_|refine SO.nil ?_|refine SO.a rfl ?_
      refine hret 1 _ _ _ _ ?_ (hE.trans hE2) rfl
      have:par2 rs ps m=1:=by
       simp only [par2,hat]
       rw [if_pos (List.any_eq_true.2 ⟨ps[w],?_,hc⟩)]
       rw [List.mem_take_iff_getElem]
       exact⟨w,by omega,rfl⟩
      rw [he]
      simp only [firstE,this];simp
     | false =>
      repeat' first|refine SW.a rfl ?_|refine SW.reg ?_|refine SO.nil ?_|refine SO.a rfl ?_|refine SO.add rfl rfl rfl rfl (by omega) ?_|fail
      refine SW.again ?_
      refine ih3 (w+1) (by omega) ?_ _ rfl rfl rfl rfl rfl
      rw [List.take_succ_eq_append_getElem hw',List.any_append,hany,List.any_cons,hc];rfl
   repeat' first|refine SW.a rfl ?_|refine SW.reg ?_|refine SO.nil ?_|refine SO.a rfl ?_
   refine SW.loop ?_
   exact loop3 m 0 (by omega) (by simp) _ rfl rfl rfl rfl rfl
 have loop1:∀ (k m:Nat),m+k=ps.length->firstE (par1 ps i) ps.length 0=firstE (par1 ps i) k m->(∀ x ∈ ps.take m,0<=x/\x <(i:Int))->∀ R,look R r0=some v->look R r1=some (.int .i64 i)->look R r5=some pv->look R r6=some (.int .i64 m)->SW E Q 67 R [.code c67x9,.inLoop c67x9,.inBlock 0,.code (.seq (.seq (.reg c67x10) (.block 2 (.loop c67x20))) (.seq (.reg c67x21) .ret))] cs h n:=by
  intro k
  induction k with
  | zero =>
   intro m hm he hin R q0 q1 q5 q6
   refine SW.sub (R':=[(r0,v),(r1,.int .i64 i),(r5,pv),(r6,.int .i64 m)]) (by simp [q0,q1,q5,q6]) ?_
   rw [show m=ps.length by omega,List.take_length] at hin
   repeat' first|refine SW.a rfl ?_|refine SW.reg ?_|refine SO.nil ?_|refine SO.a rfl ?_|refine SO.lenSl rfl rfl rfl (by assumption) ?_|refine SO.cF rfl (by omega) ?_|fail
   refine SW.loop ?_
   exact loop2 (by rw [he];rfl) hin ps.length 0 h n (by omega) rfl (Gr.refl _ _) _ rfl rfl rfl
  | succ k ih =>
   intro m hm he hin R q0 q1 q5 q6
   have hm':m < ps.length:=by omega
   have hat:ps[m]?=some ps[m]:=List.getElem?_eq_getElem hm'
   simp only [firstE] at he
   have hbad:par1 ps i m≠0->∀ (R:List (Path × AV)) (todo:List AItem),look R r4=some (.int .i64 (par1 ps i m))->SW E Q 67 R (.code .ret::todo) cs h n:=fun hb R todo h4=>hret _ _ _ _ _ (by rw [he,if_pos hb,if_pos hb]) (Gr.refl _ _) h4
   have hgo:par1 ps i m=0->0<=ps[m]/\ps[m] <(i:Int)->∀ R,look R r0=some v->look R r1=some (.int .i64 i)->look R r5=some pv->look R r6=some (.int .i64 ((m:Int)+1))->SW E Q 67 R [.code c67x9,.inLoop c67x9,.inBlock 0,.code (.seq (.seq (.reg c67x10) (.block 2 (.loop c67x20))) (.seq (.reg c67x21) .ret))] cs h n:=by
    intro h0 hx R q0 q1 q5 q6
    refine ih (m+1) (by omega) (by rw [he,h0];simp) (fun x hx'=>?_) R q0 q1 q5 q6
    rw [List.take_succ_eq_append_getElem hm'] at hx'
    rcases List.mem_append.1 hx' with hx'|hx'
    ·exact hin x hx'
    ·simp at hx';rw [hx'];exact hx
   refine SW.sub (R':=[(r0,v),(r1,.int .i64 i),(r5,pv),(r6,.int .i64 m)]) (by simp [q0,q1,q5,q6]) ?_
   cases m with
   | zero =>
    repeat' first|refine SO.idxOf (fun _=>rfl) rfl rfl rfl rfl hps hm' (fun a o hp=>?_)|refine SO.load0 rfl rfl rfl (by assumption) (Gr.refl _ _) ?_|refine SW.a rfl ?_|refine SW.reg ?_|refine SO.nil ?_|refine SO.nilD ?_|(refine SW.drawO rfl ?_;simp only [List.map_cons,List.map_nil])|refine SO.a rfl ?_|refine SO.lenSl rfl rfl rfl (by assumption) ?_|refine SO.cT rfl (by omega) ?_|refine SO.cF rfl (by omega) ?_|refine SO.add rfl rfl rfl rfl (by omega) ?_|refine SO.lss rfl rfl rfl rfl (fun _=>?_) (fun _=>?_)|refine SO.geq rfl rfl rfl rfl (fun _=>?_) (fun _=>?_)
    ·rename_i hh
     have e:par1 ps i 0=2:=by simp only [par1,hat];rw [if_pos (.inl hh)]
     refine hbad (by rw [e];decide) _ _ (by rw [e];rfl)
    ·rename_i hh hh'
     have e:par1 ps i 0=2:=by simp only [par1,hat];rw [if_pos (.inr hh')]
     refine hbad (by rw [e];decide) _ _ (by rw [e];rfl)
    ·rename_i hh hh'
     refine SW.again ?_
     refine hgo ?_ (by omega) _ rfl rfl rfl rfl
     simp only [par1,hat];rw [if_neg (by omega)];rfl
   | succ w =>
    have hw:w < ps.length:=by omega
    have hwt:ps[w]?=some ps[w]:=List.getElem?_eq_getElem hw
    repeat' first|refine SO.idxAt w (fun _=>rfl) rfl rfl rfl rfl (by omega) hps hw (fun a o hp=>?_)|refine SO.idxOf (fun _=>rfl) rfl rfl rfl rfl hps hm' (fun a o hp=>?_)|refine SO.load0 rfl rfl rfl (by assumption) (Gr.refl _ _) ?_|refine SW.a rfl ?_|refine SW.reg ?_|refine SO.nil ?_|refine SO.nilD ?_|(refine SW.drawO rfl ?_;simp only [List.map_cons,List.map_nil])|refine SO.a rfl ?_|refine SO.lenSl rfl rfl rfl (by assumption) ?_|refine SO.cT rfl (by omega) ?_|refine SO.add rfl rfl rfl rfl (by omega) ?_|refine SO.sub rfl rfl rfl rfl (by omega) ?_|refine SO.lss rfl rfl rfl rfl (fun _=>?_) (fun _=>?_)|refine SO.geq rfl rfl rfl rfl (fun _=>?_) (fun _=>?_)
    ·rename_i hh
     have e:par1 ps i (w+1)=2:=by simp only [par1,hat];rw [if_pos (.inl hh)]
     refine hbad (by rw [e];decide) _ _ (by rw [e];rfl)
    ·rename_i hh hh'
     have e:par1 ps i (w+1)=2:=by simp only [par1,hat];rw [if_pos (.inr hh')]
     refine hbad (by rw [e];decide) _ _ (by rw [e];rfl)
    ·rename_i hh hh' hh''
     have e:par1 ps i (w+1)=9:=by simp only [par1,hat,hwt];rw [if_neg (by omega),if_pos (by simpa using hh'')]
     refine hbad (by rw [e];decide) _ _ (by rw [e];rfl)
    ·rename_i hh hh' hh''
     refine SW.again ?_
     refine hgo ?_ (by omega) _ rfl rfl rfl rfl
     simp only [par1,hat,hwt];rw [if_neg (by omega),if_neg (by simp;omega)]
 repeat' first|refine SO.idxOf (fun _=>rfl) rfl rfl rfl rfl hsl hi (fun a o hp=>?_)|refine SO.load0 rfl rfl rfl (by assumption) (Gr.refl _ _) ?_|refine SW.a rfl ?_|refine SW.reg ?_|refine SO.nil ?_|refine SO.a rfl ?_
 refine SW.loop ?_
 exact loop1 ps.length 0 (by omega) rfl (by simp) _ rfl rfl (by rw [<- hpv];rfl) rfl
def snapE (rs:List SnapR) (i:Nat):Int:=match rs[i]? with
 | none=>0
 | some r=>if parentsE rs i≠0 then parentsE rs i else if nameOk r.s.author=false then 5 else if 1000 < r.s.message.length then 4 else if r.s.time < 0\/1099511627776 < r.s.time then 2 else treeE r.s.files
theorem snapshot33 {h:Hp} {n:Nat} {v:AV} {rs:List SnapR} (hs:Sn h n v rs) (hl:rs.length<=400) (i:Nat) (hi:i < rs.length):Fn E 37 [v,.int .i64 i] h n fun r h' n'=>r=.int .i64 (snapE rs i)/\Gr h n h' n':=by
 refine Fn.of code37 (by decide) rfl fun Q cs hq=>?_
 show SW E Q 37 [(r0,v),(r1,.int .i64 i)] _ _ _ _
 have hmem:=List.getElem_mem hi
 have hok:=hs.ok rs[i] hmem
 have hat:rs[i]?=some rs[i]:=List.getElem?_eq_getElem hi
 have k3:=hok.message
 have hret:∀ (e:Int) (h1:Hp) (n1:Nat) (R:List (Path × AV)) (todo:List AItem),e=snapE rs i->Gr h n h1 n1->look R r4=some (.int .i64 e)->SW E Q 37 R (.code .ret::todo) cs h1 n1:=fun e h1 n1 R todo he hE h2=>SW.ret code37 ⟨_,h2,hq _ _ _ ⟨by rw [he];rfl,hE⟩⟩
 simp only [snapE,hat] at hret
 repeat' first|refine SW.a rfl ?_|refine SW.reg ?_|refine SO.nil ?_|refine SO.a rfl ?_
 refine SO.callG rfl rfl rfl (parents61 hs hl i hi) ?_
 rintro _ h1 n1 ⟨rfl,hE⟩
 have hs1:=hs.ext hE
 have hsl:=hs1.sl
 by_cases hp0:parentsE rs i=0
 case neg =>
  repeat' first|refine SW.a rfl ?_|refine SW.reg ?_|refine SO.nil ?_|refine SO.a rfl ?_|refine SO.cT rfl (by omega) ?_|fail
  exact hret _ _ _ _ _ (by rw [if_pos hp0]) hE rfl
 rw [if_neg (by simpa using hp0)] at hret
 repeat' first|refine SO.idxOf (fun _=>rfl) rfl rfl rfl rfl hsl hi (fun a o hp=>?_)|refine SO.loadA rfl rfl rfl (by assumption) (Gr.refl _ _) rfl ?_|refine SO.alloc rfl rfl (fun h3 hc3 hE3=>?_)|refine SO.storeAll rfl rfl rfl hc3 rfl rfl (fun h4 hc4 hk4=>?_)|refine SO.loadV rfl rfl rfl hc4 rfl ?_|refine SW.a rfl ?_|refine SW.reg ?_|refine SO.nil ?_|refine SO.a rfl ?_|refine SO.cF rfl (by omega) ?_|fail
 have hE4:Gr h n h4 (n1+1):=(hE.trans hE3).keep (by have:=hE.le;omega) hk4
 refine SO.callG rfl rfl rfl (name62 rs[i].s.author hok.author _ _) ?_
 rintro _ h' n' ⟨rfl,rfl,rfl⟩
 cases hn:nameOk rs[i].s.author with
 | false =>
  repeat' first|refine SW.a rfl ?_|refine SW.reg ?_|refine SO.nil ?_|refine SO.a rfl ?_
  exact hret 5 _ _ _ _ (by rw [hn];rfl) hE4 rfl
 | true =>
  rw [hn,if_neg (by simp)] at hret
  repeat' first|refine SO.loadV rfl rfl rfl hc4 rfl ?_|refine SW.a rfl ?_|refine SW.reg ?_|refine SO.nil ?_|refine SO.a rfl ?_|refine SO.lss rfl rfl rfl rfl (fun _=>?_) (fun _=>?_)|refine SO.gtr rfl rfl rfl rfl (fun _=>?_) (fun _=>?_)
  ·rename_i hh
   exact hret 4 _ _ _ _ (by rw [if_pos (by omega)]) hE4 rfl
  ·rename_i hh hh'
   exact hret 2 _ _ _ _ (by rw [if_neg (by omega),if_pos (.inl hh')]) hE4 rfl
  ·rename_i hh hh' hh''
   exact hret 2 _ _ _ _ (by rw [if_neg (by omega),if_pos (.inr hh'')]) hE4 rfl
  ·rename_i hh hh' hh''
   refine SO.callG rfl rfl rfl (checkTree63 ((hs.ext hE4).fs rs[i] hmem) hok.files hok.pfs) ?_
   rintro _ h5 n5 ⟨rfl,hE5⟩
   repeat' first|refine SO.nil ?_|refine SO.a rfl ?_
   exact hret _ _ _ _ _ (by rw [if_neg (by omega),if_neg (by omega)]) (hE4.trans hE5) rfl
def checkE (rs:List SnapR):Int:=if 400 < rs.length then 4 else firstE (snapE rs) rs.length 0
def firstI (e:Nat->Int):Nat->Nat->Nat
 | 0,_=>0
 | n+1,i=>if e i≠0 then i else firstI e n (i+1)
def checkI (rs:List SnapR):Nat:=if 400 < rs.length then 0 else firstI (snapE rs) rs.length 0
theorem first19 {h:Hp} {n:Nat} {v:AV} {rs:List SnapR} (hs:Sn h n v rs):Fn E 18 [v] h n fun r h' n'=>r=.tup [.int .i64 (checkI rs:Int),.int .i64 (checkE rs)]/\Gr h n h' n':=by
 refine Fn.of code18 (by decide) rfl fun Q cs hq=>?_
 show SW E Q 18 [(r0,v)] _ _ _ _
 have hl:=hs.len
 have hsl:=hs.sl
 have hret:∀ (x e:Int) (h1:Hp) (n1:Nat) (R:List (Path × AV)) (todo:List AItem),x=(checkI rs:Int)->e=checkE rs->Gr h n h1 n1->look R r2=some (.int .i64 x)->look R r3=some (.int .i64 e)->SW E Q 18 R (.code .ret::todo) cs h1 n1:=fun x e h1 n1 R todo hx he hE h2 h3=>SW.ret code18 ⟨_,h2,_,h3,hq _ _ _ ⟨by rw [hx,he];rfl,hE⟩⟩
 by_cases hlen:400 < rs.length
 ·repeat' first|refine SW.a rfl ?_|refine SW.reg ?_|refine SO.nil ?_|refine SO.a rfl ?_|refine SO.lenSl rfl rfl rfl (by assumption) ?_|refine SO.cT rfl (by omega) ?_|fail
  exact hret 0 4 _ _ _ _ (by simp [checkI,hlen]) (by simp [checkE,hlen]) (Gr.refl _ _) rfl rfl
 have loop:∀ (k i:Nat) (h1:Hp) (n1:Nat),i+k=rs.length->checkI rs=firstI (snapE rs) k i->checkE rs=firstE (snapE rs) k i->Gr h n h1 n1->∀ R,look R r0=some v->look R r4=some (.int .i64 i)->SW E Q 18 R [.code c18x9,.inLoop c18x9,.inBlock 0,.code (.seq (.reg c18x10) .ret)] cs h1 n1:=by
  intro k
  induction k with
  | zero =>
   intro i h1 n1 hi hx he hE R q0 q4
   refine SW.sub (R':=[(r0,v),(r4,.int .i64 i)]) (by simp [q0,q4]) ?_
   repeat' first|refine SW.a rfl ?_|refine SW.reg ?_|refine SO.nil ?_|refine SO.a rfl ?_|refine SO.lenSl rfl rfl rfl (by assumption) ?_|refine SO.cF rfl (by omega) ?_|fail
   exact hret 0 0 _ _ _ _ (by rw [hx];rfl) (by rw [he];rfl) hE rfl rfl
  | succ k ih =>
   intro i h1 n1 hi hx he hE R q0 q4
   have hi':i < rs.length:=by omega
   refine SW.sub (R':=[(r0,v),(r4,.int .i64 i)]) (by simp [q0,q4]) ?_
   simp only [firstE] at he
   simp only [firstI] at hx
   repeat' first|refine SW.a rfl ?_|refine SW.reg ?_|refine SO.nil ?_|refine SO.a rfl ?_|refine SO.lenSl rfl rfl rfl (by assumption) ?_|refine SO.cT rfl (by omega) ?_|fail
   refine SO.callG rfl rfl rfl (snapshot33 (hs.ext hE) (by omega) i hi') ?_
   rintro _ h2 n2 ⟨rfl,hE2⟩
   repeat' first|refine SW.a rfl ?_|refine SW.reg ?_|refine SO.nil ?_|refine SO.a rfl ?_|refine SO.add rfl rfl rfl rfl (by omega) ?_|refine SO.nei rfl rfl rfl rfl (fun _=>?_) (fun _=>?_)
   ·rename_i hh
    exact hret _ _ _ _ _ _ (by rw [hx,if_pos hh]) (by rw [he,if_pos hh]) (hE.trans hE2) rfl rfl
   ·rename_i hh
    refine SW.again ?_
    exact ih (i+1) h2 n2 (by omega) (by rw [hx,if_neg (by simpa using hh)]) (by rw [he,if_neg (by simpa using hh)]) (hE.trans hE2) _ rfl rfl
 repeat' first|refine SW.a rfl ?_|refine SW.reg ?_|refine SO.nil ?_|refine SO.a rfl ?_|refine SO.lenSl rfl rfl rfl (by assumption) ?_|refine SO.cF rfl (by omega) ?_|fail
 refine SW.loop ?_
 exact loop rs.length 0 _ _ (by omega) (by simp [checkI,hlen]) (by simp [checkE,hlen]) (Gr.refl _ _) _ rfl rfl
set_option maxRecDepth 100000
set_option maxHeartbeats 4000000
section
variable {E:Env} {Q:Post} {fn:Fr} {md:Md} {R:List (Path × AV)} {todo:List AItem} {cs:List AF} {h h' h0:Hp} {n n' n0:Nat} {os:List COp} {k:IntKind} {x y:Int} {p:Path} {g:Option (Path × Bool)} {X Y:CX} {v:AV}
end
def decN (m:Nat):List UInt8:=if m < 10 then [UInt8.ofNat (48+m)] else decN (m / 10)++[UInt8.ofNat (48+m % 10)]
set_option maxRecDepth 100000
set_option maxHeartbeats 4000000
inductive XR where
 | atom (bs:List UInt8)
 | list (v:AV) (xs:List XR)
def xC:XR->List AV
 | .atom bs=>[.bool false,strOf bs,.nils]
 | .list v _=>[.bool true,strOf [],v]
theorem xC_length (x:XR):(xC x).length=3:=by cases x<;>rfl
inductive XOk (h:Hp) (n:Nat):XR->Prop where
 | atom (bs:List UInt8):XOk h n (.atom bs)
 | list (v:AV) (xs:List XR):Sl h n 3 v xs.length (xs.flatMap xC)->(∀ x ∈ xs,XOk h n x)->XOk h n (.list v xs)
theorem XOk.ext {h h':Hp} {n n':Nat} {x:XR} (hx:XOk h n x) (e:Gr h n h' n'):XOk h' n' x:=by
 induction hx with
 | atom bs=>exact .atom bs
 | list v xs hs _ ih=>exact .list v xs (hs.ext e) ih
inductive SX where
 | atom (bs:List UInt8)
 | list (xs:List SX)
mutual
def XR.sx:XR->SX
 | .atom bs=>.atom bs
 | .list _ xs=>.list (XR.sxs xs)
def XR.sxs:List XR->List SX
 | []=>[]
 | x::xs=>x.sx::XR.sxs xs
end
mutual
def XR.nodes:XR->Nat
 | .atom _=>1
 | .list _ xs=>1+XR.nodess xs
def XR.nodess:List XR->Nat
 | []=>0
 | x::xs=>x.nodes+XR.nodess xs
end
inductive XFit:Nat->XR->Prop where
 | atom (d:Nat) (bs:List UInt8):bs.length<=65536->XFit (d+1) (.atom bs)
 | list (d:Nat) (v:AV) (xs:List XR):(∀ x ∈ xs,XFit d x)->XFit (d+1) (.list v xs)
theorem nodess_append (xs ys:List XR):XR.nodess (xs++ys)=XR.nodess xs+XR.nodess ys:=by
 induction xs with
 | nil=>simp [XR.nodess]
 | cons x xs ih=>simp [XR.nodess,ih];omega
theorem count55:∀ (x:XR) (d mx:Nat) {h:Hp} {n:Nat},XOk h n x->XFit d x->x.nodes<=mx->mx<=1000000->d<=1000->Fn E 198 [.agg (xC x),.int .i64 (mx:Int),.int .i64 (d:Int)] h n fun r h' n'=>r=.int .i64 (x.nodes:Int)/\Gr h n h' n':=by
 intro x
 induction hsz:SizeOf.sizeOf x using Nat.strongRecOn generalizing x with
 | ind sz ih =>
  intro d mx h n hx hf hn hmx hd
  refine Fn.of code198 (by decide) rfl fun Q cs hq=>?_
  show SW E Q 198 [(r0,.agg (xC x)),(r1,.int .i64 (mx:Int)),(r2,.int .i64 (d:Int))] _ _ _ _
  cases hx with
  | atom bs =>
   cases hf with
   | atom d' _ hbs =>
    simp only [XR.nodes] at hn hq
    repeat' first|refine SO.box rfl rfl rfl (by simp) (fun h1 hc hE=>?_)|refine SO.loadV rfl rfl rfl (by assumption) rfl ?_|refine SW.a rfl ?_|refine SW.reg ?_|refine SO.nil ?_|refine SO.a rfl ?_|refine SO.cF rfl (by omega) ?_|fail
    exact SW.ret code198 ⟨_,rfl,hq _ _ _ ⟨rfl,hE⟩⟩
  | list v xs hs hxs =>
   cases hf with
   | list d' _ _ hfs =>
    simp only [XR.nodes] at hn hq
    have hsl:=xs.length
    have hlen:∀ ys:List XR,ys.length<=XR.nodess ys:=by
     intro ys
     induction ys with
     | nil=>simp [XR.nodess]
     | cons y ys ih =>
      have:1<=y.nodes:=by cases y<;>simp [XR.nodes]
      simp [XR.nodess];omega
    have hl:=hlen xs
    have loop:∀ (k i:Nat) (h1:Hp) (n1:Nat),i+k=xs.length->hb h1 n=some (.cell (xC (.list v xs)) 56 false)->n < n1->Gr h n h1 n1->∀ R,look R r1=some (.int .i64 (mx:Int))->look R r2=some (.int .i64 ((d'+1:Nat):Int))->look R r3=some (.ptr n 0)->look R r7=some (.int .i64 ((1+XR.nodess (xs.take i):Nat):Int))->look R r8=some (.int .i64 (i:Int))->SW E Q 198 R [.code c198x10,.inLoop c198x10,.inBlock 0,.code (.seq (.reg c198x11) .ret)] cs h1 n1:=by
     intro k
     induction k with
     | zero =>
      intro i h1 n1 hi hc hnn hE R q1 q2 q3 q7 q8
      rw [show i=xs.length by omega,List.take_length] at q7
      refine SW.sub (R':=[(r1,.int .i64 (mx:Int)),(r2,.int .i64 ((d'+1:Nat):Int)),(r3,.ptr n 0),(r7,.int .i64 ((1+XR.nodess xs:Nat):Int)),(r8,.int .i64 (i:Int))]) (by simp [q1,q2,q3,q7,q8]) ?_
      repeat' first|refine SO.loadV rfl rfl rfl (by assumption) rfl ?_|refine SW.a rfl ?_|refine SW.reg ?_|refine SO.nil ?_|refine SO.a rfl ?_|refine SO.lenSl rfl rfl rfl (by assumption) ?_|refine SO.cF rfl (by omega) ?_|fail
      exact SW.ret code198 ⟨_,rfl,hq _ _ _ ⟨rfl,hE⟩⟩
     | succ k ihk =>
      intro i h1 n1 hi hc hnn hE R q1 q2 q3 q7 q8
      have hi':i < xs.length:=by omega
      have hs1:=hs.ext hE
      have e1:XR.nodess (xs.take (i+1))=XR.nodess (xs.take i)+xs[i].nodes:=by rw [List.take_succ_eq_append_getElem hi',nodess_append];simp [XR.nodess]
      have e2:XR.nodess xs=XR.nodess (xs.take (i+1))+XR.nodess (xs.drop (i+1)):=by rw [<- nodess_append,List.take_append_drop]
      have hmem:=List.getElem_mem hi'
      refine SW.sub (R':=[(r1,.int .i64 (mx:Int)),(r2,.int .i64 ((d'+1:Nat):Int)),(r3,.ptr n 0),(r7,.int .i64 ((1+XR.nodess (xs.take i):Nat):Int)),(r8,.int .i64 (i:Int))]) (by simp [q1,q2,q3,q7,q8]) ?_
      repeat' first|refine SO.loadV rfl rfl rfl (by assumption) rfl ?_|refine SO.idxOf xC_length rfl rfl rfl rfl hs1 hi' (fun a o hp=>?_)|refine SO.loadA rfl rfl rfl (by assumption) (Gr.refl _ _) (xC_length _) ?_|refine SW.a rfl ?_|refine SW.reg ?_|refine SO.nil ?_|refine SO.a rfl ?_|refine SO.lenSl rfl rfl rfl (by assumption) ?_|refine SO.cT rfl (by omega) ?_|refine SO.sub rfl rfl rfl rfl (by omega) ?_|fail
      have hfn:=ih (SizeOf.sizeOf xs[i]) (by rw [<- hsz];have:=List.sizeOf_lt_of_mem hmem;simp;omega) xs[i] rfl d' (mx - (1+XR.nodess (xs.take i))) ((hxs _ hmem).ext hE) (hfs _ hmem) (by omega) (by omega) (by omega)
      rw [show ((mx - (1+XR.nodess (xs.take i)):Nat):Int)=(mx:Int) - ((1+XR.nodess (xs.take i):Nat):Int) by omega,show ((d':Nat):Int)=((d'+1:Nat):Int) - 1 by omega] at hfn
      refine SO.callG rfl rfl rfl hfn ?_
      rintro _ h2 n2 ⟨rfl,hE2⟩
      repeat' first|refine SW.a rfl ?_|refine SW.reg ?_|refine SO.nil ?_|refine SO.a rfl ?_|refine SO.add rfl rfl rfl rfl (by omega) ?_|fail
      refine SW.again ?_
      refine ihk (i+1) h2 n2 (by omega) (by rw [hE2.same n hnn];exact hc) (by have:=hE2.le;omega) (hE.trans hE2) _ rfl rfl rfl ?_ rfl
      rw [e1,<- Nat.add_assoc];rfl
    repeat' first|refine SO.box rfl rfl rfl (by simp) (fun h1 hc hE=>?_)|refine SO.loadV rfl rfl rfl (by assumption) rfl ?_|refine SW.a rfl ?_|refine SW.reg ?_|refine SO.nil ?_|refine SO.a rfl ?_|refine SO.cF rfl (by omega) ?_|fail
    refine SW.loop ?_
    exact loop xs.length 0 _ _ (by omega) hc (by omega) hE _ rfl rfl rfl rfl rfl
set_option maxRecDepth 100000
set_option maxHeartbeats 4000000
theorem nilsSl (h:Hp) (n esz:Nat):Sl h n esz .nils 0 []:=⟨by simp,.inl ⟨rfl,rfl⟩⟩
theorem check56:∀ (x:XR) (d:Nat) {h:Hp} {n:Nat},XOk h n x->XFit d x->x.nodes<=1000000->Fn E 199 [.agg (xC x)] h n fun r h' n'=>r=.int .i64 0/\Gr h n h' n':=by
 intro x
 induction hsz:SizeOf.sizeOf x using Nat.strongRecOn generalizing x with
 | ind sz ih =>
  intro d h n hx hf hn
  refine Fn.of code199 (by decide) rfl fun Q cs hq=>?_
  show SW E Q 199 [(r0,.agg (xC x))] _ _ _ _
  cases hx with
  | atom bs =>
   cases hf with
   | atom d' _ hbs =>
    have hnil:=nilsSl h n 3
    repeat' first|refine SO.box rfl rfl rfl (by simp) (fun h1 hc hE=>?_)|refine SO.loadV rfl rfl rfl (by assumption) rfl ?_|refine SW.a rfl ?_|refine SW.reg ?_|refine SO.nil ?_|refine SO.a rfl ?_|refine SO.lenSl rfl rfl rfl (by assumption) ?_|refine SO.cF rfl (by omega) ?_|fail
    exact SW.ret code199 ⟨_,rfl,hq _ _ _ ⟨rfl,hE⟩⟩
  | list v xs hs hxs =>
   cases hf with
   | list d' _ _ hfs =>
    simp only [XR.nodes] at hn
    have hlen:∀ ys:List XR,ys.length<=XR.nodess ys:=by
     intro ys
     induction ys with
     | nil=>simp [XR.nodess]
     | cons y ys ih =>
      have:1<=y.nodes:=by cases y<;>simp [XR.nodes]
      simp [XR.nodess];omega
    have hl:=hlen xs
    have loop:∀ (k i:Nat) (h1:Hp) (n1:Nat),i+k=xs.length->hb h1 n=some (.cell (xC (.list v xs)) 56 false)->n < n1->Gr h n h1 n1->∀ R,look R r1=some (.ptr n 0)->look R r3=some (.int .i64 (i:Int))->SW E Q 199 R [.code c199x15,.inLoop c199x15,.inBlock 0,.code (.seq (.reg c199x16) .ret)] cs h1 n1:=by
     intro k
     induction k with
     | zero =>
      intro i h1 n1 hi hc hnn hE R q1 q3
      refine SW.sub (R':=[(r1,.ptr n 0),(r3,.int .i64 (i:Int))]) (by simp [q1,q3]) ?_
      repeat' first|refine SO.loadV rfl rfl rfl (by assumption) rfl ?_|refine SW.a rfl ?_|refine SW.reg ?_|refine SO.nil ?_|refine SO.a rfl ?_|refine SO.lenSl rfl rfl rfl (by assumption) ?_|refine SO.cF rfl (by omega) ?_|fail
      exact SW.ret code199 ⟨_,rfl,hq _ _ _ ⟨rfl,hE⟩⟩
     | succ k ihk =>
      intro i h1 n1 hi hc hnn hE R q1 q3
      have hi':i < xs.length:=by omega
      have hs1:=hs.ext hE
      have hmem:=List.getElem_mem hi'
      have hnx:xs[i].nodes<=1000000:=by
       have e1:XR.nodess (xs.take (i+1))=XR.nodess (xs.take i)+xs[i].nodes:=by rw [List.take_succ_eq_append_getElem hi',nodess_append];simp [XR.nodess]
       have e2:XR.nodess xs=XR.nodess (xs.take (i+1))+XR.nodess (xs.drop (i+1)):=by rw [<- nodess_append,List.take_append_drop]
       omega
      refine SW.sub (R':=[(r1,.ptr n 0),(r3,.int .i64 (i:Int))]) (by simp [q1,q3]) ?_
      repeat' first|refine SO.loadV rfl rfl rfl (by assumption) rfl ?_|refine SO.idxOf xC_length rfl rfl rfl rfl hs1 hi' (fun a o hp=>?_)|refine SO.loadA rfl rfl rfl (by assumption) (Gr.refl _ _) (xC_length _) ?_|refine SW.a rfl ?_|refine SW.reg ?_|refine SO.nil ?_|refine SO.a rfl ?_|refine SO.lenSl rfl rfl rfl (by assumption) ?_|refine SO.cT rfl (by omega) ?_|fail
      refine SO.callG rfl rfl rfl (ih (SizeOf.sizeOf xs[i]) (by rw [<- hsz];have:=List.sizeOf_lt_of_mem hmem;simp;omega) xs[i] rfl d' ((hxs _ hmem).ext hE) (hfs _ hmem) hnx) ?_
      rintro _ h2 n2 ⟨rfl,hE2⟩
      repeat' first|refine SW.a rfl ?_|refine SW.reg ?_|refine SO.nil ?_|refine SO.a rfl ?_|refine SO.cF rfl (by omega) ?_|refine SO.add rfl rfl rfl rfl (by omega) ?_|fail
      refine SW.again ?_
      exact ihk (i+1) h2 n2 (by omega) (by rw [hE2.same n hnn];exact hc) (by have:=hE2.le;omega) (hE.trans hE2) _ rfl rfl
    repeat' first|refine SO.box rfl rfl rfl (by simp) (fun h1 hc hE=>?_)|refine SO.loadV rfl rfl rfl (by assumption) rfl ?_|refine SO.strNe rfl rfl rfl rfl (fun hne=>absurd rfl hne) (fun _=>?_)|refine SW.a rfl ?_|refine SW.reg ?_|refine SO.nil ?_|refine SO.a rfl ?_
    refine SW.loop ?_
    exact loop xs.length 0 _ _ (by omega) hc (by omega) hE _ rfl rfl
theorem xcheck27 (x:XR) {h:Hp} {n:Nat} (hx:XOk h n x) (hf:XFit 12 x) (hn:x.nodes<=20000):Fn E 115 [.agg (xC x)] h n fun r h' n'=>r=.int .i64 0/\Gr h n h' n':=by
 refine Fn.of code115 (by decide) rfl fun Q cs hq=>?_
 show SW E Q 115 [(r0,.agg (xC x))] _ _ _ _
 repeat' first|refine SO.box rfl rfl rfl (by simp) (fun h1 hc hE=>?_)|refine SW.a rfl ?_|refine SW.reg ?_|refine SO.nil ?_|refine SO.a rfl ?_
 refine SO.loadVA rfl rfl rfl hc (xC_length x) ?_
 refine SO.callG rfl rfl rfl (count55 x 12 20000 (hx.ext hE) hf hn (by decide) (by decide)) ?_
 rintro _ h2 n2 ⟨rfl,hE2⟩
 have hc2:hb h2 n=some (.cell (xC x) 56 false):=by rw [hE2.same n (by omega)];exact hc
 repeat' first|refine SW.a rfl ?_|refine SW.reg ?_|refine SO.nil ?_|refine SO.cF rfl (by omega) ?_|fail
 refine SO.loadVA rfl rfl rfl hc2 (xC_length x) ?_
 refine SO.callG rfl rfl rfl (check56 x 12 (hx.ext (hE.trans hE2)) hf (by omega)) ?_
 rintro _ h3 n3 ⟨rfl,hE3⟩
 repeat' first|refine SO.nil ?_|refine SO.a rfl ?_
 exact SW.ret code115 ⟨_,rfl,hq _ _ _ ⟨rfl,(hE.trans hE2).trans hE3⟩⟩
set_option maxRecDepth 100000
set_option maxHeartbeats 4000000
def encA (bs:List UInt8):List UInt8:=decN bs.length++(58::bs)
theorem own_fam {h:Hp} {n0 n esz:Nat} {e:TypeId} {v:AV} {b:Nat} {cells:List AV} (ho:Own h n0 n esz e v (some b) cells):∃ lo la,hb h b=some (.fam lo la):=by
 rcases ho with ⟨_,_,h1⟩ |⟨_,_,_,_,_,_,_,_,h1⟩ |⟨a,f,lo,l,_,_,_,_,_,_,_,h7,_,h1⟩
 ·simp at h1
 ·simp at h1
 ·simp at h1;subst h1;exact⟨_,_,h7⟩
set_option maxRecDepth 100000
set_option maxHeartbeats 4000000
theorem firstE_zero {e:Nat->Int}:∀ (k i:Nat),firstE e k i=0->∀ j,i<=j->j < i+k->e j=0
 | 0,i,_,j,h1,h2=>by omega
 | k+1,i,h,j,h1,h2=>by
  simp only [firstE] at h
  by_cases h0:e i=0
  ·rw [if_neg (by simpa using h0)] at h
   by_cases hj:j=i
   ·rw [hj];exact h0
   ·exact firstE_zero k (i+1) h j (by omega) (by omega)
  ·rw [if_pos h0] at h;exact absurd h h0
end Go.Ev
