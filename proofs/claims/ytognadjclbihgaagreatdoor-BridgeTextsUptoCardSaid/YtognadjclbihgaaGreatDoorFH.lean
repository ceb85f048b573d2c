/- Contracts: bridge: the parents of a snapshot. -/
import Derived.Test.YtognadjclbihgaaGreatDoorE6
import Derived.Test.YtognadjclbihgaaGreatDoorFG
set_option linter.all false
namespace Go.Ev
set_option maxRecDepth 100000
set_option maxHeartbeats 8000000
abbrev mapC (m:Nat):List AV:=[.map m]
def ppE (ps:List Int) (ancs:List (List Int)):Int :=
 if firstE (par1 ps ancs.length) ps.length 0≠0 then firstE (par1 ps ancs.length) ps.length 0
 else if (ps.any fun x=>ps.any fun p=>(ancs.getD p.toNat []).contains x)=true then 1 else 0
def KeysOf (ps:List Int) (ancs:List (List Int)) (keys:List Int):Prop:=∀ x,x ∈ keys ↔ x ∈ ps\/∃ p ∈ ps,x ∈ ancs.getD p.toNat []
abbrev rest58:CC:=.seq (.seq (.reg c62x16) (.block 4 (.loop c62x22))) (.seq (.seq (.reg c62x23) (.block 6 (.loop c62x28))) (.seq (.reg c62x29) .ret))
theorem filter_less {es:List (AV × AV × Nat)} {seen:List Nat} {e:AV × AV × Nat} (he:e ∈ es) (hn:e.2.2 ∉ seen):(es.filter fun x=>!(seen++[e.2.2]).contains x.2.2).length <(es.filter fun x=>!seen.contains x.2.2).length:=by
 have h1:(es.filter fun x=>!(seen++[e.2.2]).contains x.2.2)=(es.filter fun x=>!seen.contains x.2.2).filter fun x=>!(x.2.2 == e.2.2):=by
  rw [List.filter_filter]
  congr 1
  funext x
  rw [Bool.eq_iff_iff]
  simp
  constructor
  ·rintro⟨h1,h2⟩;exact⟨h2,h1⟩
  ·rintro⟨h1,h2⟩;exact⟨h2,h1⟩
 rw [h1,List.length_filter_lt_length_iff_exists]
 exact⟨e,List.mem_filter.2 ⟨he,by simpa using hn⟩,by simp⟩
theorem parents58 {h:Hp} {n cb:Nat} {u vp:AV} {ms:List Nat} {ancs:List (List Int)} {ps:List Int} (hcb:hb h cb=some (.cell [u] 86 false)) (hcn:cb < n) (hu:Sl h n 1 u ms.length (ms.flatMap mapC)) (hml:ms.length=ancs.length) (hms:∀ j (h1:j < ms.length) (h2:j < ancs.length),ms[j] < n/\MapIs intK h ms[j] ancs[j]) (hp:Sl h n 1 vp ps.length (ps.flatMap intC)) (hpl:ps.length<=1000) (hal:ancs.length<=1000) :
  Fn E 62 [.ptr cb 0,vp] h n fun r h' n'=>Gr h n h' n'/\((ppE ps ancs≠0/\r=.tup [.nilm,.int .i64 (ppE ps ancs)])\/(ppE ps ancs=0/\n < n'/\∃ keys,r=.tup [.map n,.int .i64 0]/\MapIs intK h' n keys/\KeysOf ps ancs keys)):=by
 refine Fn.of code62 (by decide) rfl fun Q cs hq=>?_
 show SW E Q 62 [(r0,.ptr cb 0),(r1,vp)] _ _ _ _
 have hbad:∀ (e:Int) (g:Hp) (m:Nat) (R:List (Path × AV)) (todo:List AItem),e=ppE ps ancs->e≠0->Gr h n g m->look R r4=some .nilm->look R r5=some (.int .i64 e)->SW E Q 62 R (.code .ret::todo) cs g m:=fun e g m R todo he h0 hE q4 q5=>SW.ret code62 ⟨_,q4,_,q5,hq _ _ _ ⟨hE,.inl ⟨he ▸ h0,by rw [<- he];rfl⟩⟩⟩
 have loop3:ppE ps ancs=0->∀ keys:List Int,(∀ x,x ∈ keys ↔ ∃ p ∈ ps,x ∈ ancs.getD p.toNat [])->∀ (k j:Nat) (g:Hp) (m:Nat) (keys3:List Int),j+k=ps.length->Gr h n g m->n < m->MapIs intK g n keys3->(∀ x,x ∈ keys3 ↔ x ∈ keys\/x ∈ ps.take j)->∀ R,look R r6=some (.map n)->look R r69=some vp->look R r70=some (.int .i64 (ps.length:Int))->look R r71=some (.int .i64 (j:Int))->SW E Q 62 R [.code c62x28,.inLoop c62x28,.inBlock 6,.code (.seq (.reg c62x29) .ret)] cs g m:=by
  intro hpp keys hkeys k
  induction k with
  | zero =>
   intro j g m keys3 hj hE hnm hM hk3 R q6 q69 q70 q71
   refine SW.sub (R':=[(r6,.map n),(r69,vp),(r70,.int .i64 (ps.length:Int)),(r71,.int .i64 (j:Int))]) (by simp [q6,q69,q70,q71]) ?_
   repeat' first|refine SW.a rfl ?_|refine SW.reg ?_|refine SO.nil ?_|refine SO.a rfl ?_|refine SO.cF rfl (by omega) ?_|fail
   refine SW.ret code62 ⟨_,rfl,_,rfl,hq _ _ _ ⟨hE,.inr ⟨hpp,hnm,keys3,rfl,hM,fun x=>?_⟩⟩⟩
   rw [hk3,hkeys,show j=ps.length by omega,List.take_length]
   exact Or.comm
  | succ k ih =>
   intro j g m keys3 hj hE hnm hM hk3 R q6 q69 q70 q71
   have hj':j < ps.length:=by omega
   have hp1:=hp.ext hE
   refine SW.sub (R':=[(r6,.map n),(r69,vp),(r70,.int .i64 (ps.length:Int)),(r71,.int .i64 (j:Int))]) (by simp [q6,q69,q70,q71]) ?_
   repeat' first|refine SO.idxOf (fun _=>rfl) rfl rfl rfl rfl hp1 hj' (fun a o hp=>?_)|refine SO.load0 rfl rfl rfl (by assumption) (Gr.refl _ _) ?_|refine SW.a rfl ?_|refine SW.reg ?_|refine SO.nil ?_|refine SO.a rfl ?_|refine SO.cT rfl (by omega) ?_|fail
   refine SO.mapSet intKey ps[j] rfl rfl rfl rfl hM (fun g1 ks1 hM1 hmem1 hk1=>?_)
   repeat' first|refine SW.a rfl ?_|refine SW.reg ?_|refine SO.nil ?_|refine SO.a rfl ?_|refine SO.add rfl rfl rfl rfl (by omega) ?_|fail
   refine SW.again ?_
   refine ih (j+1) g1 m _ (by omega) (hE.keep (Nat.le_refl _) hk1) hnm hM1 (fun x=>?_) _ rfl rfl rfl rfl
   rw [hmem1,hk3,List.take_succ_eq_append_getElem hj']
   rw [List.mem_append,List.mem_singleton,or_assoc]
 have loop2:firstE (par1 ps ancs.length) ps.length 0=0->∀ keys:List Int,(∀ x,x ∈ keys ↔ ∃ p ∈ ps,x ∈ ancs.getD p.toNat [])->∀ (g:Hp) (m:Nat),Gr h n g m->n < m->MapIs intK g n keys->∀ (k j:Nat),j+k=ps.length->(∀ x ∈ ps.take j,x ∉ keys)->∀ R,look R r1=some vp->look R r6=some (.map n)->look R r59=some vp->look R r60=some (.int .i64 (ps.length:Int))->look R r61=some (.int .i64 (j:Int))->SW E Q 62 R [.code c62x22,.inLoop c62x22,.inBlock 4,.code (.seq (.seq (.reg c62x23) (.block 6 (.loop c62x28))) (.seq (.reg c62x29) .ret))] cs g m:=by
  intro hz keys hkeys g m hE hnm hM k
  have hp1:=hp.ext hE
  have hpp:ppE ps ancs=if (ps.any fun x=>ps.any fun p=>(ancs.getD p.toNat []).contains x)=true then 1 else 0:=by rw [ppE,hz,if_neg (by simp)]
  have hin:∀ x,x ∈ keys ↔ (ps.any fun p=>(ancs.getD p.toNat []).contains x)=true:=fun x=>by rw [hkeys,List.any_eq_true];simp
  induction k with
  | zero =>
   intro j hj hno R q1 q6 q59 q60 q61
   rw [show j=ps.length by omega,List.take_length] at hno
   refine SW.sub (R':=[(r1,vp),(r6,.map n),(r59,vp),(r60,.int .i64 (ps.length:Int)),(r61,.int .i64 (j:Int))]) (by simp [q1,q6,q59,q60,q61]) ?_
   repeat' first|refine SW.a rfl ?_|refine SW.reg ?_|refine SO.nil ?_|refine SO.a rfl ?_|refine SO.lenSl rfl rfl rfl (by assumption) ?_|refine SO.cF rfl (by omega) ?_|fail
   refine SW.loop ?_
   have h0:ppE ps ancs=0:=by
    rw [hpp,if_neg]
    intro ha
    obtain⟨x,hx,h1⟩:=List.any_eq_true.1 ha
    exact hno x hx ((hin x).2 h1)
   exact loop3 h0 keys hkeys ps.length 0 g m keys (by omega) hE hnm hM (fun x=>by simp) _ rfl rfl rfl rfl
  | succ k ih =>
   intro j hj hno R q1 q6 q59 q60 q61
   have hj':j < ps.length:=by omega
   refine SW.sub (R':=[(r1,vp),(r6,.map n),(r59,vp),(r60,.int .i64 (ps.length:Int)),(r61,.int .i64 (j:Int))]) (by simp [q1,q6,q59,q60,q61]) ?_
   repeat' first|refine SO.idxOf (fun _=>rfl) rfl rfl rfl rfl hp1 hj' (fun a o hp=>?_)|refine SO.load0 rfl rfl rfl (by assumption) (Gr.refl _ _) ?_|refine SW.a rfl ?_|refine SW.reg ?_|refine SO.nil ?_|refine SO.a rfl ?_|refine SO.cT rfl (by omega) ?_|fail
   by_cases hc:ps[j] ∈ keys
   case pos =>
    refine SO.lookupT intKey ps[j] rfl rfl rfl rfl hM hc ?_
    repeat' first|refine SW.a rfl ?_|refine SW.reg ?_|refine SO.nil ?_|refine SO.a rfl ?_
    refine hbad 1 _ _ _ _ ?_ (by simp) hE rfl rfl
    rw [hpp,if_pos (List.any_eq_true.2 ⟨ps[j],List.getElem_mem hj',(hin _).1 hc⟩)]
   case neg =>
    refine SO.lookupF intKey ps[j] rfl rfl rfl rfl hM hc ?_
    repeat' first|refine SW.a rfl ?_|refine SW.reg ?_|refine SO.nil ?_|refine SO.a rfl ?_|refine SO.add rfl rfl rfl rfl (by omega) ?_|fail
    refine SW.again ?_
    refine ih (j+1) (by omega) (fun x hx=>?_) _ rfl rfl rfl rfl rfl
    rw [List.take_succ_eq_append_getElem hj'] at hx
    rcases List.mem_append.1 hx with hx|hx
    ·exact hno x hx
    ·simp at hx;subst hx;exact hc
 have loop1:∀ (k i:Nat) (g:Hp) (m:Nat) (keys:List Int),i+k=ps.length->firstE (par1 ps ancs.length) ps.length 0=firstE (par1 ps ancs.length) k i->Gr h n g m->n < m->MapIs intK g n keys->(∀ x,x ∈ keys ↔ ∃ p ∈ ps.take i,x ∈ ancs.getD p.toNat [])->∀ R,look R r0=some (.ptr cb 0)->look R r1=some vp->look R r6=some (.map n)->look R r15=some vp->look R r16=some (.int .i64 (ps.length:Int))->look R r17=some (.int .i64 (i:Int))->SW E Q 62 R [.code c62x15,.inLoop c62x15,.inBlock 0,.code rest58] cs g m:=by
  intro k
  induction k with
  | zero =>
   intro i g m keys hi he hE hnm hM hkeys R q0 q1 q6 q15 q16 q17
   rw [show i=ps.length by omega,List.take_length] at hkeys
   have hp1:=hp.ext hE
   refine SW.sub (R':=[(r0,.ptr cb 0),(r1,vp),(r6,.map n),(r15,vp),(r16,.int .i64 (ps.length:Int)),(r17,.int .i64 (i:Int))]) (by simp [q0,q1,q6,q15,q16,q17]) ?_
   repeat' first|refine SW.a rfl ?_|refine SW.reg ?_|refine SO.nil ?_|refine SO.a rfl ?_|refine SO.lenSl rfl rfl rfl (by assumption) ?_|refine SO.cF rfl (by omega) ?_|fail
   refine SW.loop ?_
   exact loop2 (by rw [he];rfl) keys hkeys g m hE hnm hM ps.length 0 (by omega) (by simp) _ rfl rfl rfl rfl rfl
  | succ k ih =>
   intro i g m keys hi he hE hnm hM hkeys R q0 q1 q6 q15 q16 q17
   have hi':i < ps.length:=by omega
   have hat:ps[i]?=some ps[i]:=List.getElem?_eq_getElem hi'
   have hp1:=hp.ext hE
   have hu1:=hu.ext hE
   have hcb1:hb g cb=some (.cell [u] 86 false):=by rw [hE.same cb hcn];exact hcb
   have lE:=hE.le
   simp only [firstE] at he
   refine SW.sub (R':=[(r0,.ptr cb 0),(r1,vp),(r6,.map n),(r15,vp),(r16,.int .i64 (ps.length:Int)),(r17,.int .i64 (i:Int))]) (by simp [q0,q1,q6,q15,q16,q17]) ?_
   have hgo:par1 ps ancs.length i=0->0<=ps[i]->ps[i] < ancs.length->∀ R,look R r0=some (.ptr cb 0)->look R r1=some vp->look R r6=some (.map n)->look R r15=some vp->look R r16=some (.int .i64 (ps.length:Int))->look R r17=some (.int .i64 (i:Int))->look R r47=some u->look R r48=some (.int .i64 ps[i])->SO E Q 62 .ops R [⟨(some r49),none,[.r r47,.r r48],(.idxSlA 1)⟩,⟨(some r50),none,[.r r49],.loadC⟩,⟨(some r51),none,[.r r50],.rangeMap⟩] [.code (.block 2 (.loop c62x13)),.inBlock 1,.code (.reg c62x14),.inLoop c62x15,.inBlock 0,.code rest58] cs g m:=by
    intro hz h0 hN R q0 q1 q6 q15 q16 q17 q47 q48
    refine SO.forget (R':=[(r0,.ptr cb 0),(r1,vp),(r6,.map n),(r15,vp),(r16,.int .i64 (ps.length:Int)),(r17,.int .i64 (i:Int)),(r47,u),(r48,.int .i64 ps[i])]) (by simp [q0,q1,q6,q15,q16,q17,q47,q48]) ?_
    rw [hz,if_neg (by simp)] at he
    have hxm:ps[i].toNat < ms.length:=by omega
    have hxa:ps[i].toNat < ancs.length:=by omega
    obtain⟨hMn,es,hes,hEs⟩:=hms ps[i].toNat hxm hxa
    refine SO.idxAt ps[i].toNat (fun _=>rfl) rfl rfl rfl rfl (by omega) hu1 hxm (fun a o hp'=>?_)
    refine SO.load0 rfl rfl rfl hp' (Gr.refl _ _) ?_
    have hesg:hb g ms[ps[i].toNat]=some (.map es es.length):=by rw [hE.same _ hMn];exact hes
    refine SO.rangeM rfl rfl rfl hesg (fun g1 hit hE1=>?_)
    have hgetD:ancs.getD ps[i].toNat []=ancs[ps[i].toNat]:=by simp [List.getD,List.getElem?_eq_getElem hxa]
    have hkey:∀ e ∈ es,∃ y ∈ ancs[ps[i].toNat],e.1=intK y:=fun e he=>by
     have:e.1 ∈ es.map (·.1):=List.mem_map_of_mem he
     rw [hEs.keys] at this
     obtain⟨y,h1,h2⟩:=List.mem_map.1 this
     exact⟨y,h1,h2.symm⟩
    have hkey':∀ y ∈ ancs[ps[i].toNat],∃ e ∈ es,e.1=intK y:=fun y hy=>by
     have:intK y ∈ ancs[ps[i].toNat].map intK:=List.mem_map_of_mem hy
     rw [<- hEs.keys] at this
     obtain⟨e,h1,h2⟩:=List.mem_map.1 this
     exact⟨e,h1,h2⟩
    have inner:∀ (c:Nat) (seen:List Nat) (g2:Hp) (keys2:List Int),(es.filter fun x=>!seen.contains x.2.2).length<=c->Gr h n g2 (m+1)->hb g2 m=some (.miter (some ms[ps[i].toNat]) es.length seen es.length)->MapIs intK g2 n keys2->(∀ y,y ∈ keys2 ↔ y ∈ keys\/∃ e ∈ es,e.2.2 ∈ seen/\e.1=intK y)->∀ R,look R r0=some (.ptr cb 0)->look R r1=some vp->look R r6=some (.map n)->look R r15=some vp->look R r16=some (.int .i64 (ps.length:Int))->look R r17=some (.int .i64 (i:Int))->look R r51=some (.ptr m 0)->SW E Q 62 R [.code c62x13,.inLoop c62x13,.inBlock 2,.inBlock 1,.code (.reg c62x14),.inLoop c62x15,.inBlock 0,.code rest58] cs g2 (m+1):=by
     intro c
     induction c with
     | zero =>
      intro seen g2 keys2 hc hE2 hit2 hM2 hk2 R q0 q1 q6 q15 q16 q17 q51
      have hes2:hb g2 ms[ps[i].toNat]=some (.map es es.length):=by rw [hE2.same _ hMn];exact hes
      refine SW.sub (R':=[(r0,.ptr cb 0),(r1,vp),(r6,.map n),(r15,vp),(r16,.int .i64 (ps.length:Int)),(r17,.int .i64 (i:Int)),(r51,.ptr m 0)]) (by simp [q0,q1,q6,q15,q16,q17,q51]) ?_
      refine SW.seq ?_
      refine SW.reg ?_
      refine SO.nextM rfl rfl rfl hit2 hes2 hEs.lt (fun hall=>?_) (fun e he' hns g3 _ _=>?_)
      ·repeat' first|refine SW.a rfl ?_|refine SW.reg ?_|refine SO.nil ?_|refine SO.a rfl ?_|refine SO.add rfl rfl rfl rfl (by omega) ?_|fail
       refine SW.again ?_
       refine ih (i+1) g2 (m+1) keys2 (by omega) he hE2 (by omega) hM2 (fun y=>?_) _ rfl rfl rfl rfl rfl rfl
       rw [hk2,hkeys,List.take_succ_eq_append_getElem hi']
       constructor
       ·rintro (⟨p,h1,h2⟩ |⟨e,h1,_,h3⟩)
        ·exact⟨p,List.mem_append.2 (.inl h1),h2⟩
        ·obtain⟨y',h4,h5⟩:=hkey e h1
         rw [h3] at h5
         simp at h5;subst h5
         exact⟨ps[i],List.mem_append.2 (.inr (List.mem_singleton.2 rfl)),by rw [hgetD];exact h4⟩
       ·rintro⟨p,h1,h2⟩
        rcases List.mem_append.1 h1 with h1|h1
        ·exact .inl ⟨p,h1,h2⟩
        ·rw [List.mem_singleton] at h1;subst h1
         rw [hgetD] at h2
         obtain⟨e,h3,h4⟩:=hkey' y h2
         exact .inr ⟨e,h3,hall e h3,h4⟩
      ·have:=filter_less he' hns
       omega
     | succ c ihc =>
      intro seen g2 keys2 hc hE2 hit2 hM2 hk2 R q0 q1 q6 q15 q16 q17 q51
      have hes2:hb g2 ms[ps[i].toNat]=some (.map es es.length):=by rw [hE2.same _ hMn];exact hes
      refine SW.sub (R':=[(r0,.ptr cb 0),(r1,vp),(r6,.map n),(r15,vp),(r16,.int .i64 (ps.length:Int)),(r17,.int .i64 (i:Int)),(r51,.ptr m 0)]) (by simp [q0,q1,q6,q15,q16,q17,q51]) ?_
      refine SW.seq ?_
      refine SW.reg ?_
      refine SO.nextM rfl rfl rfl hit2 hes2 hEs.lt (fun hall=>?_) (fun e he' hns g3 hit3 hk3=>?_)
      ·repeat' first|refine SW.a rfl ?_|refine SW.reg ?_|refine SO.nil ?_|refine SO.a rfl ?_|refine SO.add rfl rfl rfl rfl (by omega) ?_|fail
       refine SW.again ?_
       refine ih (i+1) g2 (m+1) keys2 (by omega) he hE2 (by omega) hM2 (fun y=>?_) _ rfl rfl rfl rfl rfl rfl
       rw [hk2,hkeys,List.take_succ_eq_append_getElem hi']
       constructor
       ·rintro (⟨p,h1,h2⟩ |⟨e,h1,_,h3⟩)
        ·exact⟨p,List.mem_append.2 (.inl h1),h2⟩
        ·obtain⟨y',h4,h5⟩:=hkey e h1
         rw [h3] at h5
         simp at h5;subst h5
         exact⟨ps[i],List.mem_append.2 (.inr (List.mem_singleton.2 rfl)),by rw [hgetD];exact h4⟩
       ·rintro⟨p,h1,h2⟩
        rcases List.mem_append.1 h1 with h1|h1
        ·exact .inl ⟨p,h1,h2⟩
        ·rw [List.mem_singleton] at h1;subst h1
         rw [hgetD] at h2
         obtain⟨e,h3,h4⟩:=hkey' y h2
         exact .inr ⟨e,h3,hall e h3,h4⟩
      ·obtain⟨y,hy,hey⟩:=hkey e he'
       have hE3:Gr h n g3 (m+1):=hE2.keep (by omega) hk3
       have hes3:hb g3 ms[ps[i].toNat]=some (.map es es.length):=by rw [hE3.same _ hMn];exact hes
       have hM3:MapIs intK g3 n keys2:=hM2.same (hk3 n (by omega))
       have hfl:=filter_less he' hns
       rw [hey]
       repeat' first|refine SO.entryM rfl rfl rfl hit3 hes3 (find_stamp hEs.nodup he') ?_|refine SW.a rfl ?_|refine SW.reg ?_|refine SO.nil ?_|refine SO.a rfl ?_
       rw [hey]
       skip
       refine SO.mapSet intKey y rfl rfl rfl rfl hM3 (fun g4 ks4 hM4 hmem4 hk4=>?_)
       repeat' first|refine SW.a rfl ?_|refine SO.nil ?_
       refine SW.again ?_
       refine ihc (seen++[e.2.2]) g4 _ (by omega) (hE3.keep (Nat.le_refl _) hk4) (by rw [hk4 m (by omega)];exact hit3) hM4 (fun z=>?_) _ rfl rfl rfl rfl rfl rfl rfl
       rw [hmem4,hk2]
       constructor
       ·rintro ((h1 |⟨e',h1,h2,h3⟩)|rfl)
        ·exact .inl h1
        ·exact .inr ⟨e',h1,by simp [h2],h3⟩
        ·exact .inr ⟨e,he',by simp,hey⟩
       ·rintro (h1 |⟨e',h1,h2,h3⟩)
        ·exact .inl (.inl h1)
        ·rcases List.mem_append.1 h2 with h2|h2
         ·exact .inl (.inr ⟨e',h1,h2,h3⟩)
         ·simp at h2
          have h5:=find_stamp hEs.nodup h1
          rw [h2,find_stamp hEs.nodup he'] at h5
          simp at h5
          rw [<- h5,hey] at h3
          simp at h3
          exact .inr h3.symm
    have hM1:MapIs intK g1 n keys:=hM.same (hE1.same n hnm)
    repeat' first|refine SW.a rfl ?_|refine SO.nil ?_
    refine SW.loop ?_
    exact inner es.length [] g1 keys (List.length_filter_le _ _) (hE.trans hE1) hit hM1 (fun y=>by simp) _ rfl rfl rfl rfl rfl rfl rfl
   repeat' first|refine SO.idxOf (fun _=>rfl) rfl rfl rfl rfl hp1 hi' (fun a o hp=>?_)|refine SO.idxAt (i - 1) (fun _=>rfl) rfl rfl rfl rfl (by omega) hp1 (by omega) (fun a o hp=>?_)|refine SO.load0 rfl rfl rfl (by assumption) (Gr.refl _ _) ?_|refine SO.loadV rfl rfl rfl hcb1 rfl ?_|refine SW.a rfl ?_|refine SW.reg ?_|refine SO.nil ?_|refine SO.a rfl ?_|refine SO.lenSl rfl rfl rfl (by assumption) ?_|refine SO.cT rfl (by omega) ?_|refine SO.sub rfl rfl rfl rfl (by omega) ?_|refine SO.lss rfl rfl rfl rfl (fun _=>?_) (fun _=>?_)|refine SO.leq rfl rfl rfl rfl (fun _=>?_) (fun _=>?_)|refine SO.gtr rfl rfl rfl rfl (fun _=>?_) (fun _=>?_)|refine SO.geq rfl rfl rfl rfl (fun _=>?_) (fun _=>?_)
   ·rename_i h0
    have h1:par1 ps ancs.length i=2:=by simp only [par1,hat];rw [if_pos (.inl h0)]
    refine hbad 2 _ _ _ _ ?_ (by simp) hE rfl rfl
    rw [ppE,he,h1];simp
   ·rename_i h0 hge
    have h1:par1 ps ancs.length i=2:=by simp only [par1,hat];rw [if_pos (.inr (by omega))]
    refine hbad 2 _ _ _ _ ?_ (by simp) hE rfl rfl
    rw [ppE,he,h1];simp
   ·rename_i h0 hge hpos hle
    have h1:par1 ps ancs.length i=9:=by
     simp only [par1,hat]
     rw [if_neg (by omega)]
     cases i with
     | zero=>omega
     | succ j =>
      have hj:ps[j]?=some ps[j]:=List.getElem?_eq_getElem (by omega)
      have hle':ps[j+1]<=ps[j]:=by simpa using hle
      simp only [hj]
      rw [if_pos (decide_eq_true hle')]
    refine hbad 9 _ _ _ _ ?_ (by simp) hE rfl rfl
    rw [ppE,he,h1];simp
   ·rename_i h0 hge hpos hlt
    have h1:par1 ps ancs.length i=0:=by
     simp only [par1,hat]
     rw [if_neg (by omega)]
     cases i with
     | zero=>omega
     | succ j =>
      have hj:ps[j]?=some ps[j]:=List.getElem?_eq_getElem (by omega)
      have hlt':ps[j] < ps[j+1]:=by simpa using hlt
      simp only [hj]
      rw [if_neg (by simp;omega)]
    exact hgo h1 (by omega) (by omega) _ rfl rfl rfl rfl rfl rfl rfl rfl
   ·rename_i h0 hge hpos
    have h1:par1 ps ancs.length i=0:=by
     simp only [par1,hat]
     rw [if_neg (by omega)]
     cases i with
     | zero=>rfl
     | succ j=>omega
    exact hgo h1 (by omega) (by omega) _ rfl rfl rfl rfl rfl rfl rfl rfl
 repeat' first|refine SO.mkMap intK rfl rfl (fun h1 hM1 hE1=>?_)|refine SW.a rfl ?_|refine SW.reg ?_|refine SO.nil ?_|refine SO.a rfl ?_|refine SO.lenSl rfl rfl rfl (by assumption) ?_|fail
 refine SW.loop ?_
 exact loop1 ps.length 0 h1 (n+1) [] (by omega) rfl hE1 (by omega) hM1 (by simp) _ rfl rfl rfl rfl rfl rfl
set_option maxRecDepth 100000
set_option maxHeartbeats 8000000
inductive Anc (rs:List SnapR) (i:Nat):Nat->Prop where
 | base {y:Nat}:(y:Int) ∈ parAt rs i->Anc rs i y
 | step {k y:Nat}:Anc rs i k->(y:Int) ∈ parAt rs k->Anc rs i y
theorem par_range {rs:List SnapR} {i:Nat} (h:firstE (par1 (parAt rs i) i) (parAt rs i).length 0=0):∀ p ∈ parAt rs i,0<=p/\p <(i:Int):=by
 intro p hp
 obtain⟨j,hj,rfl⟩:=List.getElem_of_mem hp
 have:=firstE_zero _ _ h j (by omega) (by omega)
 simp only [par1,List.getElem?_eq_getElem hj] at this
 split at this
 ·simp at this
 ·omega
theorem parents_zero {rs:List SnapR} {i:Nat} (h:parentsE rs i=0):firstE (par1 (parAt rs i) i) (parAt rs i).length 0=0:=by
 rw [parentsE] at h
 by_cases h1:firstE (par1 (parAt rs i) i) (parAt rs i).length 0=0
 ·exact h1
 ·rw [if_pos h1] at h;exact h
def Down (rs:List SnapR) (i:Nat):Prop:=∀ k,k<=i->∀ p ∈ parAt rs k,0<=p/\p <(k:Int)
theorem Anc.lt {rs:List SnapR} {i y:Nat} (hd:Down rs i) (h:Anc rs i y):y < i:=by
 induction h with
 | base h=>have:=hd i (Nat.le_refl _) _ h;omega
 | step hk h ih=>have:=hd _ (by omega) _ h;omega
theorem ancGo_mem {rs:List SnapR} {i:Nat} (hd:Down rs i):∀ (j:Nat) (acc:List Nat),j<=i->(∀ y ∈ acc,Anc rs i y/\j<=y)->(∀ y,j<=y->Anc rs i y->y ∈ acc)->∀ y,y ∈ ancGo rs i j acc ↔ Anc rs i y
 | 0,acc,_,h1,h2,y=>⟨fun h=>(h1 y h).1,fun h=>h2 y (Nat.zero_le _) h⟩
 | j+1,acc,hj,h1,h2,y=>by
  have key:isAnc rs i j acc=true ↔ Anc rs i j:=by
   simp only [isAnc,Bool.or_eq_true,List.any_eq_true,List.contains_iff_mem]
   constructor
   ·rintro (h |⟨k,hk,h⟩)
    ·exact .base h
    ·exact .step (h1 k hk).1 h
   ·intro h
    cases h with
    | base h=>exact .inl h
    | @step k _ hk h =>
     have hlt:=hk.lt hd
     have:=hd k (by omega) _ h
     exact .inr ⟨k,h2 k (by omega) hk,h⟩
  simp only [ancGo]
  by_cases ha:isAnc rs i j acc=true
  ·rw [if_pos ha]
   refine ancGo_mem hd j (acc++[j]) (by omega) (fun z hz=>?_) (fun z hz hza=>?_) y
   ·rcases List.mem_append.1 hz with hz|hz
    ·exact⟨(h1 z hz).1,by have:=(h1 z hz).2;omega⟩
    ·simp at hz;subst hz;exact⟨key.1 ha,Nat.le_refl _⟩
   ·by_cases hzj:z=j
    ·simp [hzj]
    ·simp [h2 z (by omega) hza]
  ·rw [if_neg ha]
   refine ancGo_mem hd j acc (by omega) (fun z hz=>⟨(h1 z hz).1,by have:=(h1 z hz).2;omega⟩) (fun z hz hza=>?_) y
   by_cases hzj:z=j
   ·subst hzj;exact absurd (key.2 hza) ha
   ·exact h2 z (by omega) hza
theorem ancOf_mem {rs:List SnapR} {i:Nat} (hd:Down rs i) (y:Nat):y ∈ ancOf rs i ↔ Anc rs i y :=
 ancGo_mem hd i [] (Nat.le_refl _) (by simp) (fun y hy h=>by have:=h.lt hd;omega) y
theorem Anc.trans {rs:List SnapR} {i p y:Nat} (h1:(p:Int) ∈ parAt rs i) (h:Anc rs p y):Anc rs i y:=by
 induction h with
 | base h=>exact .step (.base h1) h
 | step _ h ih=>exact .step ih h
theorem Anc.split {rs:List SnapR} {i y:Nat} (h:Anc rs i y):(y:Int) ∈ parAt rs i\/∃ p:Nat,(p:Int) ∈ parAt rs i/\Anc rs p y:=by
 induction h with
 | base h=>exact .inl h
 | @step k y hk h ih =>
  rcases ih with ih |⟨p,h1,h2⟩
  ·exact .inr ⟨k,ih,.base h⟩
  ·exact .inr ⟨p,h1,.step h2 h⟩
def AncsOk (rs:List SnapR) (ancs:List (List Int)):Prop:=∀ j (hj:j < ancs.length),∀ x,x ∈ ancs[j] ↔ ∃ y:Nat,x=(y:Int)/\Anc rs j y
theorem asc_of {ps:List Int} {N:Nat} (h:firstE (par1 ps N) ps.length 0=0):∀ i,i<=ps.length->(ps.take i).Pairwise (· < ·)
 | 0,_=>by simp
 | i+1,hi=>by
  have hi':i < ps.length:=by omega
  have ih:=asc_of h i (by omega)
  rw [List.take_succ_eq_append_getElem hi',List.pairwise_append]
  refine⟨ih,by simp,?_⟩
  intro x hx y hy
  simp at hy;subst hy
  cases i with
  | zero=>simp at hx
  | succ j =>
   have hj:j < ps.length:=by omega
   have h0:=firstE_zero _ _ h (j+1) (by omega) (by omega)
   have hord:ps[j] < ps[j+1]:=by
    simp only [par1,List.getElem?_eq_getElem hi',List.getElem?_eq_getElem hj] at h0
    split at h0
    ·simp at h0
    ·split at h0
     ·simp at h0
     ·rename_i h1 h2
      simp at h2
      exact h2
   rw [List.take_succ_eq_append_getElem hj] at hx ih
   rcases List.mem_append.1 hx with hx|hx
   ·rw [List.pairwise_append] at ih
    exact Int.lt_trans (ih.2.2 x hx ps[j] (by simp)) hord
   ·simp at hx;subst hx;exact hord
theorem firstE_one {e:Nat->Int} (he:∀ k,e k=0\/e k=1):∀ n i,(firstE e n i=1/\∃ k,i<=k/\k < i+n/\e k=1)\/(firstE e n i=0/\∀ k,i<=k->k < i+n->e k=0)
 | 0,i=>.inr ⟨rfl,fun k h1 h2=>by omega⟩
 | n+1,i=>by
  simp only [firstE]
  rcases he i with h0|h0
  ·rw [if_neg (by simpa using h0)]
   rcases firstE_one he n (i+1) with ⟨h1,k,h2,h3,h4⟩ |⟨h1,h2⟩
   ·exact .inl ⟨h1,k,by omega,by omega,h4⟩
   ·refine .inr ⟨h1,fun k h3 h4=>?_⟩
    by_cases hk:k=i
    ·rw [hk];exact h0
    ·exact h2 k (by omega) (by omega)
  ·rw [if_pos (by rw [h0];simp)]
   exact .inl ⟨h0,i,Nat.le_refl _,by omega,h0⟩
theorem ppE_parents {rs:List SnapR} {ancs:List (List Int)} (hA:AncsOk rs ancs) (hv:∀ j,j < ancs.length->parentsE rs j=0):ppE (parAt rs ancs.length) ancs=parentsE rs ancs.length:=by
 generalize hi:ancs.length=i at *
 rw [ppE,parentsE,hi]
 by_cases hz:firstE (par1 (parAt rs i) i) (parAt rs i).length 0=0
 case neg=>rw [if_pos hz,if_pos hz]
 rw [if_neg (c:=firstE (par1 (parAt rs i) i) (parAt rs i).length 0≠0) (fun h=>h hz),if_neg (c:=firstE (par1 (parAt rs i) i) (parAt rs i).length 0≠0) (fun h=>h hz)]
 have hpr:=par_range hz
 have hdown:∀ j,j < i->Down rs j:=fun j hj k hk=>par_range (parents_zero (hv k (by omega)))
 generalize hps:parAt rs i=ps at *
 have hasc:=asc_of hz ps.length (Nat.le_refl _)
 rw [List.take_length] at hasc
 have hget:∀ p ∈ ps,∀ x,x ∈ ancs.getD p.toNat [] ↔ ∃ y:Nat,x=(y:Int)/\Anc rs p.toNat y:=fun p hp x=>by
  have:=hpr p hp
  have h1:p.toNat < ancs.length:=by omega
  rw [<- hA p.toNat h1 x]
  simp [List.getD,List.getElem?_eq_getElem h1]
 have hanc:∀ p ∈ ps,∀ x,((ancOf rs p.toNat).map Int.ofNat).contains x=true ↔ ∃ y:Nat,x=(y:Int)/\Anc rs p.toNat y:=fun p hp x=>by
  have:=hpr p hp
  rw [List.contains_iff_mem,List.mem_map]
  constructor
  ·rintro⟨y,h1,h2⟩;exact⟨y,h2.symm,(ancOf_mem (hdown _ (by omega)) y).1 h1⟩
  ·rintro⟨y,h1,h2⟩;exact⟨y,(ancOf_mem (hdown _ (by omega)) y).2 h2,h1.symm⟩
 have h01:∀ k,par2 rs ps k=0\/par2 rs ps k=1:=fun k=>by
  unfold par2
  split
  ·exact .inl rfl
  ·split
   ·exact .inr rfl
   ·exact .inl rfl
 rcases firstE_one h01 ps.length 0 with ⟨h1,k,_,hk,h2⟩ |⟨h1,h2⟩
 ·rw [h1,if_pos]
  have hk':k < ps.length:=by omega
  simp only [par2,List.getElem?_eq_getElem hk'] at h2
  split at h2
  ·rename_i ha
   obtain⟨y,hy,hc⟩:=List.any_eq_true.1 ha
   have hmem:=List.getElem_mem hk'
   refine List.any_eq_true.2 ⟨y,List.mem_of_mem_take hy,List.any_eq_true.2 ⟨ps[k],hmem,?_⟩⟩
   rw [List.contains_iff_mem]
   exact (hget _ hmem y).2 ((hanc _ hmem y).1 hc)
  ·simp at h2
 ·rw [h1,if_neg]
  intro ha
  obtain⟨x,hx,h3⟩:=List.any_eq_true.1 ha
  obtain⟨p,hp,h4⟩:=List.any_eq_true.1 h3
  rw [List.contains_iff_mem] at h4
  have h5:=(hget p hp x).1 h4
  obtain⟨k,hk,rfl⟩:=List.getElem_of_mem hp
  obtain⟨j,hj,rfl⟩:=List.getElem_of_mem hx
  have hlt:ps[j] < ps[k]:=by
   obtain⟨y,h6,h7⟩:=h5
   have:=hpr _ (List.getElem_mem hk)
   have:=h7.lt (hdown _ (by omega))
   omega
  have hjk:j < k:=by
   rcases Nat.lt_trichotomy j k with h|h|h
   ·exact h
   ·subst h;omega
   ·have:=List.pairwise_iff_getElem.1 hasc k j hk hj h;omega
  have h8:=h2 k (by omega) (by omega)
  simp only [par2,List.getElem?_eq_getElem hk] at h8
  rw [if_pos] at h8
  ·simp at h8
  ·refine List.any_eq_true.2 ⟨ps[j],?_,(hanc _ (List.getElem_mem hk) _).2 h5⟩
   rw [List.mem_take_iff_getElem]
   exact⟨j,by omega,rfl⟩
theorem keys_anc {rs:List SnapR} {ancs:List (List Int)} {keys:List Int} (hA:AncsOk rs ancs) (hz:parentsE rs ancs.length=0) (hK:KeysOf (parAt rs ancs.length) ancs keys):AncsOk rs (ancs++[keys]):=by
 have hpr:=par_range (parents_zero hz)
 intro j hj x
 by_cases hlt:j < ancs.length
 ·rw [List.getElem_append_left hlt];exact hA j hlt x
 ·have hj':j=ancs.length:=by simp at hj;omega
  subst hj'
  rw [List.getElem_append_right (Nat.le_refl _)]
  simp only [Nat.sub_self,List.getElem_cons_zero]
  rw [hK]
  have hget:∀ p ∈ parAt rs ancs.length,∀ x,x ∈ ancs.getD p.toNat [] ↔ ∃ y:Nat,x=(y:Int)/\Anc rs p.toNat y:=fun p hp x=>by
   have:=hpr p hp
   have h1:p.toNat < ancs.length:=by omega
   rw [<- hA p.toNat h1 x]
   simp [List.getD,List.getElem?_eq_getElem h1]
  constructor
  ·rintro (h |⟨p,hp,h⟩)
   ·have:=hpr x h
    exact⟨x.toNat,by omega,.base (by rw [Int.toNat_of_nonneg this.1];exact h)⟩
   ·obtain⟨y,h1,h2⟩:=(hget p hp x).1 h
    have:=hpr p hp
    exact⟨y,h1,h2.trans (by rw [Int.toNat_of_nonneg this.1];exact hp)⟩
  ·rintro⟨y,rfl,h⟩
   rcases h.split with h |⟨p,h1,h2⟩
   ·exact .inl h
   ·exact .inr ⟨(p:Int),h1,(hget _ h1 _).2 ⟨y,rfl,by simpa using h2⟩⟩
def Chk (g:Hp) (m cb:Nat) (ancs:List (List Int)):Prop:=∃ (u:AV) (fo:Option Nat) (ms:List Nat),hb g cb=some (.cell [u] 86 false)/\cb < m/\Own g (cb+1) m 1 144 u fo (ms.flatMap mapC)/\ms.length=ancs.length/\∀ j (h1:j < ms.length) (h2:j < ancs.length),cb < ms[j]/\ms[j] < m/\MapIs intK g ms[j] ancs[j]
theorem Chk.ext {g g':Hp} {m m' cb:Nat} {ancs:List (List Int)} (hC:Chk g m cb ancs) (e:Gr g m g' m'):Chk g' m' cb ancs:=by
 obtain⟨u,fo,ms,h1,h2,h3,h4,h5⟩:=hC
 refine⟨u,fo,ms,by rw [e.same cb h2];exact h1,by have:=e.le;omega,h3.keep e.le fun b _ hb0=>e.same b hb0,h4,fun j k1 k2=>?_⟩
 obtain⟨l1,l2,l3⟩:=h5 j k1 k2
 exact⟨l1,by have:=e.le;omega,l3.same (e.same _ l2)⟩
theorem Chk.lt {g:Hp} {m cb:Nat} {ancs:List (List Int)} (hC:Chk g m cb ancs):cb < m:=by
 obtain⟨_,_,_,_,h,_⟩:=hC;exact h
def nextE (s:SN) (ancs:List (List Int)):Int:=if ppE s.parents ancs≠0 then ppE s.parents ancs else if nameOk s.author=false then 5 else if 1000 < s.message.length then 4 else if s.time < 0\/1099511627776 < s.time then 2 else treeE s.files
theorem next32 {h:Hp} {n cb:Nat} {ancs:List (List Int)} (r:SnapR) (hC:Chk h n cb ancs) (hp:Sl h cb 1 r.vp r.s.parents.length (r.s.parents.flatMap intC)) (hf:Sl h cb 4 r.vf r.s.files.length (r.s.files.flatMap pfC)) (hok:SNok r.s) (hpl:r.s.parents.length<=1000) (hal:ancs.length<=1000) :
  Fn E 33 [.ptr cb 0,.agg (srC r)] h n fun v h' n'=>v=.int .i64 (nextE r.s ancs)/\n<=n'/\(∀ b,b < cb->hb h' b=hb h b)/\(nextE r.s ancs=0->∃ keys,Chk h' n' cb (ancs++[keys])/\KeysOf r.s.parents ancs keys):=by
 refine Fn.of code33 (by decide) rfl fun Q cs hq=>?_
 show SW E Q 33 [(r0,.ptr cb 0),(r1,.agg (srC r))] _ _ _ _
 have hcn:=hC.lt
 have hbad:∀ (e:Int) (g:Hp) (m:Nat) (R:List (Path × AV)) (todo:List AItem),e=nextE r.s ancs->e≠0->Gr h n g m->look R r4=some (.int .i64 e)->SW E Q 33 R (.code .ret::todo) cs g m:=fun e g m R todo he h0 hE q4=>SW.ret code33 ⟨_,q4,hq _ _ _ ⟨by rw [<- he];rfl,hE.le,fun b hb0=>hE.same b (by omega),fun hz=>absurd (he.trans hz) h0⟩⟩
 repeat' first|refine SO.box rfl rfl rfl (by simp) (fun h1 hc1 hE1=>?_)|refine SO.loadV rfl rfl rfl (by assumption) rfl ?_|refine SW.a rfl ?_|refine SW.reg ?_|refine SO.nil ?_|refine SO.a rfl ?_
 have hC1:=hC.ext hE1
 obtain⟨u,fo,ms,k1,k2,k3,k4,k5⟩:=hC1
 have hu:Sl h1 (n+1) 1 u ms.length (ms.flatMap mapC):=k3.sl (flatMap_length (esz:=1) (fun _=>rfl) ms) (by decide)
 refine SO.callG rfl rfl rfl (parents58 k1 k2 hu k4 (fun j j1 j2=>⟨(k5 j j1 j2).2.1,(k5 j j1 j2).2.2⟩) (hp.ext (hE1.less (by omega))) hpl hal) ?_
 rintro _ h2 n2 ⟨hE2,⟨hne,rfl⟩ |⟨hz,hnn,keys,rfl,hM,hK⟩⟩
 ·repeat' first|refine SW.a rfl ?_|refine SW.reg ?_|refine SO.nil ?_|refine SO.a rfl ?_|refine SO.cT rfl (by omega) ?_|fail
  exact hbad _ _ _ _ _ (by rw [nextE,if_pos hne]) hne (hE1.trans hE2) rfl
 have hnE:nextE r.s ancs=if nameOk r.s.author=false then 5 else if 1000 < r.s.message.length then 4 else if r.s.time < 0\/1099511627776 < r.s.time then 2 else treeE r.s.files:=by rw [nextE,hz,if_neg (by simp)]
 have l2:=hE2.le
 have hc2:hb h2 n=some (.cell (srC r) 38 false):=by rw [hE2.same n (by omega)];exact hc1
 repeat' first|refine SO.loadV rfl rfl rfl hc2 rfl ?_|refine SW.a rfl ?_|refine SW.reg ?_|refine SO.nil ?_|refine SO.a rfl ?_|refine SO.cF rfl (by omega) ?_|fail
 refine SO.callG rfl rfl rfl (bridgeName59 r.s.author hok.author) ?_
 rintro _ h3 n3 ⟨rfl,hE3⟩
 have l3:=hE3.le
 have hc3:hb h3 n=some (.cell (srC r) 38 false):=by rw [hE3.same n (by omega)];exact hc2
 have hG:Gr h n h3 n3:=(hE1.trans hE2).trans hE3
 cases hnm:nameOk r.s.author with
 | false =>
  repeat' first|refine SW.a rfl ?_|refine SW.reg ?_|refine SO.nil ?_|refine SO.a rfl ?_
  exact hbad 5 _ _ _ _ (by rw [hnE,hnm];rfl) (by simp) hG rfl
 | true =>
  rw [hnm,if_neg (by simp)] at hnE
  have hmsg:=hok.message
  by_cases hlen:1000 < r.s.message.length
  ·repeat' first|refine SO.loadV rfl rfl rfl hc3 rfl ?_|refine SW.a rfl ?_|refine SW.reg ?_|refine SO.nil ?_|refine SO.a rfl ?_|refine SO.cT rfl (by omega) ?_|fail
   exact hbad 4 _ _ _ _ (by rw [hnE,if_pos hlen]) (by simp) hG rfl
  rw [if_neg hlen] at hnE
  by_cases htm:r.s.time < 0\/1099511627776 < r.s.time
  ·rw [if_pos htm] at hnE
   rcases htm with htm|htm
   ·repeat' first|refine SO.loadV rfl rfl rfl hc3 rfl ?_|refine SW.a rfl ?_|refine SW.reg ?_|refine SO.nil ?_|refine SO.a rfl ?_|refine SO.cT rfl (by omega) ?_|refine SO.cF rfl (by omega) ?_|fail
    exact hbad 2 _ _ _ _ hnE.symm (by simp) hG rfl
   ·repeat' first|refine SO.loadV rfl rfl rfl hc3 rfl ?_|refine SW.a rfl ?_|refine SW.reg ?_|refine SO.nil ?_|refine SO.a rfl ?_|refine SO.cT rfl (by omega) ?_|refine SO.cF rfl (by omega) ?_|fail
    exact hbad 2 _ _ _ _ hnE.symm (by simp) hG rfl
  rw [if_neg htm] at hnE
  have a1:hb h3 cb=some (.cell [u] 86 false):=by rw [hE3.same cb (by omega),hE2.same cb k2];exact k1
  repeat' first|refine SO.loadV rfl rfl rfl hc3 rfl ?_|refine SO.loadV rfl rfl rfl a1 rfl ?_|refine SW.a rfl ?_|refine SW.reg ?_|refine SO.nil ?_|refine SO.a rfl ?_|refine SO.cF rfl (by omega) ?_|fail
  refine SO.bslice rfl rfl rfl (fun k=>rfl) (fun h4 hc4 hE4=>?_)
  have hE24:Gr h1 (n+1) h4 (n3+1):=(hE2.trans hE3).trans hE4
  have ho4:Own h4 (cb+1) (n3+1) 1 144 u fo (ms.flatMap mapC):=k3.keep hE24.le fun b _ hb0=>hE24.same b hb0
  have hx:Sl h4 (n3+1) 1 (.slc n3 0 1 1) 1 (mapC (n+1)):=⟨rfl,.inr ⟨n3,0,1,mapC (n+1),.inl ⟨rfl,Nat.le_refl _⟩,⟨by omega,.inl ⟨_,_,hc4⟩⟩,by simp,rfl⟩⟩
  refine SO.append rfl rfl rfl rfl (by decide) (by decide) ho4 (by omega) hx (by rw [flatMap_length (esz:=1) (fun _=>rfl)];simp;omega) fun v' fo' h5 n5 ho5 hn5 hk5 hf5=>?_
  have hfo:∀ b,b < cb+1->fo≠some b:=fun b hb0 e=>by have:=own_ge8 k3 e;omega
  have a5:hb h5 cb=some (.cell [u] 86 false):=by rw [hk5 cb (by omega) (hfo cb (by omega)),hE4.same cb (by omega)];exact a1
  repeat' refine SO.a rfl ?_
  refine SO.store1 rfl rfl rfl a5 (own_plain8 ho5).1 (own_plain8 ho5).2 (by simp) (fun h6 hc6 hk6=>?_)
  have hlow:∀ b,b < cb->hb h6 b=hb h b:=fun b hb0=>by rw [hk6 b (by omega),hk5 b (by omega) (hfo b (by omega)),hE4.same b (by omega),hG.same b (by omega)]
  have hkeep:∀ b,cb < b->b < n3+1->(∀ lo la,hb h4 b≠some (.fam lo la))->hb h6 b=hb h4 b:=fun b hb1 hb2 hnf=>by
   rw [hk6 b (by omega),hk5 b hb2 ?_]
   intro e'
   subst e'
   obtain⟨lo,la,h7⟩:=own_fam ho4
   exact hnf lo la h7
  have hmap:∀ b ks,cb < b->b < n3+1->MapIs intK h4 b ks->MapIs intK h6 b ks:=fun b ks hb1 hb2 hm=>hm.same (hkeep b hb1 hb2 fun lo la e=>by obtain⟨es,h7,_⟩:=hm;rw [h7] at e;simp at e)
  have hM4:MapIs intK h4 (n+1) keys:=hM.same (by rw [hE4.same (n+1) (by omega),hE3.same (n+1) hnn])
  have hC6:Chk h6 n5 cb (ancs++[keys]):=by
   refine⟨v',fo',ms++[n+1],hc6,by omega,?_,by simp [k4],fun j j1 j2=>?_⟩
   ·rw [List.flatMap_append]
    have:=ho5.keep (h':=h6) (Nat.le_refl _) fun b hb1 _=>hk6 b (by omega)
    simpa using this
   ·by_cases hj:j < ms.length
    ·rw [List.getElem_append_left hj,List.getElem_append_left (by omega)]
     obtain⟨m1,m2,m3⟩:=k5 j hj (by omega)
     exact⟨m1,by omega,hmap _ _ m1 (by omega) (m3.same (hE24.same _ m2))⟩
    ·have hj':j=ms.length:=by simp at j1;omega
     subst hj'
     rw [List.getElem_append_right (Nat.le_refl _),List.getElem_append_right (by omega)]
     simp only [Nat.sub_self,List.getElem_cons_zero,k4]
     exact⟨by omega,by omega,hmap _ _ (by omega) (by omega) hM4⟩
  have hc6':hb h6 n=some (.cell (srC r) 38 false):=by
   have e4:hb h4 n=some (.cell (srC r) 38 false):=by rw [hE4.same n (by omega)];exact hc3
   rw [hkeep n (by omega) (by omega) (fun lo la e=>by rw [e4] at e;simp at e)];exact e4
  repeat' first|refine SO.loadV rfl rfl rfl hc6' rfl ?_|refine SW.a rfl ?_|refine SW.reg ?_|refine SO.nil ?_|refine SO.a rfl ?_
  have hfs6:Sl h6 n5 4 r.vf r.s.files.length (r.s.files.flatMap pfC):=hf.ext ⟨by omega,hlow⟩
  refine SO.callG rfl rfl rfl (checkTree60 hfs6 hok.files hok.pfs) ?_
  rintro _ h7 n7 ⟨rfl,hE7⟩
  have l7:=hE7.le
  repeat' first|refine SO.nil ?_|refine SO.a rfl ?_
  refine SW.ret code33 ⟨_,rfl,hq _ _ _ ⟨by rw [hnE];rfl,by omega,fun b hb0=>?_,fun _=>⟨keys,hC6.ext hE7,hK⟩⟩⟩
  rw [hE7.same b (by omega)];exact hlow b hb0
theorem first18 {h:Hp} {n:Nat} {v:AV} {rs:List SnapR} (hs:Sn h n v rs) (hps:∀ r ∈ rs,r.s.parents.length<=1000):Fn E 15 [v] h n fun r h' n'=>r=.tup [.int .i64 (checkI rs:Int),.int .i64 (checkE rs)]/\Gr h n h' n':=by
 refine Fn.of code15 (by decide) rfl fun Q cs hq=>?_
 show SW E Q 15 [(r0,v)] _ _ _ _
 have hlen:=hs.len
 have hsl:=hs.sl
 have hret:∀ (x e:Int) (h1:Hp) (n1:Nat) (R:List (Path × AV)) (todo:List AItem),x=(checkI rs:Int)->e=checkE rs->Gr h n h1 n1->look R r2=some (.int .i64 x)->look R r3=some (.int .i64 e)->SW E Q 15 R (.code .ret::todo) cs h1 n1:=fun x e h1 n1 R todo hx he hE h2 h3=>SW.ret code15 ⟨_,h2,_,h3,hq _ _ _ ⟨by rw [hx,he];rfl,hE⟩⟩
 by_cases hl:400 < rs.length
 ·repeat' first|refine SW.a rfl ?_|refine SW.reg ?_|refine SO.nil ?_|refine SO.a rfl ?_|refine SO.lenSl rfl rfl rfl (by assumption) ?_|refine SO.cT rfl (by omega) ?_|fail
  exact hret 0 4 _ _ _ _ (by simp [checkI,hl]) (by simp [checkE,hl]) (Gr.refl _ _) rfl rfl
 have hck:checkE rs=firstE (snapE rs) rs.length 0:=by rw [checkE,if_neg hl]
 have hci:checkI rs=firstI (snapE rs) rs.length 0:=by rw [checkI,if_neg hl]
 have loop:∀ (k i:Nat) (g:Hp) (m:Nat) (ancs:List (List Int)),i+k=rs.length->ancs.length=i->checkI rs=firstI (snapE rs) k i->checkE rs=firstE (snapE rs) k i->(∀ j,j < i->parentsE rs j=0)->AncsOk rs ancs->Chk g m n ancs->(∀ b,b < n->hb g b=hb h b)->∀ R,look R r4=some (.ptr n 0)->look R r11=some v->look R r12=some (.int .i64 (rs.length:Int))->look R r13=some (.int .i64 (i:Int))->SW E Q 15 R [.code c15x11,.inLoop c15x11,.inBlock 0,.code (.seq (.reg c15x12) .ret)] cs g m:=by
  intro k
  induction k with
  | zero =>
   intro i g m ancs hi hal hx he hv hA hC hlow R q4 q11 q12 q13
   refine SW.sub (R':=[(r4,.ptr n 0),(r11,v),(r12,.int .i64 (rs.length:Int)),(r13,.int .i64 (i:Int))]) (by simp [q4,q11,q12,q13]) ?_
   repeat' first|refine SW.a rfl ?_|refine SW.reg ?_|refine SO.nil ?_|refine SO.a rfl ?_|refine SO.cF rfl (by omega) ?_|fail
   exact hret 0 0 _ _ _ _ (by rw [hx];rfl) (by rw [he];rfl) ⟨by have:=hC.lt;omega,hlow⟩ rfl rfl
  | succ k ih =>
   intro i g m ancs hi hal hx he hv hA hC hlow R q4 q11 q12 q13
   have hi':i < rs.length:=by omega
   have hnm:=hC.lt
   have hG0:Gr h n g n:=⟨Nat.le_refl _,hlow⟩
   have hGm:Gr h n g m:=⟨by omega,hlow⟩
   have hs1:=hs.ext hG0
   have hslm:=(hs.ext hGm).sl
   have hmem:=List.getElem_mem hi'
   have b1:=hps rs[i] hmem
   simp only [firstE] at he
   simp only [firstI] at hx
   have hat:rs[i]?=some rs[i]:=List.getElem?_eq_getElem hi'
   have hpa:=parAt_get hi'
   subst hal
   have hpp:=ppE_parents hA hv
   rw [hpa] at hpp
   have hne:nextE rs[ancs.length].s ancs=snapE rs ancs.length:=by simp only [nextE,snapE,hat,hpp]
   refine SW.sub (R':=[(r4,.ptr n 0),(r11,v),(r12,.int .i64 (rs.length:Int)),(r13,.int .i64 (ancs.length:Int))]) (by simp [q4,q11,q12,q13]) ?_
   repeat' first|refine SO.idxOf (fun _=>rfl) rfl rfl rfl rfl hslm hi' (fun a o hp=>?_)|refine SO.loadA rfl rfl rfl (by assumption) (Gr.refl _ _) rfl ?_|refine SO.alloc rfl rfl (fun g2 hc2 hE2=>?_)|refine SW.a rfl ?_|refine SW.reg ?_|refine SO.nil ?_|refine SO.a rfl ?_|refine SO.cT rfl (by omega) ?_|fail
   refine SO.storeAll rfl rfl rfl hc2 rfl rfl (fun g3 hc3 hk3=>?_)
   have hE3:Gr g m g3 (m+1):=hE2.keep (Nat.le_refl _) hk3
   have hG3:Gr h n g3 n:=⟨Nat.le_refl _,fun b hb0=>by rw [hE3.same b (by omega)];exact hlow b hb0⟩
   have hs3:=hs.ext hG3
   repeat' first|refine SO.loadVA rfl rfl rfl hc3 rfl ?_|refine SW.a rfl ?_|refine SW.reg ?_|refine SO.nil ?_
   refine SO.callG rfl rfl rfl (next32 rs[ancs.length] (hC.ext hE3) (hs3.ps _ hmem) (hs3.fs _ hmem) (hs.ok _ hmem) (by omega) (by omega)) ?_
   rintro _ g4 m4 ⟨rfl,hn4,hlow4,hnext⟩
   have hlow':∀ b,b < n->hb g4 b=hb h b:=fun b hb0=>by rw [hlow4 b hb0];exact hG3.same b hb0
   rw [hne] at hnext ⊢
   by_cases h0:snapE rs ancs.length=0
   ·obtain⟨keys,hC4,hK⟩:=hnext h0
    have hpz:parentsE rs ancs.length=0:=by
     simp only [snapE,hat] at h0
     by_cases h1:parentsE rs ancs.length=0
     ·exact h1
     ·rw [if_pos h1] at h0;exact h0
    rw [<- hpa] at hK
    rw [h0] at hx he ⊢
    repeat' first|refine SW.a rfl ?_|refine SW.reg ?_|refine SO.nil ?_|refine SO.a rfl ?_|refine SO.cF rfl (by omega) ?_|refine SO.add rfl rfl rfl rfl (by omega) ?_|fail
    refine SW.again ?_
    refine ih (ancs.length+1) g4 m4 (ancs++[keys]) (by omega) (by simp) (by rw [hx,if_neg (by simp)]) (by rw [he,if_neg (by simp)]) (fun j hj=>?_) (keys_anc hA hpz hK) hC4 hlow' _ rfl rfl rfl rfl
    by_cases hj':j=ancs.length
    ·rw [hj'];exact hpz
    ·exact hv j (by omega)
   ·repeat' first|refine SW.a rfl ?_|refine SW.reg ?_|refine SO.nil ?_|refine SO.a rfl ?_|refine SO.cT rfl (by omega) ?_|fail
    exact hret _ _ _ _ _ _ (by rw [hx,if_pos h0]) (by rw [he,if_pos h0]) ⟨by omega,hlow'⟩ rfl rfl
 repeat' first|refine SO.alloc rfl rfl (fun h1 hc1 hE1=>?_)|refine SW.a rfl ?_|refine SW.reg ?_|refine SO.nil ?_|refine SO.a rfl ?_|refine SO.lenSl rfl rfl rfl (by assumption) ?_|refine SO.cF rfl (by omega) ?_|fail
 refine SW.loop ?_
 refine loop rs.length 0 h1 (n+1) [] (by omega) rfl hci hck (fun j hj=>by omega) (fun j hj=>by simp at hj) ?_ (fun b hb0=>hE1.same b hb0) _ rfl rfl rfl rfl
 exact⟨.nils,none,[],hc1,by omega,.inl ⟨rfl,rfl,rfl⟩,rfl,fun j h1=>by simp at h1⟩
theorem check8 {h:Hp} {n:Nat} {v:AV} {rs:List SnapR} (hs:Sn h n v rs) (hps:∀ r ∈ rs,r.s.parents.length<=1000):Fn E 11 [v] h n fun r h' n'=>r=.int .i64 (checkE rs)/\Gr h n h' n':=by
 refine Fn.of code11 (by decide) rfl fun Q cs hq=>?_
 show SW E Q 11 [(r0,v)] _ _ _ _
 repeat' first|refine SW.a rfl ?_|refine SW.reg ?_|refine SO.nil ?_|refine SO.a rfl ?_
 refine SO.callG rfl rfl rfl (first18 hs hps) ?_
 rintro _ h1 n1 ⟨rfl,hE⟩
 repeat' first|refine SW.a rfl ?_|refine SW.reg ?_|refine SO.nil ?_|refine SO.a rfl ?_
 exact SW.ret code11 ⟨_,rfl,hq _ _ _ ⟨rfl,hE⟩⟩
end Go.Ev
