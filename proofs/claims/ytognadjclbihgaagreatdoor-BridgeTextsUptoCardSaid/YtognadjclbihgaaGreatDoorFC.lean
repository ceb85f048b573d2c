/- Contracts: quiltlaw59.Great. -/
import Derived.Test.YtognadjclbihgaaGreatDoorE6
import Derived.Test.YtognadjclbihgaaGreatDoorFB
set_option linter.all false
namespace Go.Ev
set_option maxRecDepth 100000
set_option maxHeartbeats 4000000
structure SN where
 parents:List Int
 author:List UInt8
 message:List UInt8
 time:Int
 files:List PF
structure SnapR where
 vp:AV
 vf:AV
 s:SN
abbrev srC (r:SnapR):List AV:=[r.vp,strOf r.s.author,strOf r.s.message,.int .i64 r.s.time,r.vf]
structure SNok (s:SN):Prop where
 parents:s.parents.length<=4000000000000000000
 author:s.author.length<=4000000000000000000
 message:s.message.length<=4000000000000000000
 files:s.files.length<=4000000000000000000
 bulk:bulk s.files<=4000000000000000000
structure Sn (h:Hp) (n:Nat) (v:AV) (rs:List SnapR):Prop where
 sl:Sl h n 5 v rs.length (rs.flatMap srC)
 ps:∀ r ∈ rs,Sl h n 1 r.vp r.s.parents.length (r.s.parents.flatMap intC)
 fs:∀ r ∈ rs,Sl h n 4 r.vf r.s.files.length (r.s.files.flatMap pfC)
 ok:∀ r ∈ rs,SNok r.s
 len:rs.length<=4000000000000000000
theorem Sn.ext {h h':Hp} {n n':Nat} {v:AV} {rs:List SnapR} (s:Sn h n v rs) (e:Gr h n h' n'):Sn h' n' v rs :=
 ⟨s.sl.ext e,fun r hr=>(s.ps r hr).ext e,fun r hr=>(s.fs r hr).ext e,s.ok,s.len⟩
theorem bulk_mem {fs:List PF} {f:PF} (hf:f ∈ fs):(f.data.length+f.path.length:Int)<=bulk fs:=by
 induction fs with
 | nil=>simp at hf
 | cons g fs ih =>
  have h0:=bulk_nonneg fs
  have e:bulk (g::fs)=(g.data.length+g.path.length)+bulk fs:=by simp [bulk]
  rcases List.mem_cons.1 hf with rfl|hf
  ·omega
  ·have:=ih hf;omega
theorem SNok.pfs {s:SN} (h:SNok s):PFs s.files:=fun f hf=>by
 have:=bulk_mem hf
 have:=h.bulk
 exact⟨by unfold Small;omega,by unfold Small;omega⟩
def nls (fs:List PF):Nat:=(fs.map fun f=>f.data.countP (· == 10)).sum
theorem nls_le (fs:List PF):(nls fs:Int)<=bulk fs:=by
 induction fs with
 | nil=>simp [nls,bulk]
 | cons g fs ih =>
  have h1:g.data.countP (· == 10)<=g.data.length:=List.countP_le_length
  have e:bulk (g::fs)=(g.data.length+g.path.length)+bulk fs:=by simp [bulk]
  have e':nls (g::fs)=g.data.countP (· == 10)+nls fs:=by simp [nls]
  omega
theorem nls_snoc (fs:List PF) (f:PF):nls (fs++[f])=nls fs+f.data.countP (· == 10):=by simp [nls]
def greatSnap (s:SN):Bool:=decide (8 < s.parents.length)||(decide (60 < s.author.length)||(decide (1001 < s.message.length)||(greatTree s.files||decide (40 < nls s.files))))
def greatAll (rs:List SnapR):Bool:=rs.any (fun r=>greatSnap r.s)||decide (6 < rs.length)
theorem great4 {h:Hp} {n:Nat} {v:AV} {rs:List SnapR} (hs:Sn h n v rs):Fn E 9 [v] h n fun r h' n'=>r=.bool (greatAll rs)/\h'=h/\n'=n:=by
 refine Fn.of code9 (by decide) rfl fun Q cs hq=>?_
 show SW E Q 9 [(r0,v)] _ _ _ _
 have hl:=hs.len
 have hret:∀ (b:Bool) (R:List (Path × AV)) (todo:List AItem),b=greatAll rs->look R r2=some (.bool b)->SW E Q 9 R (.code .ret::todo) cs h n:=fun b R todo hb hR=>SW.ret code9 ⟨_,hR,hq _ _ _ ⟨by rw [hb];rfl,rfl,rfl⟩⟩
 have hbad:∀ r ∈ rs,greatSnap r.s=true->true=greatAll rs:=fun r hr hg=>by
  have:rs.any (fun r=>greatSnap r.s)=true:=List.any_eq_true.2 ⟨r,hr,hg⟩
  simp [greatAll,this]
 have loop:∀ (k i:Nat),i+k=rs.length->(rs.take i).any (fun r=>greatSnap r.s)=false->∀ R,look R r0=some v->look R r3=some (.int .i64 i)->SW E Q 9 R [.code c9x19,.inLoop c9x19,.inBlock 0,.code (.seq (.reg c9x20) .ret)] cs h n:=by
  intro k
  induction k with
  | zero =>
   intro i hi hall R q0 q3
   rw [show i=rs.length by omega,List.take_length] at hall
   refine SW.sub (R':=[(r0,v),(r3,.int .i64 i)]) (by simp [q0,q3]) ?_
   have hsl:=hs.sl
   repeat' first|refine SW.a rfl ?_|refine SW.reg ?_|refine SO.nil ?_|refine SO.a rfl ?_|refine SO.lenSl rfl rfl rfl (by assumption) ?_|refine SO.cF rfl (by omega) ?_|refine SO.gtr rfl rfl rfl rfl (fun _=>?_) (fun _=>?_)
   all_goals (refine hret _ _ _ ?_ rfl;unfold greatAll;rw [hall];simp;omega)
  | succ k ih =>
   intro i hi hall R q0 q3
   have hi':i < rs.length:=by omega
   have hmem:=List.getElem_mem hi'
   have hsl:=hs.sl
   have hps:=hs.ps rs[i] hmem
   have hfs:=hs.fs rs[i] hmem
   have hok:=hs.ok rs[i] hmem
   have k1:=hok.parents
   have k2:=hok.author
   have k3:=hok.message
   have k4:=hok.files
   have k5:=hok.bulk
   refine SW.sub (R':=[(r0,v),(r3,.int .i64 i)]) (by simp [q0,q3]) ?_
   have htree:8 >= rs[i].s.parents.length->60 >= rs[i].s.author.length->1001 >= rs[i].s.message.length->∀ R,look R r0=some v->look R r3=some (.int .i64 i)->look R r38=some (.bool false)->look R r43=some rs[i].vf ->
     SO E Q 9 .ops R [⟨(some r44),(some (r38,false)),[.r r43],(.call 20)⟩,⟨(some r45),none,[.r r38,.c (.bool true),.r r44],.pick⟩] [.code (.cond (.r r45) (.seq (.reg c9x4) .ret) .skip),.code (.seq (.reg c9x5) (.seq (.seq (.reg c9x6) (.block 2 (.loop c9x15))) (.seq (.reg c9x16) (.cond (.r r85) (.seq (.reg c9x17) .ret) .skip)))),.inBlock 1,.code (.reg c9x18),.inLoop c9x19,.inBlock 0,.code (.seq (.reg c9x20) .ret)] cs h n:=by
    intro g1 g2 g3 R q0 q3 q38 q43
    refine SO.forget (R':=[(r0,v),(r3,.int .i64 i),(r38,.bool false),(r43,rs[i].vf)]) (by simp [q0,q3,q38,q43]) ?_
    refine SO.callG rfl rfl rfl (greatTree10 hfs hok.files hok.bulk) ?_
    rintro _ h' n' ⟨rfl,rfl,rfl⟩
    cases hgt:greatTree rs[i].s.files with
    | true =>
     repeat' first|refine SW.a rfl ?_|refine SW.reg ?_|refine SO.nil ?_|refine SO.a rfl ?_
     exact hret true _ _ (hbad _ hmem (by simp [greatSnap,hgt])) rfl
    | false =>
     have hb4:bulk rs[i].s.files<=4000:=by
      simp only [greatTree,Bool.or_eq_false_iff,decide_eq_false_iff_not] at hgt
      omega
     have hg:greatSnap rs[i].s=decide (40 < nls rs[i].s.files):=by
      unfold greatSnap
      rw [hgt,decide_eq_false (by omega),decide_eq_false (by omega),decide_eq_false (by omega)]
      simp
     have hnl:=nls_le rs[i].s.files
     have loop2:∀ (k2 j:Nat),j+k2=rs[i].s.files.length->∀ R,look R r0=some v->look R r3=some (.int .i64 i)->look R r4=some (.int .i64 (nls (rs[i].s.files.take j)))->look R r5=some (.int .i64 j)->SW E Q 9 R [.code c9x15,.inLoop c9x15,.inBlock 2,.code (.seq (.reg c9x16) (.cond (.r r85) (.seq (.reg c9x17) .ret) .skip)),.inBlock 1,.code (.reg c9x18),.inLoop c9x19,.inBlock 0,.code (.seq (.reg c9x20) .ret)] cs h' n':=by
      intro k2
      induction k2 with
      | zero =>
       intro j hj R q0 q3 q4 q5
       rw [show j=rs[i].s.files.length by omega,List.take_length] at q4
       refine SW.sub (R':=[(r0,v),(r3,.int .i64 i),(r4,.int .i64 (nls rs[i].s.files)),(r5,.int .i64 j)]) (by simp [q0,q3,q4,q5]) ?_
       repeat' first|refine SO.idxOf (fun _=>rfl) rfl rfl rfl rfl hsl hi' (fun a o hp=>?_)|refine SO.loadF rfl rfl rfl (by assumption) (Gr.refl _ _) rfl ?_|refine SW.a rfl ?_|refine SW.reg ?_|refine SO.nil ?_|refine SO.a rfl ?_|refine SO.lenSl rfl rfl rfl (by assumption) ?_|refine SO.cF rfl (by omega) ?_|refine SO.add rfl rfl rfl rfl (by omega) ?_|refine SO.gtr rfl rfl rfl rfl (fun _=>?_) (fun _=>?_)
       ·rename_i hgt40
        exact hret true _ _ (hbad _ hmem (by rw [hg];simp;omega)) rfl
       ·rename_i hle40
        refine SW.again ?_
        refine ih (i+1) (by omega) ?_ _ rfl rfl
        rw [List.take_succ_eq_append_getElem hi',List.any_append,hall]
        simp [hg];omega
      | succ k2 ih2 =>
       intro j hj R q0 q3 q4 q5
       have hj':j < rs[i].s.files.length:=by omega
       have e1:nls (rs[i].s.files.take (j+1))=nls (rs[i].s.files.take j)+rs[i].s.files[j].data.countP (· == 10):=by rw [List.take_succ_eq_append_getElem hj',nls_snoc]
       have e2:=nls_le (rs[i].s.files.take (j+1))
       have e3:=bulk_take_le rs[i].s.files (j+1)
       refine SW.sub (R':=[(r0,v),(r3,.int .i64 i),(r4,.int .i64 (nls (rs[i].s.files.take j))),(r5,.int .i64 j)]) (by simp [q0,q3,q4,q5]) ?_
       have hdl:=bulk_mem (List.getElem_mem hj')
       have loop3:∀ (k3 c:Nat),c+k3=rs[i].s.files[j].data.length->∀ R,look R r0=some v->look R r3=some (.int .i64 i)->look R r4=some (.int .i64 (nls (rs[i].s.files.take j)+(rs[i].s.files[j].data.take c).countP (· == 10):Nat))->look R r5=some (.int .i64 j)->look R r6=some (.int .i64 c)->SW E Q 9 R [.code c9x13,.inLoop c9x13,.inBlock 4,.inBlock 3,.code (.reg c9x14),.inLoop c9x15,.inBlock 2,.code (.seq (.reg c9x16) (.cond (.r r85) (.seq (.reg c9x17) .ret) .skip)),.inBlock 1,.code (.reg c9x18),.inLoop c9x19,.inBlock 0,.code (.seq (.reg c9x20) .ret)] cs h' n':=by
        intro k3
        induction k3 with
        | zero =>
         intro c hc R q0 q3 q4 q5 q6
         rw [show c=rs[i].s.files[j].data.length by omega,List.take_length,<- e1] at q4
         refine SW.sub (R':=[(r0,v),(r3,.int .i64 i),(r4,.int .i64 (nls (rs[i].s.files.take (j+1)))),(r5,.int .i64 j),(r6,.int .i64 c)]) (by simp [q0,q3,q4,q5,q6]) ?_
         repeat' first|refine SO.idxOf (fun _=>rfl) rfl rfl rfl rfl hsl hi' (fun a o hp=>?_)|refine SO.idxOf (fun _=>rfl) rfl rfl rfl rfl hfs hj' (fun a o hp=>?_)|refine SO.loadF rfl rfl rfl (by assumption) (Gr.refl _ _) rfl ?_|refine SW.a rfl ?_|refine SW.reg ?_|refine SO.nil ?_|refine SO.a rfl ?_|refine SO.cF rfl (by omega) ?_|refine SO.add rfl rfl rfl rfl (by omega) ?_|fail
         refine SW.again ?_
         exact ih2 (j+1) (by omega) _ rfl rfl rfl rfl
        | succ k3 ih3 =>
         intro c hc R q0 q3 q4 q5 q6
         have hc':c < rs[i].s.files[j].data.length:=by omega
         have e4:(rs[i].s.files[j].data.take (c+1)).countP (· == 10)=(rs[i].s.files[j].data.take c).countP (· == 10)+(if rs[i].s.files[j].data[c]=10 then 1 else 0):=by
          rw [List.take_succ_eq_append_getElem hc',List.countP_append]
          simp [List.countP_cons]
         have e5:(rs[i].s.files[j].data.take c).countP (· == 10)<=rs[i].s.files[j].data.length:=Nat.le_trans List.countP_le_length (by rw [List.length_take];omega)
         have e6:(nls (rs[i].s.files.take j):Int)<=4000:=by omega
         refine SW.sub (R':=[(r0,v),(r3,.int .i64 i),(r4,.int .i64 (nls (rs[i].s.files.take j)+(rs[i].s.files[j].data.take c).countP (· == 10):Nat)),(r5,.int .i64 j),(r6,.int .i64 c)]) (by simp [q0,q3,q4,q5,q6]) ?_
         repeat' first|refine SO.idxOf (fun _=>rfl) rfl rfl rfl rfl hsl hi' (fun a o hp=>?_)|refine SO.idxOf (fun _=>rfl) rfl rfl rfl rfl hfs hj' (fun a o hp=>?_)|refine SO.loadF rfl rfl rfl (by assumption) (Gr.refl _ _) rfl ?_|refine SW.a rfl ?_|refine SW.reg ?_|refine SO.nil ?_|refine SO.a rfl ?_|refine SO.idxStr rfl rfl rfl rfl (by omega) ?_|refine SO.cT rfl (by omega) ?_|refine SO.add rfl rfl rfl rfl (by omega) ?_|refine SO.eqi rfl rfl rfl rfl (fun _=>?_) (fun _=>?_)
         ·rename_i heq
          have heq':rs[i].s.files[j].data[c]=10:=UInt8.toNat_inj.1 (by show rs[i].s.files[j].data[c].toNat=10;omega)
          refine SW.again ?_
          refine ih3 (c+1) (by omega) _ rfl rfl ?_ rfl rfl
          rw [e4,if_pos heq']
          simp only [look]
          norm_cast
         ·rename_i hne
          have hne':rs[i].s.files[j].data[c]≠10:=fun e=>hne (by rw [e];rfl)
          refine SW.again ?_
          refine ih3 (c+1) (by omega) _ rfl rfl ?_ rfl rfl
          rw [e4,if_neg hne']
          rfl
       repeat' first|refine SO.idxOf (fun _=>rfl) rfl rfl rfl rfl hsl hi' (fun a o hp=>?_)|refine SO.loadF rfl rfl rfl (by assumption) (Gr.refl _ _) rfl ?_|refine SW.a rfl ?_|refine SW.reg ?_|refine SO.nil ?_|refine SO.a rfl ?_|refine SO.lenSl rfl rfl rfl (by assumption) ?_|refine SO.cT rfl (by omega) ?_|fail
       refine SW.loop ?_
       exact loop3 rs[i].s.files[j].data.length 0 (by omega) _ rfl rfl (by simp;rfl) rfl rfl
     repeat' first|refine SW.a rfl ?_|refine SW.reg ?_|refine SO.nil ?_|refine SO.a rfl ?_
     refine SW.loop ?_
     exact loop2 rs[i].s.files.length 0 (by omega) _ rfl rfl rfl rfl
   repeat' first|refine SO.idxOf (fun _=>rfl) rfl rfl rfl rfl hsl hi' (fun a o hp=>?_)|refine SO.loadF rfl rfl rfl (by assumption) (Gr.refl _ _) rfl ?_|refine SW.a rfl ?_|refine SW.reg ?_|refine SO.nil ?_|refine SO.a rfl ?_|refine SO.lenSl rfl rfl rfl (by assumption) ?_|refine SO.cT rfl (by omega) ?_|refine SO.gtr rfl rfl rfl rfl (fun _=>?_) (fun _=>?_)
   ·rename_i hh
    exact hret true _ _ (hbad _ hmem (by simp [greatSnap];omega)) rfl
   ·exact hret true _ _ (hbad _ hmem (by simp [greatSnap];omega)) rfl
   ·exact hret true _ _ (hbad _ hmem (by simp [greatSnap];omega)) rfl
   ·exact htree (by omega) (by omega) (by omega) _ rfl rfl rfl rfl
 repeat' first|refine SW.a rfl ?_|refine SW.reg ?_|refine SO.nil ?_|refine SO.a rfl ?_
 refine SW.loop ?_
 exact loop rs.length 0 (by omega) (by simp) _ rfl rfl
set_option maxRecDepth 100000
set_option maxHeartbeats 4000000
def parAt (rs:List SnapR) (k:Nat):List Int:=match rs[k]? with|some r=>r.s.parents|none=>[]
theorem parAt_get {rs:List SnapR} {k:Nat} (hk:k < rs.length):parAt rs k=rs[k].s.parents:=by simp [parAt,List.getElem?_eq_getElem hk]
def isAnc (rs:List SnapR) (i j:Nat) (acc:List Nat):Bool:=(parAt rs i).contains (j:Int)||acc.any fun k=>(parAt rs k).contains (j:Int)
def ancGo (rs:List SnapR) (i:Nat):Nat->List Nat->List Nat
 | 0,acc=>acc
 | j+1,acc=>ancGo rs i j (if isAnc rs i j acc=true then acc++[j] else acc)
def ancOf (rs:List SnapR) (i:Nat):List Nat:=ancGo rs i i []
def par1 (ps:List Int) (i:Nat) (k:Nat):Int:=match ps[k]? with
 | none=>0
 | some x=>if x < 0\/(i:Int)<=x then 2 else if (match k with|0=>false|m+1=>match ps[m]? with|some y=>decide (x<=y)|none=>false)=true then 9 else 0
def par2 (rs:List SnapR) (ps:List Int) (k:Nat):Int:=match ps[k]? with
 | none=>0
 | some x=>if (ps.take k).any (fun y=>((ancOf rs x.toNat).map Int.ofNat).contains y)=true then 1 else 0
def parentsE (rs:List SnapR) (i:Nat):Int:=if firstE (par1 (parAt rs i) i) (parAt rs i).length 0≠0 then firstE (par1 (parAt rs i) i) (parAt rs i).length 0 else firstE (par2 rs (parAt rs i)) (parAt rs i).length 0
end Go.Ev
