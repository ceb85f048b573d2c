/- Contracts: quiltlaw59.Great. -/
import Derived.Test.YtognadjclbihgaaGreatDoorE6
import Derived.Test.YtognadjclbihgaaGreatDoorFB
set_option linter.all false
namespace Go.Ev
set_option maxRecDepth 100000
set_option maxHeartbeats 4000000
structure SN where
 parents:List Int
 author:List UInt8
 message:List UInt8
 time:Int
 files:List PF
structure SnapR where
 vp:AV
 vf:AV
 s:SN
abbrev srC (r:SnapR):List AV:=[r.vp,strOf r.s.author,strOf r.s.message,.int .i64 r.s.time,r.vf]
structure SNok (s:SN):Prop where
 parents:s.parents.length<=4000000000000000000
 author:s.author.length<=4000000000000000000
 message:s.message.length<=4000000000000000000
 files:s.files.length<=4000000000000000000
 bulk:bulk s.files<=4000000000000000000
structure Sn (h:Hp) (n:Nat) (v:AV) (rs:List SnapR):Prop where
 sl:Sl h n 5 v rs.length (rs.flatMap srC)
 ps:∀ r ∈ rs,Sl h n 1 r.vp r.s.parents.length (r.s.parents.flatMap intC)
 fs:∀ r ∈ rs,Sl h n 4 r.vf r.s.files.length (r.s.files.flatMap pfC)
 ok:∀ r ∈ rs,SNok r.s
 len:rs.length<=4000000000000000000
theorem Sn.ext {h h':Hp} {n n':Nat} {v:AV} {rs:List SnapR} (s:Sn h n v rs) (e:Gr h n h' n'):Sn h' n' v rs :=
 ⟨s.sl.ext e,fun r hr=>(s.ps r hr).ext e,fun r hr=>(s.fs r hr).ext e,s.ok,s.len⟩
theorem bulk_mem {fs:List PF} {f:PF} (hf:f ∈ fs):(f.data.length+f.path.length:Int)<=bulk fs:=by
 induction fs with
 | nil=>simp at hf
 | cons g fs ih =>
  have h0:=bulk_nonneg fs
  have e:bulk (g::fs)=(g.data.length+g.path.length)+bulk fs:=by simp [bulk]
  rcases List.mem_cons.1 hf with rfl|hf
  ·omega
  ·have:=ih hf;omega
theorem SNok.pfs {s:SN} (h:SNok s):PFs s.files:=fun f hf=>by
 have:=bulk_mem hf
 have:=h.bulk
 exact⟨by unfold Small;omega,by unfold Small;omega⟩
set_option maxRecDepth 100000
set_option maxHeartbeats 4000000
def parAt (rs:List SnapR) (k:Nat):List Int:=match rs[k]? with|some r=>r.s.parents|none=>[]
theorem parAt_get {rs:List SnapR} {k:Nat} (hk:k < rs.length):parAt rs k=rs[k].s.parents:=by simp [parAt,List.getElem?_eq_getElem hk]
abbrev natC (k:Nat):List AV:=[.int .i64 (k:Int)]
def isAnc (rs:List SnapR) (i j:Nat) (acc:List Nat):Bool:=(parAt rs i).contains (j:Int)||acc.any fun k=>(parAt rs k).contains (j:Int)
def ancGo (rs:List SnapR) (i:Nat):Nat->List Nat->List Nat
 | 0,acc=>acc
 | j+1,acc=>ancGo rs i j (if isAnc rs i j acc=true then acc++[j] else acc)
def ancOf (rs:List SnapR) (i:Nat):List Nat:=ancGo rs i i []
theorem ancGo_length (rs:List SnapR) (i:Nat):∀ (j:Nat) (acc:List Nat),(ancGo rs i j acc).length<=acc.length+j
 | 0,acc=>Nat.le_refl _
 | j+1,acc=>by
  simp only [ancGo]
  have:=ancGo_length rs i j (if isAnc rs i j acc=true then acc++[j] else acc)
  split at this<;>simp_all<;>omega
theorem ancestors102 {h:Hp} {n:Nat} {v:AV} {rs:List SnapR} (hs:Sn h n v rs) (hl:rs.length<=400) (i:Nat) (hi:i < rs.length):Fn E 117 [v,.int .i64 i] h n fun r h' n'=>Sl h' n' 1 r (ancOf rs i).length ((ancOf rs i).flatMap natC)/\Gr h n h' n':=by
 refine Fn.of code117 (by decide) rfl fun Q cs hq=>?_
 show SW E Q 117 [(r0,v),(r1,.int .i64 i)] _ _ _ _
 have loop:∀ (j:Nat) (acc:List Nat) (u:AV) (fo:Option Nat) (h1:Hp) (n1:Nat),j<=i->(∀ x ∈ acc,x < rs.length)->acc.length+j<=i->ancOf rs i=ancGo rs i j acc->Own h1 n n1 1 3 u fo (acc.flatMap natC)->Gr h n h1 n1 ->
   ∀ R,look R r0=some v->look R r1=some (.int .i64 i)->look R r5=some u->look R r6=some (.int .i64 ((j:Int) - 1))->SW E Q 117 R [.code c117x13,.inLoop c117x13,.inBlock 0,.code (.seq (.reg c117x14) .ret)] cs h1 n1:=by
  intro j
  induction j with
  | zero =>
   intro acc u fo h1 n1 hj hacc hal he ho hE R q0 q1 q5 q6
   refine SW.sub (R':=[(r0,v),(r1,.int .i64 i),(r5,u),(r6,.int .i64 (((0:Nat):Int) - 1))]) (by simp [q0,q1,q5,q6]) ?_
   repeat' first|refine SW.a rfl ?_|refine SW.reg ?_|refine SO.nil ?_|refine SO.a rfl ?_|refine SO.cF rfl (by omega) ?_|fail
   refine SW.ret code117 ⟨u,rfl,hq _ _ _ ⟨?_,hE⟩⟩
   rw [he]
   exact ho.sl (by rw [ancGo,flatMap_length (esz:=1) (fun _=>rfl)]) (by decide)
  | succ j ih =>
   intro acc u fo h1 n1 hj hacc hal he ho hE R q0 q1 q5 q6
   have q6':look R r6=some (.int .i64 (j:Int)):=by rw [q6];congr 2;omega
   have hs1:=hs.ext hE
   have hsl:=hs1.sl
   have hsu:Sl h1 n1 1 u acc.length (acc.flatMap natC):=ho.sl (by rw [flatMap_length (esz:=1) (fun _=>rfl)]) (by decide)
   have hmem:=List.getElem_mem hi
   have hps:=hs1.ps rs[i] hmem
   have hok:=(hs1.ok rs[i] hmem).parents
   simp only [ancGo] at he
   refine SW.sub (R':=[(r0,v),(r1,.int .i64 i),(r5,u),(r6,.int .i64 (j:Int))]) (by simp [q0,q1,q5,q6']) ?_
   have loop2:∀ (k2 m:Nat),m+k2=acc.length->∀ R,look R r0=some v->look R r1=some (.int .i64 i)->look R r5=some u->look R r6=some (.int .i64 (j:Int))->look R r7=some (.bool (isAnc rs i j (acc.take m)))->look R r8=some (.int .i64 m)->SW E Q 117 R [.code c117x9,.inLoop c117x9,.inBlock 2,.code (.seq (.reg c117x10) (.cond (.r r42) (.reg c117x11) .skip)),.inBlock 1,.code (.reg c117x12),.inLoop c117x13,.inBlock 0,.code (.seq (.reg c117x14) .ret)] cs h1 n1:=by
    intro k2
    induction k2 with
    | zero =>
     intro m hm R q0 q1 q5 q6 q7 q8
     rw [show m=acc.length by omega,List.take_length] at q7
     refine SW.sub (R':=[(r0,v),(r1,.int .i64 i),(r5,u),(r6,.int .i64 (j:Int)),(r7,.bool (isAnc rs i j acc)),(r8,.int .i64 m)]) (by simp [q0,q1,q5,q6,q7,q8]) ?_
     cases ha:isAnc rs i j acc with
     | true =>
      rw [ha,if_pos rfl] at he
      repeat' first|refine SO.bslice rfl rfl rfl (fun k=>rfl) (fun h2 hc2 hE2=>?_)|refine SW.a rfl ?_|refine SW.reg ?_|refine SO.nil ?_|refine SO.a rfl ?_|refine SO.lenSl rfl rfl rfl (by assumption) ?_|refine SO.cF rfl (by omega) ?_|fail
      have ho2:Own h2 n (n1+1) 1 3 u fo (acc.flatMap natC):=ho.keep (by omega) fun b _ hb0=>hE2.same b hb0
      have hx:Sl h2 (n1+1) 1 (.slc n1 0 1 1) 1 (natC j):=⟨rfl,.inr ⟨n1,0,1,natC j,.inl ⟨rfl,Nat.le_refl _⟩,⟨by omega,.inl ⟨_,_,hc2⟩⟩,by simp,rfl⟩⟩
      refine SO.append rfl rfl rfl rfl (by decide) (by decide) ho2 (by have:=hE.le;omega) hx (by rw [flatMap_length (esz:=1) (fun _=>rfl)];simp;omega) fun v' fo' h3 n3 ho3 hn3 hk3 hf3=>?_
      repeat' first|refine SW.a rfl ?_|refine SW.reg ?_|refine SO.nil ?_|refine SO.a rfl ?_|refine SO.sub rfl rfl rfl rfl (by omega) ?_|fail
      refine SW.again ?_
      refine ih (acc++[j]) v' fo' h3 n3 (by omega) (fun x hx=>?_) (by simp;omega) he ?_ ?_ _ rfl rfl rfl ?_
      ·rcases List.mem_append.1 hx with hx|hx
       ·exact hacc x hx
       ·simp at hx;omega
      ·rw [List.flatMap_append];simpa using ho3
      ·refine⟨by have:=hE.le;omega,fun b hb0=>?_⟩
       have hbn:b < n1:=by have:=hE.le;omega
       rw [hk3 b (by omega) ?_,hE2.same b hbn,hE.same b hb0]
       intro e'
       rcases ho with ⟨_,_,rfl⟩ |⟨_,_,_,_,_,_,_,_,rfl⟩ |⟨_,_,_,_,_,_,_,_,hn',_,_,_,_,rfl⟩
       ·simp at e'
       ·simp at e'
       ·simp at e';omega
      ·rfl
     | false =>
      rw [ha,if_neg (by simp)] at he
      repeat' first|refine SW.a rfl ?_|refine SW.reg ?_|refine SO.nil ?_|refine SO.a rfl ?_|refine SO.lenSl rfl rfl rfl (by assumption) ?_|refine SO.cF rfl (by omega) ?_|refine SO.sub rfl rfl rfl rfl (by omega) ?_|fail
      refine SW.again ?_
      exact ih acc u fo h1 n1 (by omega) hacc (by omega) he ho hE _ rfl rfl rfl rfl
    | succ k2 ih2 =>
     intro m hm R q0 q1 q5 q6 q7 q8
     have hm':m < acc.length:=by omega
     have hk:acc[m] < rs.length:=hacc _ (List.getElem_mem hm')
     have hkm:=List.getElem_mem hk
     have hpk:=hs1.ps rs[acc[m]] hkm
     have hko:=(hs1.ok rs[acc[m]] hkm).parents
     have e1:isAnc rs i j (acc.take (m+1))=(isAnc rs i j (acc.take m)||(parAt rs acc[m]).contains (j:Int)):=by
      rw [List.take_succ_eq_append_getElem hm']
      simp only [isAnc,List.any_append,List.any_cons,List.any_nil,Bool.or_false,Bool.or_assoc]
     refine SW.sub (R':=[(r0,v),(r1,.int .i64 i),(r5,u),(r6,.int .i64 (j:Int)),(r7,.bool (isAnc rs i j (acc.take m))),(r8,.int .i64 m)]) (by simp [q0,q1,q5,q6,q7,q8]) ?_
     cases ha:isAnc rs i j (acc.take m) with
     | true =>
      repeat' first|refine SW.a rfl ?_|refine SW.reg ?_|refine SO.nil ?_|refine SO.a rfl ?_|refine SO.lenSl rfl rfl rfl (by assumption) ?_|refine SO.cT rfl (by omega) ?_|refine SO.add rfl rfl rfl rfl (by omega) ?_|fail
      refine SW.again ?_
      refine ih2 (m+1) (by omega) _ rfl rfl rfl rfl ?_ rfl
      rw [e1,ha];rfl
     | false =>
      repeat' first|refine SO.idxOf (fun _=>rfl) rfl rfl rfl rfl hsu hm' (fun a o hp=>?_)|refine SO.idxOf (fun _=>rfl) rfl rfl rfl rfl hsl hk (fun a o hp=>?_)|refine SO.load0 rfl rfl rfl (by assumption) (Gr.refl _ _) ?_|refine SW.a rfl ?_|refine SW.reg ?_|refine SO.nil ?_|refine SO.a rfl ?_|refine SO.lenSl rfl rfl rfl (by assumption) ?_|refine SO.cT rfl (by omega) ?_|fail
      refine SO.callG rfl rfl rfl (has103 (j:Int) hpk hko) ?_
      rintro _ h' n' ⟨rfl,rfl,rfl⟩
      repeat' first|refine SW.a rfl ?_|refine SW.reg ?_|refine SO.nil ?_|refine SO.a rfl ?_|refine SO.add rfl rfl rfl rfl (by omega) ?_|fail
      refine SW.again ?_
      refine ih2 (m+1) (by omega) _ rfl rfl rfl rfl ?_ rfl
      rw [e1,ha,parAt_get hk];rfl
   repeat' first|refine SO.idxOf (fun _=>rfl) rfl rfl rfl rfl hsl hi (fun a o hp=>?_)|refine SO.load0 rfl rfl rfl (by assumption) (Gr.refl _ _) ?_|refine SW.a rfl ?_|refine SW.reg ?_|refine SO.nil ?_|refine SO.a rfl ?_|refine SO.cT rfl (by omega) ?_|fail
   refine SO.callG rfl rfl rfl (has103 (j:Int) hps hok) ?_
   rintro _ h' n' ⟨rfl,rfl,rfl⟩
   repeat' first|refine SW.a rfl ?_|refine SW.reg ?_|refine SO.nil ?_|refine SO.a rfl ?_
   refine SW.loop ?_
   refine loop2 acc.length 0 (by omega) _ rfl rfl rfl rfl ?_ rfl
   simp [isAnc,parAt_get hi]
   rfl
 repeat' first|refine SO.bslice rfl rfl rfl (fun k=>rfl) (fun h2 hc2 hE2=>?_)|refine SW.a rfl ?_|refine SW.reg ?_|refine SO.nil ?_|refine SO.a rfl ?_|refine SO.sub rfl rfl rfl rfl (by omega) ?_|fail
 refine SW.loop ?_
 exact loop i [] _ none _ _ (Nat.le_refl _) (by simp) (by simp) rfl (.inr (.inl ⟨n,0,3,rfl,rfl,by omega,Nat.le_refl _,hc2,rfl⟩)) hE2 _ rfl rfl rfl rfl
def par1 (ps:List Int) (i:Nat) (k:Nat):Int:=match ps[k]? with
 | none=>0
 | some x=>if x < 0\/(i:Int)<=x then 2 else if (match k with|0=>false|m+1=>match ps[m]? with|some y=>decide (x<=y)|none=>false)=true then 9 else 0
def par2 (rs:List SnapR) (ps:List Int) (k:Nat):Int:=match ps[k]? with
 | none=>0
 | some x=>if (ps.take k).any (fun y=>((ancOf rs x.toNat).map Int.ofNat).contains y)=true then 1 else 0
def parentsE (rs:List SnapR) (i:Nat):Int:=if firstE (par1 (parAt rs i) i) (parAt rs i).length 0≠0 then firstE (par1 (parAt rs i) i) (parAt rs i).length 0 else firstE (par2 rs (parAt rs i)) (parAt rs i).length 0
end Go.Ev
