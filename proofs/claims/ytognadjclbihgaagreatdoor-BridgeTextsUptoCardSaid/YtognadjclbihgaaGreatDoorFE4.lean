/- Contracts: bridge.Print. -/
import Derived.Test.YtognadjclbihgaaGreatDoorE6
import Derived.Test.YtognadjclbihgaaGreatDoorFE3
set_option linter.all false
namespace Go.Ev
set_option maxRecDepth 100000
set_option maxHeartbeats 16000000
theorem Still.loadVA {R:List (Path × AV)} {rc:List COp} {h:Hp} {X:CX} {p:Path} {a m:Nat} {us:List AV} {e:TypeId} {ro:Bool} {g:Option (Path × Bool)} (hg:wantB R g=true) (hp:look R p=some (.agg us)) (hX:lookX R X=some (.ptr a 0)) (hb0:hb h a=some (.cell us e ro)) (hm:us.length=m) (hs:Still R rc h):Still R (⟨some p,g,[X],.loadA m⟩::rc) h:=by
 refine Still.cons (c:=⟨some p,g,[X],.loadA m⟩) hg rfl hp (one1 hX) (fun n K=>?_) hs
 have h2:=Pt.cell (o:=0) hb0 (Nat.lt_succ_self a) (Nat.zero_le _)
 have h3:=ex_loadA (n':=n) h2 (m:=m) (by simp [hm])
 rw [List.drop_zero,<- hm,List.take_length] at h3
 exact (hm ▸ h3) K
structure Fine2 (s:SN):Prop where
 parents:∀ p ∈ s.parents,0<=p/\p<=1099511627776
 time:0<=s.time/\s.time<=1099511627776
 files:∀ f ∈ s.files,0<=f.type/\f.type<=1099511627776/\0<=f.mode/\f.mode<=1099511627776
structure Pr0 (rs:List SnapR):Prop where
 sz:∀ r ∈ rs,r.s.parents.length<=1000/\r.s.author.length<=3000/\r.s.message.length<=3000/\bulk r.s.files<=4000
structure Pr (rs:List SnapR):Prop extends Pr0 rs where
 enc:checkE rs=0->(rs.flatMap fun r=>encSnap r.s).length<=100000
theorem Pr0.of_great {rs:List SnapR} (hg:greatAll rs=false):Pr0 rs:=⟨fun r hr=>by have:=(great_false hg).2 r hr;omega⟩
theorem fine_both {rs:List SnapR} (hp:Pr0 rs) (hc:checkE rs=0):∀ r ∈ rs,Fine r.s/\Fine2 r.s:=by
 intro r hr
 obtain⟨i,hi,rfl⟩:=List.getElem_of_mem hr
 have hb:=hp.sz rs[i] hr
 have hl4:¬ 400 < rs.length:=fun h=>by rw [checkE,if_pos h] at hc;simp at hc
 rw [checkE,if_neg hl4] at hc
 have hs:=firstE_zero _ _ hc i (by omega) (by omega)
 simp only [snapE,List.getElem?_eq_getElem hi] at hs
 by_cases h0:parentsE rs i=0
 case neg=>rw [if_pos h0] at hs;exact absurd hs h0
 rw [if_neg (by simpa using h0)] at hs
 split at hs
 ·simp at hs
 split at hs
 ·simp at hs
 split at hs
 ·simp at hs
 rename_i hn hm ht
 have hl2:¬ 200 < rs[i].s.files.length:=fun h=>by rw [treeE,if_pos h] at hs;simp at hs
 rw [treeE,if_neg hl2] at hs
 have hfile:∀ f ∈ rs[i].s.files,fileE f=0:=by
  intro f hf
  obtain⟨j,hj,rfl⟩:=List.getElem_of_mem hf
  have:=firstE_zero _ _ hs j (by omega) (by omega)
  simp only [treeAt,List.getElem?_eq_getElem hj] at this
  by_cases h1:fileE rs[i].s.files[j]=0
  ·exact h1
  ·rw [if_pos h1] at this;exact absurd this h1
 rw [parentsE,parAt_get hi] at h0
 have h1:firstE (par1 rs[i].s.parents i) rs[i].s.parents.length 0=0:=by
  by_cases h1:firstE (par1 rs[i].s.parents i) rs[i].s.parents.length 0=0
  ·exact h1
  ·rw [if_pos h1] at h0;exact h0
 have hpar:∀ p ∈ rs[i].s.parents,0<=p/\p<=1099511627776:=by
  intro p hp
  obtain⟨j,hj,rfl⟩:=List.getElem_of_mem hp
  have:=firstE_zero _ _ h1 j (by omega) (by omega)
  simp only [par1,List.getElem?_eq_getElem hj] at this
  split at this
  ·simp at this
  ·omega
 have hfi:∀ f ∈ rs[i].s.files,(0<=f.type/\f.type<=1099511627776/\0<=f.mode/\f.mode<=1099511627776)/\f.path.length<=65536/\f.data.length<=65536:=by
  intro f hf
  have h2:=hfile f hf
  have h3:=bulk_mem hf
  unfold fileE at h2
  split at h2
  ·simp at h2
  split at h2
  ·simp at h2
  split at h2
  ·simp at h2
  omega
 refine⟨⟨fun p hp=>by have:=hpar p hp;omega,by omega,fun f hf=>by have:=hfi f hf;omega,by omega,by omega,by omega,by omega⟩,⟨hpar,by omega,fun f hf=>(hfi f hf).1⟩⟩
theorem files_enc:∀ {fs:List PF},(∀ f ∈ fs,0<=f.type/\f.type<=1099511627776/\0<=f.mode/\f.mode<=1099511627776)->bulk fs<=4000->((fs.flatMap encFile).length:Int)<=bulk fs+130*fs.length
 | [],_,_=>by simp [bulk]
 | f::fs,h,hb=>by
  have hbn:=bulk_nonneg fs
  have hcons:bulk (f::fs)=(f.data.length+f.path.length:Int)+bulk fs:=by simp [bulk]
  have ih:=files_enc (fs:=fs) (fun g hg=>h g (List.mem_cons_of_mem _ hg)) (by omega)
  have h1:=h f (by simp)
  have h3:=encD_le f.type.toNat (by omega)
  have h4:=encD_le f.mode.toNat (by omega)
  have h5:=encA_le f.path (by omega)
  have h6:=encA_le f.data (by omega)
  simp only [List.flatMap_cons,List.length_append,encFile,encL,List.length_cons,List.length_nil,hcons] at ih ⊢
  omega
theorem Pr.of_great {rs:List SnapR} (hg:greatAll rs=false):Pr rs:=by
 obtain⟨hl,hb⟩:=great_false hg
 refine⟨Pr0.of_great hg,fun hc=>?_⟩
 have hf:=fine_both (Pr0.of_great hg) hc
 refine Nat.le_trans (flat_le _ 8000 rs fun r hr=>?_) (by omega)
 obtain⟨b1,b2,b3,b4,b5⟩:=hb r hr
 have h2:=(hf r hr).2
 have e1:(r.s.parents.flatMap fun p=>encA (decN p.toNat)).length<=r.s.parents.length*40:=flat_le _ 40 _ fun p hp=>encD_le _ (by have:=h2.parents p hp;omega)
 have e2:=files_enc h2.files b5
 have e3:=encA_le r.s.author (by omega)
 have e4:=encA_le r.s.message (by omega)
 have e5:=encD_le r.s.time.toNat (by have:=h2.time;omega)
 simp only [encSnap,encL,List.length_cons,List.length_append,List.length_nil]
 omega
theorem fit_more (d:Nat) (x:XR) (hx:XFit d x):XFit (d+8) x:=by
 induction hx with
 | atom d bs hb=>have:=XFit.atom (d+8) bs hb;rw [show d+8+1=d+1+8 by omega] at this;exact this
 | list d v xs _ ih=>have:=XFit.list (d+8) v xs ih;rw [show d+8+1=d+1+8 by omega] at this;exact this
theorem print6 {h:Hp} {n:Nat} {v:AV} {rs:List SnapR} (hpw:Pow h n) (hs:Sn h n v rs) (hpr:Pr rs) (h8:Fn E 11 [v] h n fun r h' n'=>r=.int .i64 (checkE rs)/\Gr h n h' n'):Fn E 10 [v] h n fun r h' n'=>r=.tup [strOf (printE rs),.int .i64 (checkE rs)]/\Gr h n h' n':=by
 refine Fn.of code10 (by decide) rfl fun Q cs hq=>?_
 show SW E Q 10 [(r0,v)] _ _ _ _
 have hl:=hs.len
 repeat' first|refine SW.a rfl ?_|refine SW.reg ?_|refine SO.nil ?_|refine SO.a rfl ?_
 refine SO.callG rfl rfl rfl h8 ?_
 rintro _ h1 n1 ⟨rfl,hE⟩
 by_cases hc:checkE rs=0
 case neg =>
  repeat' first|refine SW.a rfl ?_|refine SW.reg ?_|refine SO.nil ?_|refine SO.a rfl ?_|refine SO.cT rfl (by omega) ?_|fail
  exact SW.ret code10 ⟨_,rfl,_,rfl,hq _ _ _ ⟨by rw [printE,if_neg hc];rfl,hE⟩⟩
 have hboth:=fine_both hpr.toPr0 hc
 have henc:=hpr.enc hc
 rw [printE,if_pos hc,hc] at hq
 rw [hc]
 have loop:∀ (k i:Nat) (h2:Hp) (n2:Nat),i+k=rs.length->Gr h n h2 n2->∀ R,look R r5=some (strOf ((rs.take i).flatMap fun r=>encSnap r.s))->look R r21=some v->look R r22=some (.int .i64 (rs.length:Int))->look R r23=some (.int .i64 (i:Int))->SW E Q 10 R [.code c10x24,.inLoop c10x24,.inBlock 0,.code (.seq (.reg c10x25) .ret)] cs h2 n2:=by
  intro k
  induction k with
  | zero =>
   intro i h2 n2 hi hE2 R q5 q21 q22 q23
   rw [show i=rs.length by omega,List.take_length] at q5
   refine SW.sub (R':=[(r5,strOf (rs.flatMap fun r=>encSnap r.s)),(r21,v),(r22,.int .i64 (rs.length:Int)),(r23,.int .i64 (i:Int))]) (by simp [q5,q21,q22,q23]) ?_
   repeat' first|refine SW.a rfl ?_|refine SW.reg ?_|refine SO.nil ?_|refine SO.a rfl ?_|refine SO.cF rfl (by omega) ?_|fail
   exact SW.ret code10 ⟨_,rfl,_,rfl,hq _ _ _ ⟨rfl,hE2⟩⟩
  | succ k ih =>
   intro i h2 n2 hi hE2 R q5 q21 q22 q23
   have hi':i < rs.length:=by omega
   have hs2:=hs.ext hE2
   have hsl:=hs2.sl
   have hmem:=List.getElem_mem hi'
   have hr:=(hboth rs[i] hmem).1
   have hr2:=(hboth rs[i] hmem).2
   have hps:=hs2.ps rs[i] hmem
   have hfs:=hs2.fs rs[i] hmem
   obtain⟨b1,b2,b3,b5⟩:=hpr.sz rs[i] hmem
   have b4:=hr.nf
   have e1:((rs.take i).flatMap fun r=>encSnap r.s).length+(encSnap rs[i].s).length<=100000:=by
    have h1:(rs.take (i+1)).flatMap (fun r=>encSnap r.s)=((rs.take i).flatMap fun r=>encSnap r.s)++encSnap rs[i].s:=by rw [List.take_succ_eq_append_getElem hi',List.flatMap_append];simp
    have h2:((rs.take (i+1)).flatMap fun r=>encSnap r.s).length<=(rs.flatMap fun r=>encSnap r.s).length:=by
     conv=>rhs;rw [<- List.take_append_drop (i+1) rs,List.flatMap_append,List.length_append]
     omega
    rw [h1,List.length_append] at h2
    omega
   have next:∀ (g:Hp) (m:Nat),Gr h n g m->∀ R,look R r5=some (strOf (((rs.take i).flatMap fun r=>encSnap r.s)++encSnap rs[i].s))->look R r21=some v->look R r22=some (.int .i64 (rs.length:Int))->look R r23=some (.int .i64 ((i:Int)+1))->SW E Q 10 R [.inLoop c10x24,.inBlock 0,.code (.seq (.reg c10x25) .ret)] cs g m:=by
    intro g m hG R q5 q21 q22 q23
    refine SW.again (ih (i+1) g m (by omega) hG R ?_ q21 q22 q23)
    rw [q5,List.take_succ_eq_append_getElem hi',List.flatMap_append]
    simp
   refine SW.sub (R':=[(r5,strOf ((rs.take i).flatMap fun r=>encSnap r.s)),(r21,v),(r22,.int .i64 (rs.length:Int)),(r23,.int .i64 (i:Int))]) (by simp [q5,q21,q22,q23]) ?_
   repeat' first|refine SO.idxOf (fun _=>rfl) rfl rfl rfl rfl hsl hi' (fun a o hp=>?_)|refine SO.loadA rfl rfl rfl (by assumption) (Gr.refl _ _) rfl ?_|refine SO.alloc rfl rfl (fun h3 hc3 hE3=>?_)|refine SO.storeAll rfl rfl rfl hc3 rfl rfl (fun h4 hc4 hk4=>?_)|refine SW.a rfl ?_|refine SW.reg ?_|refine SO.nil ?_|refine SO.cT rfl (by omega) ?_|fail
   have hE4:Gr h2 n2 h4 (n2+1):=hE3.keep (Nat.le_refl _) hk4
   clear hp
   generalize rs[i]=r at *
   generalize hacc:((rs.take i).flatMap fun r=>encSnap r.s)=acc at *
   refine SO.callG rfl rfl rfl (list12 (xs:=[]) (nilsSl h4 (n2+1) 3)) ?_
   rintro _ h5 n5 ⟨rfl,hE5⟩
   refine SO.callG rfl rfl rfl (list12 (xs:=[]) (nilsSl h5 n5 3)) ?_
   rintro _ h6 n6 ⟨rfl,hE6⟩
   have l5:=hE5.le
   have l6:=hE6.le
   refine SO.alloc rfl rfl (fun h7 hc7 hE7=>?_)
   refine SO.alloc rfl rfl (fun h8' hc8 hE8=>?_)
   have hc7':hb h8' n6=some (.cell [.bool false,strOf [],.nils] 56 false):=by rw [hE8.same n6 (by omega)];exact hc7
   refine SO.storeAll rfl rfl rfl hc7' rfl rfl (fun h9 hc9 hk9=>?_)
   have hc8':hb h9 (n6+1)=some (.cell [.bool false,strOf [],.nils] 56 false):=by rw [hk9 (n6+1) (by omega)];exact hc8
   refine SO.storeAll rfl rfl rfl hc8' rfl rfl (fun hS hcS hkS=>?_)
   have kS7:hb hS n2=some (.cell (srC r) 38 false):=by rw [hkS n2 (by omega),hk9 n2 (by omega),hE8.same n2 (by omega),hE7.same n2 (by omega),hE6.same n2 (by omega),hE5.same n2 (by omega)];exact hc4
   have kS8:hb hS n6=some (.cell [.bool true,strOf [],.nils] 56 false):=by rw [hkS n6 (by omega)];exact hc9
   have kS9:hb hS (n6+1)=some (.cell [.bool true,strOf [],.nils] 56 false):=hcS
   have hGS:Gr h2 n2 hS (n6+2):=⟨by omega,fun b hb0=>by rw [hkS b (by omega),hk9 b (by omega),hE8.same b (by omega),hE7.same b (by omega),hE6.same b (by omega),hE5.same b (by omega),hE4.same b hb0]⟩
   clear hc3 hE3 hk4 hc4 hE5 hE6 hc7 hE7 hc8 hE8 hc7' hc9 hk9 hc8' hcS hkS hE4
   have done:∀ (g:Hp) (m:Nat) (u3 u4:AV) (fo3 fo4:Option Nat) (ys xs:List XR),n6+2<=m->hb g n2=some (.cell (srC r) 38 false)->hb g n6=some (.cell [.bool true,strOf [],u3] 56 false)->hb g (n6+1)=some (.cell [.bool true,strOf [],u4] 56 false)->Gr h2 n2 g m->Own g (n6+2) m 3 56 u3 fo3 (ys.flatMap xC)->Own g (n6+2) m 3 56 u4 fo4 (xs.flatMap xC)->(∀ y ∈ ys,Rob (n6+2) g m y)->(∀ x ∈ xs,Rob (n6+2) g m x)->(∀ y ∈ ys,XFit 2 y)->(∀ x ∈ xs,XFit 2 x)->XR.encs ys=r.s.parents.flatMap (fun p=>encA (decN p.toNat))->XR.encs xs=r.s.files.flatMap encFile->XR.nodess ys=r.s.parents.length->XR.nodess xs=5*r.s.files.length ->
     ∀ R,look R r5=some (strOf acc)->look R r7=some (.ptr n2 0)->look R r8=some (.ptr n6 0)->look R r9=some (.ptr (n6+1) 0)->look R r21=some v->look R r22=some (.int .i64 (rs.length:Int))->look R r23=some (.int .i64 (i:Int))->SW E Q 10 R [.code (.seq (.draw c10x21) (.reg c10x22)),.inBlock 1,.code (.reg c10x23),.inLoop c10x24,.inBlock 0,.code (.seq (.reg c10x25) .ret)] cs g m:=by
    intro g m u3 u4 fo3 fo4 ys xs hm k7 k8 k9 hG ho3 ho4 ok3 ok4 fit3 fit4 en3 en4 no3 no4 R q5 q7 q8 q9 q21 q22 q23
    refine SW.sub (R':=[(r5,strOf acc),(r7,.ptr n2 0),(r8,.ptr n6 0),(r9,.ptr (n6+1) 0),(r21,v),(r22,.int .i64 (rs.length:Int)),(r23,.int .i64 (i:Int))]) (by simp [q5,q7,q8,q9,q21,q22,q23]) ?_
    repeat' first|refine SO.loadV rfl rfl rfl k7 rfl ?_|refine SO.loadVA rfl rfl rfl k8 rfl ?_|refine SO.loadVA rfl rfl rfl k9 rfl ?_|refine SW.a rfl ?_|(refine SW.drawG ?_;simp only [gOps,gRc,gTail])|refine SO.a rfl ?_
    refine SO.callG rfl rfl rfl (atom14 r.s.author) ?_
    rintro _ g1 m1 ⟨rfl,hE1⟩
    have s7:hb g1 n2=some (.cell (srC r) 38 false):=by rw [hE1.same n2 (by omega)];exact k7
    have s8:hb g1 n6=some (.cell [.bool true,strOf [],u3] 56 false):=by rw [hE1.same n6 (by omega)];exact k8
    have s9:hb g1 (n6+1)=some (.cell [.bool true,strOf [],u4] 56 false):=by rw [hE1.same (n6+1) (by omega)];exact k9
    have l1:=hE1.le
    refine SO.more (Still.loadVA rfl rfl rfl s9 rfl (Still.loadV (c:=⟨none,none,[],.mov⟩) rfl rfl rfl s7 rfl (Still.loadV (c:=⟨none,none,[],.mov⟩) rfl rfl rfl s7 rfl (Still.loadVA rfl rfl rfl s8 rfl (Still.nil))))) ?_
    simp only [gOps,gRc,gTail]
    refine SO.callG rfl rfl rfl (atom14 r.s.message) ?_
    rintro _ g2 m2 ⟨rfl,hE2'⟩
    have t7:hb g2 n2=some (.cell (srC r) 38 false):=by rw [hE2'.same n2 (by omega)];exact s7
    have t8:hb g2 n6=some (.cell [.bool true,strOf [],u3] 56 false):=by rw [hE2'.same n6 (by omega)];exact s8
    have t9:hb g2 (n6+1)=some (.cell [.bool true,strOf [],u4] 56 false):=by rw [hE2'.same (n6+1) (by omega)];exact s9
    have l2:=hE2'.le
    refine SO.more (Still.loadVA rfl rfl rfl t9 rfl (Still.loadV (c:=⟨none,none,[],.mov⟩) rfl rfl rfl t7 rfl (Still.loadVA rfl rfl rfl t8 rfl (Still.nil)))) ?_
    simp only [gOps,gRc,gTail]
    have hfn:=number13 (hpw.ext (((hE2.trans hG).trans hE1).trans hE2')) r.s.time.toNat (by have:=hr2.time;omega)
    rw [Int.toNat_of_nonneg hr2.time.1] at hfn
    refine SO.callG rfl rfl rfl hfn ?_
    rintro _ g3 m3 ⟨rfl,hE3⟩
    have w7:hb g3 n2=some (.cell (srC r) 38 false):=by rw [hE3.same n2 (by omega)];exact t7
    have w8:hb g3 n6=some (.cell [.bool true,strOf [],u3] 56 false):=by rw [hE3.same n6 (by omega)];exact t8
    have w9:hb g3 (n6+1)=some (.cell [.bool true,strOf [],u4] 56 false):=by rw [hE3.same (n6+1) (by omega)];exact t9
    have l3:=hE3.le
    refine SO.more (Still.loadVA rfl rfl rfl w9 rfl (Still.loadVA rfl rfl rfl w8 rfl (Still.nil))) ?_
    simp only [gOps,gRc,gTail]
    refine SO.bslice rfl rfl rfl (fun k=>rfl) (fun g4 hc4 hE4=>?_)
    have y7:hb g4 n2=some (.cell (srC r) 38 false):=by rw [hE4.same n2 (by omega)];exact w7
    have y8:hb g4 n6=some (.cell [.bool true,strOf [],u3] 56 false):=by rw [hE4.same n6 (by omega)];exact w8
    have y9:hb g4 (n6+1)=some (.cell [.bool true,strOf [],u4] 56 false):=by rw [hE4.same (n6+1) (by omega)];exact w9
    refine SO.more (Still.loadVA rfl rfl rfl y9 rfl (Still.loadV (c:=⟨none,none,[],.mov⟩) rfl rfl rfl y7 rfl (Still.loadV (c:=⟨none,none,[],.mov⟩) rfl rfl rfl y7 rfl (Still.loadV (c:=⟨none,none,[],.mov⟩) rfl rfl rfl y7 rfl (Still.loadVA rfl rfl rfl y8 rfl (Still.nil)))))) ?_
    simp only [gOps,gRc,gTail]
    have hs8:∀ (g':Hp) (m':Nat),m3 < m'->hb g' m3=hb g4 m3->Sl g' m' 3 (.slc m3 0 5 5) [XR.list u3 ys,.atom r.s.author,.atom r.s.message,.atom (decN r.s.time.toNat),.list u4 xs].length ([XR.list u3 ys,.atom r.s.author,.atom r.s.message,.atom (decN r.s.time.toNat),.list u4 xs].flatMap xC):=fun g' m' hm' hg'=>⟨rfl,.inr ⟨m3,0,5,_,.inl ⟨rfl,Nat.le_refl _⟩,⟨hm',.inl ⟨_,_,by rw [hg'];exact hc4⟩⟩,by simp,rfl⟩⟩
    refine SO.callG rfl rfl rfl (list12 (hs8 g4 (m3+1) (by omega) rfl)) ?_
    rintro _ g5 m5 ⟨rfl,hE5⟩
    have l5':=hE5.le
    have hGa:Gr g m g5 m5:=(((hE1.trans hE2').trans hE3).trans hE4).trans hE5
    have hs3':Sl g5 m5 3 u3 ys.length (ys.flatMap xC):=(ho3.keep hGa.le fun b _ hb0=>hGa.same b hb0).sl (flatMap_length xC_length ys) (by decide)
    have hs4':Sl g5 m5 3 u4 xs.length (xs.flatMap xC):=(ho4.keep hGa.le fun b _ hb0=>hGa.same b hb0).sl (flatMap_length xC_length xs) (by decide)
    have ok3':∀ y ∈ ys,XOk g5 m5 y:=fun y hy=>ok3 y hy g5 m5 hGa.le fun b vs e _ h2' h3'=>by rw [hGa.same b h2'];exact h3'
    have ok4':∀ x ∈ xs,XOk g5 m5 x:=fun x hx=>ok4 x hx g5 m5 hGa.le fun b vs e _ h2' h3'=>by rw [hGa.same b h2'];exact h3'
    have hxo:XOk g5 m5 (.list (.slc m3 0 5 5) [XR.list u3 ys,.atom r.s.author,.atom r.s.message,.atom (decN r.s.time.toNat),.list u4 xs]):=by
     refine .list _ _ (hs8 g5 m5 (by omega) (hE5.same m3 (by omega))) fun x hx=>?_
     simp only [List.mem_cons,List.not_mem_nil,or_false] at hx
     rcases hx with rfl|rfl|rfl|rfl|rfl
     ·exact .list _ _ hs3' ok3'
     ·exact .atom _
     ·exact .atom _
     ·exact .atom _
     ·exact .list _ _ hs4' ok4'
    have hxf:XFit 4 (.list (.slc m3 0 5 5) [XR.list u3 ys,.atom r.s.author,.atom r.s.message,.atom (decN r.s.time.toNat),.list u4 xs]):=by
     refine .list 3 _ _ fun x hx=>?_
     simp only [List.mem_cons,List.not_mem_nil,or_false] at hx
     rcases hx with rfl|rfl|rfl|rfl|rfl
     ·exact .list _ _ _ fit3
     ·exact .atom _ _ hr.author
     ·exact .atom _ _ hr.message
     ·exact fit_dec _ _ (by have:=hr.time;omega)
     ·exact .list _ _ _ fit4
    have hen:(XR.list (.slc m3 0 5 5) [XR.list u3 ys,.atom r.s.author,.atom r.s.message,.atom (decN r.s.time.toNat),.list u4 xs]).enc=encSnap r.s:=by simp only [XR.enc,XR.encs,en3,en4];rfl
    have hno:(XR.list (.slc m3 0 5 5) [XR.list u3 ys,.atom r.s.author,.atom r.s.message,.atom (decN r.s.time.toNat),.list u4 xs]).nodes<=20000:=by simp only [XR.nodes,XR.nodess,no3,no4];omega
    refine SO.callG rfl rfl rfl (xencode15 _ (hpw.ext ((hE2.trans hG).trans hGa)) hxo (fit_more 4 _ hxf) hno (by rw [hen];omega)) ?_
    rintro _ g6 m6 ⟨rfl,hE6⟩
    rw [hen]
    repeat' first|refine SO.concat rfl rfl rfl rfl (by omega) ?_|refine SW.a rfl ?_|refine SW.reg ?_|refine SO.nil ?_|refine SO.nilD ?_|refine SO.a rfl ?_|refine SO.add rfl rfl rfl rfl (by omega) ?_|fail
    exact next g6 m6 (((hE2.trans hG).trans hGa).trans hE6) _ rfl rfl rfl rfl
   have loop2:∀ (h1:Hp) (n1:Nat) (u3:AV) (fo3:Option Nat) (ys:List XR),n6+2<=n1->hb h1 n2=some (.cell (srC r) 38 false)->hb h1 n6=some (.cell [.bool true,strOf [],u3] 56 false)->Gr h2 n2 h1 n1->Own h1 (n6+2) n1 3 56 u3 fo3 (ys.flatMap xC)->(∀ y ∈ ys,Rob (n6+2) h1 n1 y)->(∀ y ∈ ys,XFit 2 y)->XR.encs ys=r.s.parents.flatMap (fun p=>encA (decN p.toNat))->XR.nodess ys=r.s.parents.length ->
     ∀ (k j:Nat) (g:Hp) (m:Nat) (u4:AV) (fo4:Option Nat) (xs:List XR),j+k=r.s.files.length->n1<=m->(∀ b,b < n1->b≠n6+1->hb g b=hb h1 b)->hb g (n6+1)=some (.cell [.bool true,strOf [],u4] 56 false)->Own g (n6+2) m 3 56 u4 fo4 (xs.flatMap xC)->(∀ f',fo4=some f'->n1<=f')->(∀ x ∈ xs,Rob (n6+2) g m x)->(∀ x ∈ xs,XFit 2 x)->XR.encs xs=(r.s.files.take j).flatMap encFile->XR.nodess xs=5*j->xs.length=j ->
     ∀ R,look R r5=some (strOf acc)->look R r7=some (.ptr n2 0)->look R r8=some (.ptr n6 0)->look R r9=some (.ptr (n6+1) 0)->look R r21=some v->look R r22=some (.int .i64 (rs.length:Int))->look R r23=some (.int .i64 (i:Int))->look R r45=some r.vf->look R r46=some (.int .i64 (r.s.files.length:Int))->look R r47=some (.int .i64 (j:Int))->SW E Q 10 R [.code c10x20,.inLoop c10x20,.inBlock 4,.code (.seq (.draw c10x21) (.reg c10x22)),.inBlock 1,.code (.reg c10x23),.inLoop c10x24,.inBlock 0,.code (.seq (.reg c10x25) .ret)] cs g m:=by
    intro h1 n1 u3 fo3 ys hn1 k7 k8 hG1 ho3 ok3 fit3 en3 no3 k
    induction k with
    | zero =>
     intro j g m u4 fo4 xs hj hm hk k9 ho4 hfo ok4 fit4 en4 no4 hxl R q5 q7 q8 q9 q21 q22 q23 q45 q46 q47
     rw [show j=r.s.files.length by omega,List.take_length] at en4
     rw [show j=r.s.files.length by omega] at no4
     have hG:Gr h2 n2 g m:=⟨by have:=hG1.le;omega,fun b hb0=>by rw [hk b (by omega) (by omega)];exact hG1.same b hb0⟩
     refine SW.sub (R':=[(r5,strOf acc),(r7,.ptr n2 0),(r8,.ptr n6 0),(r9,.ptr (n6+1) 0),(r21,v),(r22,.int .i64 (rs.length:Int)),(r23,.int .i64 (i:Int)),(r45,r.vf),(r46,.int .i64 (r.s.files.length:Int)),(r47,.int .i64 (j:Int))]) (by simp [q5,q7,q8,q9,q21,q22,q23,q45,q46,q47]) ?_
     refine SW.seq ?_
     refine SW.reg ?_
     refine SO.lssF rfl rfl rfl rfl (by omega) ?_
     refine SO.nil ?_
     refine SW.seq ?_
     refine SW.condF rfl ?_
     refine SW.exit rfl ?_
     exact done g m u3 u4 fo3 fo4 ys xs (by omega) (by rw [hk n2 (by omega) (by omega)];exact k7) (by rw [hk n6 (by omega) (by omega)];exact k8) k9 hG (ho3.keep hm fun b hb1 hb2=>hk b hb2 (by omega)) ho4 (fun y hy=>(ok3 y hy).mono hm fun b vs e hb1 hb2 hb3=>by rw [hk b hb2 (by omega)];exact hb3) ok4 fit3 fit4 en3 en4 no3 no4 _ rfl rfl rfl rfl rfl rfl rfl
    | succ k ih2 =>
     intro j g m u4 fo4 xs hj hm hk k9 ho4 hfo ok4 fit4 en4 no4 hxl R q5 q7 q8 q9 q21 q22 q23 q45 q46 q47
     have hj':j < r.s.files.length:=by omega
     have hG:Gr h2 n2 g m:=⟨by have:=hG1.le;omega,fun b hb0=>by rw [hk b (by omega) (by omega)];exact hG1.same b hb0⟩
     have hff:=hfs.ext hG
     have hm1:=hr2.files r.s.files[j] (List.getElem_mem hj')
     have hm2:=hr.files r.s.files[j] (List.getElem_mem hj')
     refine SW.sub (R':=[(r5,strOf acc),(r7,.ptr n2 0),(r8,.ptr n6 0),(r9,.ptr (n6+1) 0),(r21,v),(r22,.int .i64 (rs.length:Int)),(r23,.int .i64 (i:Int)),(r45,r.vf),(r46,.int .i64 (r.s.files.length:Int)),(r47,.int .i64 (j:Int))]) (by simp [q5,q7,q8,q9,q21,q22,q23,q45,q46,q47]) ?_
     repeat' first|refine SO.idxOf (fun _=>rfl) rfl rfl rfl rfl hff hj' (fun a o hp=>?_)|refine SO.loadA rfl rfl rfl (by assumption) (Gr.refl _ _) rfl ?_|refine SO.alloc rfl rfl (fun h3 hc3 hE3=>?_)|refine SO.storeAll rfl rfl rfl hc3 rfl rfl (fun h4 hc4 hk4=>?_)|refine SW.a rfl ?_|refine SW.reg ?_|refine SO.nil ?_|refine SO.cT rfl (by omega) ?_|fail
     have htake:(r.s.files.take (j+1)).flatMap encFile=(r.s.files.take j).flatMap encFile++encFile r.s.files[j]:=by rw [List.take_succ_eq_append_getElem hj',List.flatMap_append];simp
     clear hp
     generalize r.s.files[j]=x at *
     have hE4:Gr g m h4 (m+1):=hE3.keep (Nat.le_refl _) hk4
     have k9a:hb h4 (n6+1)=some (.cell [.bool true,strOf [],u4] 56 false):=by rw [hE4.same (n6+1) (by omega)];exact k9
     repeat' first|refine SO.loadV rfl rfl rfl hc4 rfl ?_|refine SO.loadV rfl rfl rfl k9a rfl ?_|(refine SW.drawG ?_;simp only [gOps,gRc,gTail])|refine SO.a rfl ?_
     refine SO.callG rfl rfl rfl (atom14 x.path) ?_
     rintro _ h5 n5' ⟨rfl,hE5⟩
     have l5':=hE5.le
     have hc5:hb h5 m=some (.cell (pfC x) 68 false):=by rw [hE5.same m (by omega)];exact hc4
     have k9b:hb h5 (n6+1)=some (.cell [.bool true,strOf [],u4] 56 false):=by rw [hE5.same (n6+1) (by omega)];exact k9a
     refine SO.more (Still.loadV (c:=⟨none,none,[],.mov⟩) rfl rfl rfl hc5 rfl (Still.loadV (c:=⟨none,none,[],.mov⟩) rfl rfl rfl hc5 rfl (Still.loadV (c:=⟨none,none,[],.mov⟩) rfl rfl rfl hc5 rfl (Still.loadV (c:=⟨none,none,[],.mov⟩) rfl rfl rfl k9b rfl (Still.nil))))) ?_
     simp only [gOps,gRc,gTail]
     have hfn:=number13 (hpw.ext (((hE2.trans hG).trans hE4).trans hE5)) x.type.toNat (by omega)
     rw [Int.toNat_of_nonneg hm1.1] at hfn
     refine SO.callG rfl rfl rfl hfn ?_
     rintro _ h6 n6' ⟨rfl,hE6⟩
     have l6':=hE6.le
     have hc6:hb h6 m=some (.cell (pfC x) 68 false):=by rw [hE6.same m (by omega)];exact hc5
     have k9c:hb h6 (n6+1)=some (.cell [.bool true,strOf [],u4] 56 false):=by rw [hE6.same (n6+1) (by omega)];exact k9b
     refine SO.more (Still.loadV (c:=⟨none,none,[],.mov⟩) rfl rfl rfl hc6 rfl (Still.loadV (c:=⟨none,none,[],.mov⟩) rfl rfl rfl hc6 rfl (Still.loadV (c:=⟨none,none,[],.mov⟩) rfl rfl rfl k9c rfl (Still.nil)))) ?_
     simp only [gOps,gRc,gTail]
     have hfn:=number13 (hpw.ext ((((hE2.trans hG).trans hE4).trans hE5).trans hE6)) x.mode.toNat (by omega)
     rw [Int.toNat_of_nonneg hm1.2.2.1] at hfn
     refine SO.callG rfl rfl rfl hfn ?_
     rintro _ h7 n7 ⟨rfl,hE7⟩
     have l7:=hE7.le
     have hc7:hb h7 m=some (.cell (pfC x) 68 false):=by rw [hE7.same m (by omega)];exact hc6
     have k9d:hb h7 (n6+1)=some (.cell [.bool true,strOf [],u4] 56 false):=by rw [hE7.same (n6+1) (by omega)];exact k9c
     refine SO.more (Still.loadV (c:=⟨none,none,[],.mov⟩) rfl rfl rfl hc7 rfl (Still.loadV (c:=⟨none,none,[],.mov⟩) rfl rfl rfl k9d rfl (Still.nil))) ?_
     simp only [gOps,gRc,gTail]
     refine SO.callG rfl rfl rfl (atom14 x.data) ?_
     rintro _ h8' n8 ⟨rfl,hE8⟩
     have l8:=hE8.le
     have hc8:hb h8' m=some (.cell (pfC x) 68 false):=by rw [hE8.same m (by omega)];exact hc7
     have k9e:hb h8' (n6+1)=some (.cell [.bool true,strOf [],u4] 56 false):=by rw [hE8.same (n6+1) (by omega)];exact k9d
     refine SO.more (Still.loadV (c:=⟨none,none,[],.mov⟩) rfl rfl rfl k9e rfl (Still.nil)) ?_
     simp only [gOps,gRc,gTail]
     refine SO.bslice rfl rfl rfl (fun k=>rfl) (fun h9 hc9 hE9=>?_)
     have hc9':hb h9 m=some (.cell (pfC x) 68 false):=by rw [hE9.same m (by omega)];exact hc8
     have k9f:hb h9 (n6+1)=some (.cell [.bool true,strOf [],u4] 56 false):=by rw [hE9.same (n6+1) (by omega)];exact k9e
     refine SO.more (Still.loadV (c:=⟨none,none,[],.mov⟩) rfl rfl rfl hc9' rfl (Still.loadV (c:=⟨none,none,[],.mov⟩) rfl rfl rfl hc9' rfl (Still.loadV (c:=⟨none,none,[],.mov⟩) rfl rfl rfl hc9' rfl (Still.loadV (c:=⟨none,none,[],.mov⟩) rfl rfl rfl hc9' rfl (Still.loadV (c:=⟨none,none,[],.mov⟩) rfl rfl rfl k9f rfl (Still.nil)))))) ?_
     simp only [gOps,gRc,gTail]
     have hs9:∀ (g':Hp) (m':Nat),n8 < m'->hb g' n8=hb h9 n8->Sl g' m' 3 (.slc n8 0 4 4) [XR.atom x.path,.atom (decN x.type.toNat),.atom (decN x.mode.toNat),.atom x.data].length ([XR.atom x.path,.atom (decN x.type.toNat),.atom (decN x.mode.toNat),.atom x.data].flatMap xC):=fun g' m' hm' hg'=>⟨rfl,.inr ⟨n8,0,4,_,.inl ⟨rfl,Nat.le_refl _⟩,⟨hm',.inl ⟨_,_,by rw [hg'];exact hc9⟩⟩,by simp,rfl⟩⟩
     refine SO.callG rfl rfl rfl (list12 (hs9 h9 (n8+1) (by omega) rfl)) ?_
     rintro _ ha na ⟨rfl,hEa⟩
     have la:=hEa.le
     have hca:hb ha m=some (.cell (pfC x) 68 false):=by rw [hEa.same m (by omega)];exact hc9'
     have k9g:hb ha (n6+1)=some (.cell [.bool true,strOf [],u4] 56 false):=by rw [hEa.same (n6+1) (by omega)];exact k9f
     refine SO.more (Still.loadV (c:=⟨none,none,[],.mov⟩) rfl rfl rfl k9g rfl (Still.nil)) ?_
     simp only [gOps,gRc,gTail]
     refine SO.bslice rfl rfl rfl (fun k=>rfl) (fun hB hcB hEB=>?_)
     have hcB':hb hB m=some (.cell (pfC x) 68 false):=by rw [hEB.same m (by omega)];exact hca
     have k9h:hb hB (n6+1)=some (.cell [.bool true,strOf [],u4] 56 false):=by rw [hEB.same (n6+1) (by omega)];exact k9g
     refine SO.more (Still.loadV (c:=⟨none,none,[],.mov⟩) rfl rfl rfl hcB' rfl (Still.loadV (c:=⟨none,none,[],.mov⟩) rfl rfl rfl hcB' rfl (Still.loadV (c:=⟨none,none,[],.mov⟩) rfl rfl rfl hcB' rfl (Still.loadV (c:=⟨none,none,[],.mov⟩) rfl rfl rfl hcB' rfl (Still.loadV (c:=⟨none,none,[],.mov⟩) rfl rfl rfl k9h rfl (Still.nil)))))) ?_
     simp only [gOps,gRc,gTail]
     have hGB:Gr g m hB (na+1):=(((((((hE4.trans hE5).trans hE6).trans hE7).trans hE8).trans hE9).trans hEa).trans hEB)
     have hoB:Own hB (n6+2) (na+1) 3 56 u4 fo4 (xs.flatMap xC):=ho4.keep hGB.le fun b _ hb0=>hGB.same b hb0
     have hx:Sl hB (na+1) 3 (.slc na 0 1 1) 1 (xC (.list (.slc n8 0 4 4) [XR.atom x.path,.atom (decN x.type.toNat),.atom (decN x.mode.toNat),.atom x.data])):=⟨rfl,.inr ⟨na,0,1,_,.inl ⟨rfl,Nat.le_refl _⟩,⟨by omega,.inl ⟨_,_,hcB⟩⟩,by simp,rfl⟩⟩
     refine SO.append rfl rfl rfl rfl (by decide) (by decide) hoB (by omega) hx (by rw [flatMap_length xC_length];simp [xC];omega) fun v' fo' hC nC hoC hnC hkC hfC=>?_
     have hfo4:∀ b,b < n1->fo4≠some b:=fun b hb0 e=>by have:=hfo b e;omega
     have k9i:hb hC (n6+1)=some (.cell [.bool true,strOf [],u4] 56 false):=by rw [hkC (n6+1) (by omega) (hfo4 _ (by omega))];exact k9h
     repeat' refine SO.a rfl ?_
     refine SO.store1 rfl rfl rfl k9i (own_plain hoC).1 (own_plain hoC).2 (by simp) (fun hD hcD hkD=>?_)
     repeat' first|refine SW.a rfl ?_|refine SW.reg ?_|refine SO.nil ?_|refine SO.nilD ?_|refine SO.a rfl ?_|refine SO.add rfl rfl rfl rfl (by omega) ?_|fail
     have hrob:Rob (n6+2) hB (na+1) (.list (.slc n8 0 4 4) [XR.atom x.path,.atom (decN x.type.toNat),.atom (decN x.mode.toNat),.atom x.data]):=by
      intro g' m' hm' hg'
      refine .list _ _ (hs9 g' m' (by omega) ?_) ?_
      ·rw [hg' n8 _ _ (by omega) (by omega) (by rw [hEB.same n8 (by omega),hEa.same n8 (by omega)];exact hc9)]
       exact hc9.symm
      ·intro y hy
       simp only [List.mem_cons,List.not_mem_nil,or_false] at hy
       rcases hy with rfl|rfl|rfl|rfl<;>exact .atom _
     have hstep:∀ y,Rob (n6+2) hC nC y->Rob (n6+2) hD nC y:=fun y hy=>hy.mono (Nat.le_refl _) fun b vs e hb1 hb2 hb3=>by rw [hkD b (by omega)];exact hb3
     refine SW.again ?_
     refine ih2 (j+1) hD nC v' fo' (xs++[.list (.slc n8 0 4 4) [XR.atom x.path,.atom (decN x.type.toNat),.atom (decN x.mode.toNat),.atom x.data]]) (by omega) (by have:=hGB.le;omega) ?_ hcD ?_ (fo_append hfo (by have:=hGB.le;omega) hfC) ?_ ?_ ?_ ?_ ?_ _ rfl rfl rfl rfl rfl rfl rfl rfl rfl rfl
     ·intro b hb1 hb2
      rw [hkD b hb2,hkC b (by have:=hGB.le;omega) (hfo4 b hb1),hGB.same b (by omega)]
      exact hk b hb1 hb2
     ·rw [List.flatMap_append]
      have:=hoC.keep (h':=hD) (Nat.le_refl _) fun b hb1 _=>hkD b (by omega)
      simpa using this
     ·intro y hy
      rcases List.mem_append.1 hy with hy|hy
      ·exact hstep y (((ok4 y hy).ext hGB).append hoB hnC hkC)
      ·simp at hy;subst hy;exact hstep _ (hrob.append hoB hnC hkC)
     ·intro y hy
      rcases List.mem_append.1 hy with hy|hy
      ·exact fit4 y hy
      ·simp at hy;subst hy
       refine .list 1 _ _ fun z hz=>?_
       simp only [List.mem_cons,List.not_mem_nil,or_false] at hz
       rcases hz with rfl|rfl|rfl|rfl
       ·exact .atom _ _ (by omega)
       ·exact fit_dec _ _ (by omega)
       ·exact fit_dec _ _ (by omega)
       ·exact .atom _ _ (by omega)
     ·rw [encs_append,en4,htake]
      simp only [XR.encs,XR.enc,List.append_nil,encFile,encA,encL]
     ·rw [nodess_append,no4];simp [XR.nodess,XR.nodes];omega
     ·simp [hxl]
   have loop1:∀ (k j:Nat) (g:Hp) (m:Nat) (u3:AV) (fo3:Option Nat) (ys:List XR),j+k=r.s.parents.length->n6+2<=m->(∀ b,b < n6+2->b≠n6->hb g b=hb hS b)->hb g n6=some (.cell [.bool true,strOf [],u3] 56 false)->Own g (n6+2) m 3 56 u3 fo3 (ys.flatMap xC)->(∀ y ∈ ys,Rob (n6+2) g m y)->(∀ y ∈ ys,XFit 2 y)->XR.encs ys=(r.s.parents.take j).flatMap (fun p=>encA (decN p.toNat))->XR.nodess ys=j->ys.length=j ->
     ∀ R,look R r5=some (strOf acc)->look R r7=some (.ptr n2 0)->look R r8=some (.ptr n6 0)->look R r9=some (.ptr (n6+1) 0)->look R r21=some v->look R r22=some (.int .i64 (rs.length:Int))->look R r23=some (.int .i64 (i:Int))->look R r30=some r.vp->look R r31=some (.int .i64 (r.s.parents.length:Int))->look R r32=some (.int .i64 (j:Int))->SW E Q 10 R [.code c10x14,.inLoop c10x14,.inBlock 2,.code (.seq (.seq (.reg c10x15) (.block 4 (.loop c10x20))) (.seq (.draw c10x21) (.reg c10x22))),.inBlock 1,.code (.reg c10x23),.inLoop c10x24,.inBlock 0,.code (.seq (.reg c10x25) .ret)] cs g m:=by
    intro k
    induction k with
    | zero =>
     intro j g m u3 fo3 ys hj hm hk k8 ho3 ok3 fit3 en3 no3 hyl R q5 q7 q8 q9 q21 q22 q23 q30 q31 q32
     rw [show j=r.s.parents.length by omega,List.take_length] at en3
     rw [show j=r.s.parents.length by omega] at no3
     have hG:Gr h2 n2 g m:=⟨by have:=hGS.le;omega,fun b hb0=>by rw [hk b (by omega) (by omega)];exact hGS.same b hb0⟩
     have hff:=hfs.ext hG
     have k7:hb g n2=some (.cell (srC r) 38 false):=by rw [hk n2 (by omega) (by omega)];exact kS7
     have k9:hb g (n6+1)=some (.cell [.bool true,strOf [],.nils] 56 false):=by rw [hk (n6+1) (by omega) (by omega)];exact kS9
     refine SW.sub (R':=[(r5,strOf acc),(r7,.ptr n2 0),(r8,.ptr n6 0),(r9,.ptr (n6+1) 0),(r21,v),(r22,.int .i64 (rs.length:Int)),(r23,.int .i64 (i:Int)),(r30,r.vp),(r31,.int .i64 (r.s.parents.length:Int)),(r32,.int .i64 (j:Int))]) (by simp [q5,q7,q8,q9,q21,q22,q23,q30,q31,q32]) ?_
     repeat' first|refine SO.loadV rfl rfl rfl k7 rfl ?_|refine SW.a rfl ?_|refine SW.reg ?_|refine SO.nil ?_|refine SO.a rfl ?_|refine SO.lenSl rfl rfl rfl (by assumption) ?_|refine SO.cF rfl (by omega) ?_|fail
     refine SW.loop ?_
     exact loop2 g m u3 fo3 ys hm k7 k8 hG ho3 ok3 fit3 en3 no3 r.s.files.length 0 g m .nils none [] (by omega) (Nat.le_refl _) (fun _ _ _=>rfl) k9 (.inl ⟨rfl,rfl,rfl⟩) (by simp) (by simp) (by simp) rfl rfl rfl _ rfl rfl rfl rfl rfl rfl rfl rfl rfl rfl
    | succ k ih1 =>
     intro j g m u3 fo3 ys hj hm hk k8 ho3 ok3 fit3 en3 no3 hyl R q5 q7 q8 q9 q21 q22 q23 q30 q31 q32
     have hj':j < r.s.parents.length:=by omega
     have hG:Gr h2 n2 g m:=⟨by have:=hGS.le;omega,fun b hb0=>by rw [hk b (by omega) (by omega)];exact hGS.same b hb0⟩
     have hpp:=hps.ext hG
     have hm1:=hr2.parents r.s.parents[j] (List.getElem_mem hj')
     refine SW.sub (R':=[(r5,strOf acc),(r7,.ptr n2 0),(r8,.ptr n6 0),(r9,.ptr (n6+1) 0),(r21,v),(r22,.int .i64 (rs.length:Int)),(r23,.int .i64 (i:Int)),(r30,r.vp),(r31,.int .i64 (r.s.parents.length:Int)),(r32,.int .i64 (j:Int))]) (by simp [q5,q7,q8,q9,q21,q22,q23,q30,q31,q32]) ?_
     repeat' first|refine SO.idxOf (fun _=>rfl) rfl rfl rfl rfl hpp hj' (fun a o hp=>?_)|refine SO.load0 rfl rfl rfl (by assumption) (Gr.refl _ _) ?_|refine SO.loadV rfl rfl rfl k8 rfl ?_|refine SW.a rfl ?_|refine SW.reg ?_|refine SO.nil ?_|(refine SW.drawG ?_;simp only [gOps,gRc,gTail])|refine SO.a rfl ?_|refine SO.cT rfl (by omega) ?_|fail
     have htake:(r.s.parents.take (j+1)).flatMap (fun p=>encA (decN p.toNat))=(r.s.parents.take j).flatMap (fun p=>encA (decN p.toNat))++encA (decN r.s.parents[j].toNat):=by rw [List.take_succ_eq_append_getElem hj',List.flatMap_append];simp
     have hfn:=number13 (hpw.ext (hE2.trans hG)) r.s.parents[j].toNat (by omega)
     rw [Int.toNat_of_nonneg hm1.1] at hfn
     refine SO.callG rfl rfl rfl hfn ?_
     rintro _ h3 n3 ⟨rfl,hE3⟩
     have l3:=hE3.le
     have k8a:hb h3 n6=some (.cell [.bool true,strOf [],u3] 56 false):=by rw [hE3.same n6 (by omega)];exact k8
     refine SO.more (Still.loadV (c:=⟨none,none,[],.mov⟩) rfl rfl rfl k8a rfl (Still.nil)) ?_
     simp only [gOps,gRc,gTail]
     refine SO.bslice rfl rfl rfl (fun k=>rfl) (fun hB hcB hEB=>?_)
     have k8b:hb hB n6=some (.cell [.bool true,strOf [],u3] 56 false):=by rw [hEB.same n6 (by omega)];exact k8a
     refine SO.more (Still.loadV (c:=⟨none,none,[],.mov⟩) rfl rfl rfl k8b rfl (Still.nil)) ?_
     simp only [gOps,gRc,gTail]
     have hGB:Gr g m hB (n3+1):=hE3.trans hEB
     have hoB:Own hB (n6+2) (n3+1) 3 56 u3 fo3 (ys.flatMap xC):=ho3.keep hGB.le fun b _ hb0=>hGB.same b hb0
     have hx:Sl hB (n3+1) 3 (.slc n3 0 1 1) 1 (xC (.atom (decN r.s.parents[j].toNat))):=⟨rfl,.inr ⟨n3,0,1,_,.inl ⟨rfl,Nat.le_refl _⟩,⟨by omega,.inl ⟨_,_,hcB⟩⟩,by simp,rfl⟩⟩
     refine SO.append rfl rfl rfl rfl (by decide) (by decide) hoB (by omega) hx (by rw [flatMap_length xC_length];simp [xC];omega) fun v' fo' hC nC hoC hnC hkC hfC=>?_
     have hfo3:∀ b,b < n6+2->fo3≠some b:=fun b hb0 e=>by have:=own_ge ho3 e;omega
     have k8c:hb hC n6=some (.cell [.bool true,strOf [],u3] 56 false):=by rw [hkC n6 (by omega) (hfo3 _ (by omega))];exact k8b
     repeat' refine SO.a rfl ?_
     refine SO.store1 rfl rfl rfl k8c (own_plain hoC).1 (own_plain hoC).2 (by simp) (fun hD hcD hkD=>?_)
     repeat' first|refine SW.a rfl ?_|refine SW.reg ?_|refine SO.nil ?_|refine SO.nilD ?_|refine SO.a rfl ?_|refine SO.add rfl rfl rfl rfl (by omega) ?_|fail
     have hstep:∀ y,Rob (n6+2) hC nC y->Rob (n6+2) hD nC y:=fun y hy=>hy.mono (Nat.le_refl _) fun b vs e hb1 hb2 hb3=>by rw [hkD b (by omega)];exact hb3
     refine SW.again ?_
     refine ih1 (j+1) hD nC v' fo' (ys++[.atom (decN r.s.parents[j].toNat)]) (by omega) (by have:=hGB.le;omega) ?_ hcD ?_ ?_ ?_ ?_ ?_ ?_ _ rfl rfl rfl rfl rfl rfl rfl rfl rfl rfl
     ·intro b hb1 hb2
      rw [hkD b hb2,hkC b (by have:=hGB.le;omega) (hfo3 b hb1),hGB.same b (by omega)]
      exact hk b hb1 hb2
     ·rw [List.flatMap_append]
      have:=hoC.keep (h':=hD) (Nat.le_refl _) fun b hb1 _=>hkD b (by omega)
      simpa using this
     ·intro y hy
      rcases List.mem_append.1 hy with hy|hy
      ·exact hstep y (((ok3 y hy).ext hGB).append hoB hnC hkC)
      ·simp at hy;subst hy;exact .atom _ _ _ _
     ·intro y hy
      rcases List.mem_append.1 hy with hy|hy
      ·exact fit3 y hy
      ·simp at hy;subst hy;exact fit_dec _ _ (by omega)
     ·rw [encs_append,en3,htake]
      simp only [XR.encs,XR.enc,List.append_nil,encA]
     ·rw [nodess_append,no3];simp [XR.nodess,XR.nodes]
     ·simp [hyl]
   have hps':=hps.ext hGS
   repeat' first|refine SO.loadV rfl rfl rfl kS7 rfl ?_|refine SW.a rfl ?_|refine SW.reg ?_|refine SO.nil ?_|refine SO.a rfl ?_|refine SO.lenSl rfl rfl rfl (by assumption) ?_|fail
   refine SW.loop ?_
   exact loop1 r.s.parents.length 0 hS (n6+2) .nils none [] (by omega) (Nat.le_refl _) (fun _ _ _=>rfl) kS8 (.inl ⟨rfl,rfl,rfl⟩) (by simp) (by simp) rfl rfl rfl _ rfl rfl rfl rfl rfl rfl rfl rfl rfl rfl
 have hsl0:=hs.sl
 repeat' first|refine SW.a rfl ?_|refine SW.reg ?_|refine SO.nil ?_|refine SO.a rfl ?_|refine SO.lenSl rfl rfl rfl (by assumption) ?_|refine SO.cF rfl (by omega) ?_|fail
 refine SW.loop ?_
 exact loop rs.length 0 h1 n1 (by omega) hE _ rfl rfl rfl rfl
end Go.Ev
