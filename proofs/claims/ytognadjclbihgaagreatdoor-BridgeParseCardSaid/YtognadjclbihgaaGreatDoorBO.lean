/- The memory in which the calls begin. -/
import Derived.Test.YtognadjclbihgaaGreatDoorKAwake2
import Derived.Test.YtognadjclbihgaaGreatDoorBG
import Derived.Test.YtognadjclbihgaaGreatDoorBN
import Derived.Test.YtognadjclbihgaaGreatDoorE7
import Derived.Test.YtognadjclbihgaaGreatDoorBM
import Derived.Test.YtognadjclbihgaaGreatDoorFE
import Derived.WalkKit
import Derived.ProofKit
set_option linter.all false
namespace Go.Ev
open Go.Proofs
set_option maxRecDepth 100000
theorem pok2 (w:World):POk ⟨Tryz.prog,N2,w⟩ where
 mixed:=mixed
 name:=fun f F h=>names_of h
 ext:=by
  intro f x hx
  simp only [extN,N2] at hx
  split at hx
  case isFalse=>simp at hx
  rename_i hlt
  split at hx<;>simp at hx
  ·subst hx;exact⟨_,Tryz.func205,names_of Tryz.func205,ext0.1,ext205.1,ext205.2⟩
  ·subst hx;exact⟨_,Tryz.func425,names_of Tryz.func425,ext0.2.1,ext425.1,ext425.2⟩
  ·subst hx;exact⟨_,Tryz.func568,names_of Tryz.func568,ext0.2.2,ext568.1,ext568.2⟩
  ·exfalso;revert hlt;decide
  ·exfalso;revert hlt;decide
structure Same (w w':World):Prop where
 old:∀ b,b < w.heap.size->w'.heap[b]?=w.heap[b]?
 size:w.heap.size<=w'.heap.size
 os:w'.os=w.os
 output:w'.output=w.output
 tape:w'.tape=w.tape
theorem Same.trans {w w' w'':World} (h:Same w w') (h':Same w' w''):Same w w'' :=
 ⟨fun b hb0=>by rw [h'.old b (by have:=h.size;omega),h.old b hb0],Nat.le_trans h.size h'.size,h'.os.trans h.os,h'.output.trans h.output,h'.tape.trans h.tape⟩
theorem N2_big (m:Nat) (hm:1000000<=m) (h2:m≠1000002) (h3:m≠1000003):N2 m=none:=by
 unfold N2
 split<;>first|rfl|exact absurd rfl h2|exact absurd rfl h3 |(exfalso;revert hm;decide)
structure Globs (w:World):Prop where
 err:∃ (c:Array Value) (e:TypeId) (fr:Nat × Nat) (t:TypeId) (b off:Nat) (c':Array Value) (e':TypeId) (fr':Nat × Nat),w.heap[2]?=some (.cells c e fr)/\c[0]?=some (.iface t (.pointer (some ⟨b,off,none⟩)))/\w.heap[b]?=some (.cells c' e' fr')/\off<=c'.size
 pow:∃ (tab:Array Value) (te:TypeId) (tf:Nat × Nat),w.heap[3]?=some (.cells tab te tf)/\∀ i:Nat,i < 20->tab[i]?=some (.int .u64 ((10 ^ i:Nat):Int))
theorem start {w:World} (hG:Globs w):∃ φ h n,W ⟨Tryz.prog,N2,w⟩ φ h n w/\Err h n/\Pow h n:=by
 obtain⟨⟨c,e,fr,t,b,off,c',e',fr',h1,h2,h3,h4⟩,⟨tab,te,tf,h5,h6⟩⟩:=hG
 let F:Nat->List AV:=fun a=>if a=2 then [.ifc t (.ptr 1 0)] else if a=3 then powC else []
 let pl:Nat->Pl:=fun a=>if a=2 then ⟨2,0,c.size⟩ else if a=3 then ⟨3,0,tab.size⟩ else ⟨b,off,c'.size⟩
 have hc0:0 < c.size:=(Array.getElem?_eq_some_iff.1 h2).1
 have htab:20<=tab.size:=by
  have:=(Array.getElem?_eq_some_iff.1 (h6 19 (by omega))).1
  omega
 obtain⟨h,hw,hat⟩:=w_inp (P:=Tryz.prog) (N:=N2) (w:=w) (n:=4) F pl (fun a ha1 ha2=>by
  have:a=1\/a=2\/a=3:=by omega
  rcases this with rfl|rfl|rfl
  ·exact⟨c',e',fr',h3,rfl,h4,fun i x hx=>by simp [F] at hx⟩
  ·refine⟨c,e,fr,h1,rfl,by show 0+1<=c.size;omega,fun i x hx=>?_⟩
   have hx':([.ifc t (.ptr 1 0)]:List AV)[i]?=some x:=hx
   match i,hx' with
   | 0,hx' =>
    simp only [List.getElem?_cons_zero,Option.some.injEq] at hx'
    subst hx'
    refine⟨rfl,_,h2,?_⟩
    simp only [VRel]
    exact⟨_,rfl,_,inpPhi_at (by omega) (by omega),rfl⟩
   | i+1,hx'=>simp at hx'
  ·refine⟨tab,te,tf,h5,rfl,?_,fun i x hx=>?_⟩
   ·show 0+powC.length<=tab.size
    have:powC.length=20:=by simp [powC]
    omega
   ·have hx':powC[i]?=some x:=hx
    have hi:i < 20:=by
     have:=(List.getElem?_eq_some_iff.1 hx').1
     simpa [powC] using this
    rw [powC_at i hi] at hx'
    simp only [Option.some.injEq] at hx'
    subst hx'
    exact⟨rfl,_,by rw [show (pl 3).off+i=i from Nat.zero_add i];exact h6 i hi,by simp [VRel]⟩) (fun g hg=>by
  have:g=2\/g=3:=by
   by_cases h2:g=2
   ·exact .inl h2
   ·by_cases h3:g=3
    ·exact .inr h3
    ·exfalso
     exact hg (N2_big _ (Nat.le_add_right 1000000 g) (fun e=>h2 (Nat.add_left_cancel (show 1000000+g=1000000+2 from e))) (fun e=>h3 (Nat.add_left_cancel (show 1000000+g=1000000+3 from e))))
  rcases this with rfl|rfl
  ·exact⟨by decide,by decide,c.size,rfl⟩
  ·exact⟨by decide,by decide,tab.size,rfl⟩)
 exact⟨_,h,4,hw,⟨t,.ptr 1 0,2,0,_,rfl,⟨by omega,.inr (.inr (hat 2 (by omega)))⟩,by simp [F],by simp [F]⟩,3,0,powC,rfl,⟨by omega,.inr (.inr (hat 3 (by omega)))⟩,by simp,by simp⟩
theorem rel_int {φ:Phi} {k:IntKind} {i:Int} {c:Value} (h:VRel φ (.int k i) c):c=.int k i:=by simpa [VRel] using h
theorem rel_bool {φ:Phi} {b:Bool} {c:Value} (h:VRel φ (.bool b) c):c=.bool b:=by simpa [VRel] using h
theorem rel_three {φ:Phi} {v:AV} {i j:Int} {c:Value} (h:VRel φ (.tup [v,.int .i64 i,.int .i64 j]) c):∃ x,c=.tuple #[x,.int .i64 i,.int .i64 j]/\VRel φ v x:=by
 simp only [VRel] at h
 obtain⟨x,rfl,h⟩:=h
 match hx:x.toList,h with
 | l,h =>
  obtain⟨c1,r1,e1,h1,c2,r2,e2,h2,c3,r3,e3,h3,h4⟩:=h
  subst e2 e3
  have h4':r3=[]:=h4
  subst h4'
  rw [rel_int h2,rel_int h3] at e1
  exact⟨c1,by rw [<- Array.toArray_toList (xs:=x),hx,e1],h1⟩
theorem strOf_rel' {φ:Phi} (s:ByteArray):VRel φ (strOf s.data.toList) (.string s):=strOf_rel s.data.toList
def Now (w0:World) (w:World) (φ:Phi) (h:Hp) (n:Nat):Prop:=W ⟨Tryz.prog,N2,w0⟩ φ h n w
theorem Now.same {w0 w:World} {φ:Phi} {h:Hp} {n:Nat} (hN:Now w0 w φ h n):Same w0 w:=⟨hN.old,hN.size,hN.os,hN.output,hN.tape⟩
theorem calls5 (w:World):Calls Tryz.prog 5 #[] w fun e w'=>e=.returned (.bool true)/\Same w w' :=
 (awake_calls w).mono fun e w' ⟨h1,h2,h3,h4,h5,h6⟩=>⟨h1,h2,h3,h4,h5,h6⟩
open Go.Proofs
set_option maxRecDepth 100000
theorem calls6 {w0 w:World} {φ:Phi} {h:Hp} {n:Nat} (hN:Now w0 w φ h n) (he:Err h n) (s:ByteArray) (hl:s.size<=3000):Calls Tryz.prog 6 #[.string s] w fun e w'=>∃ (φ':Phi) (h':Hp) (n':Nat) (v:AV) (x:Value) (rs:List SnapR) (a:Nat) (i:Int),e=.returned (.tuple #[x,.int .i64 (a:Int),.int .i64 i])/\Now w0 w' φ' h' n'/\φ.le φ'/\Gr h n h' n'/\VRel φ' v x/\Sn h' n' v rs/\HistIs s.data.toList rs a i :=
 (fn_calls_on (pok2 w0) (parse6 (h:=h) (n:=n) s.data.toList (Nat.le_trans (show s.data.toList.length<=3000 from hl) (by decide)) (hist_parents hl) he) hN (VRels.cons (strOf_rel' s) VRels.nil)).mono fun e w' ⟨r,c,φ',h',n',⟨hg,hp⟩,hv,he,hle,hw⟩=>by
  obtain⟨v,rs,a,i,rfl,h1,h2⟩:=hp.q
  obtain⟨x,rfl,hx⟩:=rel_three hv
  exact⟨φ',h',n',v,x,rs,a,i,he,hw,hle,hg,hx,h1,h2⟩
theorem calls7 {w0 w:World} {φ:Phi} {h:Hp} {n:Nat} (hN:Now w0 w φ h n) (s:ByteArray) (hl:s.size<=3000):Calls Tryz.prog 7 #[.string s] w fun e w'=>∃ (φ':Phi) (h':Hp) (n':Nat) (v:AV) (x:Value) (rs:List SnapR) (a:Nat) (i:Int),e=.returned (.tuple #[x,.int .i64 (a:Int),.int .i64 i])/\Now w0 w' φ' h' n'/\φ.le φ'/\Gr h n h' n'/\VRel φ' v x/\Sn h' n' v rs/\HistIs s.data.toList rs a i :=
 (fn_calls_on (pok2 w0) (refParse7 (h:=h) (n:=n) s.data.toList hl) hN (VRels.cons (strOf_rel' s) VRels.nil)).mono fun e w' ⟨r,c,φ',h',n',⟨hg,hp⟩,hv,he,hle,hw⟩=>by
  obtain⟨v,rs,a,i,rfl,h1,h2⟩:=hp
  obtain⟨x,rfl,hx⟩:=rel_three hv
  exact⟨φ',h',n',v,x,rs,a,i,he,hw,hle,hg,hx,h1,h2⟩
theorem calls8 {w0 w:World} {φ:Phi} {h:Hp} {n:Nat} (hN:Now w0 w φ h n) {v v':AV} {x x':Value} {rs rs':List SnapR} (hx:VRel φ v x) (hx':VRel φ v' x') (hs:Sn h n v rs) (hs':Sn h n v' rs') (he:rs.map (·.s)=rs'.map (·.s)):Calls Tryz.prog 8 #[x,x'] w fun e w'=>e=.returned (.bool true)/\Same w0 w' :=
 (fn_calls_on (pok2 w0) (same8 hs hs' he) hN (VRels.cons hx (VRels.cons hx' VRels.nil))).mono fun e w' ⟨r,c,φ',h',n',⟨hr,hg⟩,hv,he,hle,hw⟩=>by
  subst hr
  rw [rel_bool hv] at he
  exact⟨he,Now.same hw⟩
theorem walkLong {w:World} (s:ByteArray) (hl:¬ s.size<=3000):Calls Tryz.prog 3 #[.string s] w fun e w'=>e=.returned (.bool true)/\Same w w':=by
 go_enter Tryz.func3,Tryz.ntmps3
 go_wp2_with (go_at_call 5;refine (calls5 _).mono ?_;rintro e w2 ⟨rfl,hS2⟩)
 all_goals go_ret
 all_goals exact⟨rfl,hS2⟩
theorem walkShort {w:World} (hG:Globs w) (s:ByteArray) (hl:s.size<=3000):Calls Tryz.prog 3 #[.string s] w fun e w'=>e=.returned (.bool true)/\Same w w':=by
 obtain⟨φ,h,n,hN,he,_⟩:=start hG
 go_enter Tryz.func3,Tryz.ntmps3
 go_wp2_with (first |(go_at_call 6;refine (calls6 hN he s hl).mono ?_;rintro e w6 ⟨φ6,h6,n6,v6,x6,rs6,a6,i6,rfl,hN6,hle6,hg6,hx6,hs6,hh6⟩) |(go_at_call 7;refine (calls7 hN6 s hl).mono ?_;rintro e w7 ⟨φ7,h7,n7,v7,x7,rs7,a7,i7,rfl,hN7,hle7,hg7,hx7,hs7,hh7⟩;obtain⟨hm,rfl,rfl⟩:=hh6.eq hh7) |(go_at_call 8;refine (calls8 hN7 (hx6.mono hle7) hx7 (hs6.ext hg7) hs7 hm).mono ?_;rintro e w8 ⟨rfl,hS8⟩) |(go_at_call 5;refine (calls5 _).mono ?_;rintro e w5 ⟨rfl,hS5⟩))
 all_goals go_ret
 all_goals exact⟨rfl,hS8.trans hS5⟩
theorem walk {w:World} (hG:Globs w) (s:ByteArray):Calls Tryz.prog 3 #[.string s] w fun e w'=>e=.returned (.bool true)/\Same w w':=by
 by_cases hl:s.size<=3000
 ·exact walkShort hG s hl
 ·exact walkLong s hl
end Go.Ev
