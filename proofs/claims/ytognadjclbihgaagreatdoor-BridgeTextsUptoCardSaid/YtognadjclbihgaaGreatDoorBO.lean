/- The memory in which the calls begin. -/
import Derived.Test.YtognadjclbihgaaGreatDoorKAwake2
import Derived.Test.YtognadjclbihgaaGreatDoorBG
import Derived.Test.YtognadjclbihgaaGreatDoorBN
import Derived.Test.YtognadjclbihgaaGreatDoorE7
set_option linter.all false
namespace Go.Ev
open Go.Proofs
set_option maxRecDepth 100000
theorem pok2 (w:World):POk ⟨Tryz.prog,N2,w⟩ where
 mixed:=mixed
 name:=fun f F h=>names_of h
 ext:=by
  intro f x hx
  simp only [extN,N2] at hx
  split at hx
  case isFalse=>simp at hx
  rename_i hlt
  split at hx<;>simp at hx
  ·subst hx;exact⟨_,Tryz.func205,names_of Tryz.func205,ext0.1,ext205.1,ext205.2⟩
  ·subst hx;exact⟨_,Tryz.func425,names_of Tryz.func425,ext0.2.1,ext425.1,ext425.2⟩
  ·subst hx;exact⟨_,Tryz.func568,names_of Tryz.func568,ext0.2.2,ext568.1,ext568.2⟩
  ·exfalso;revert hlt;decide
  ·exfalso;revert hlt;decide
structure Same (w w':World):Prop where
 old:∀ b,b < w.heap.size->w'.heap[b]?=w.heap[b]?
 size:w.heap.size<=w'.heap.size
 os:w'.os=w.os
 output:w'.output=w.output
 tape:w'.tape=w.tape
theorem Same.trans {w w' w'':World} (h:Same w w') (h':Same w' w''):Same w w'' :=
 ⟨fun b hb0=>by rw [h'.old b (by have:=h.size;omega),h.old b hb0],Nat.le_trans h.size h'.size,h'.os.trans h.os,h'.output.trans h.output,h'.tape.trans h.tape⟩
theorem N2_big (m:Nat) (hm:1000000<=m) (h2:m≠1000002) (h3:m≠1000003):N2 m=none:=by
 unfold N2
 split<;>first|rfl|exact absurd rfl h2|exact absurd rfl h3 |(exfalso;revert hm;decide)
structure Globs (w:World):Prop where
 err:∃ (c:Array Value) (e:TypeId) (fr:Nat × Nat) (t:TypeId) (b off:Nat) (c':Array Value) (e':TypeId) (fr':Nat × Nat),w.heap[2]?=some (.cells c e fr)/\c[0]?=some (.iface t (.pointer (some ⟨b,off,none⟩)))/\w.heap[b]?=some (.cells c' e' fr')/\off<=c'.size
 pow:∃ (tab:Array Value) (te:TypeId) (tf:Nat × Nat),w.heap[3]?=some (.cells tab te tf)/\∀ i:Nat,i < 20->tab[i]?=some (.int .u64 ((10 ^ i:Nat):Int))
theorem rel_int {φ:Phi} {k:IntKind} {i:Int} {c:Value} (h:VRel φ (.int k i) c):c=.int k i:=by simpa [VRel] using h
theorem rel_bool {φ:Phi} {b:Bool} {c:Value} (h:VRel φ (.bool b) c):c=.bool b:=by simpa [VRel] using h
theorem rel_str {φ:Phi} {bs:List UInt8} {c:Value} (h:VRel φ (strOf bs) c):c=.string ⟨bs.toArray⟩:=by
 simp only [strOf,VRel] at h
 have:=bytesOf_codeL bs
 unfold codeL at this
 rw [this] at h
 exact h.2
theorem rel_three {φ:Phi} {v:AV} {i j:Int} {c:Value} (h:VRel φ (.tup [v,.int .i64 i,.int .i64 j]) c):∃ x,c=.tuple #[x,.int .i64 i,.int .i64 j]/\VRel φ v x:=by
 simp only [VRel] at h
 obtain⟨x,rfl,h⟩:=h
 match hx:x.toList,h with
 | l,h =>
  obtain⟨c1,r1,e1,h1,c2,r2,e2,h2,c3,r3,e3,h3,h4⟩:=h
  subst e2 e3
  have h4':r3=[]:=h4
  subst h4'
  rw [rel_int h2,rel_int h3] at e1
  exact⟨c1,by rw [<- Array.toArray_toList (xs:=x),hx,e1],h1⟩
theorem strOf_rel' {φ:Phi} (s:ByteArray):VRel φ (strOf s.data.toList) (.string s):=strOf_rel s.data.toList
def Now (w0:World) (w:World) (φ:Phi) (h:Hp) (n:Nat):Prop:=W ⟨Tryz.prog,N2,w0⟩ φ h n w
theorem Now.same {w0 w:World} {φ:Phi} {h:Hp} {n:Nat} (hN:Now w0 w φ h n):Same w0 w:=⟨hN.old,hN.size,hN.os,hN.output,hN.tape⟩
theorem rel_two {φ:Phi} {bs:List UInt8} {i:Int} {c:Value} (h:VRel φ (.tup [strOf bs,.int .i64 i]) c):c=.tuple #[.string ⟨bs.toArray⟩,.int .i64 i]:=by
 simp only [VRel] at h
 obtain⟨x,rfl,h⟩:=h
 obtain⟨c1,c2,e,h1,h2⟩:=VRels.two.1 h
 rw [rel_str h1,rel_int h2] at e
 rw [<- Array.toArray_toList (xs:=x),e]
theorem Now.call {w0 w:World} {φ:Phi} {h:Hp} {n:Nat} (hN:Now w0 w φ h n) {g:FuncId} {args:List AV} {cargs:Array Value} {Pst:AV->Hp->Nat->Prop} (hf:Fn E g args h n Pst) (hr:VRels φ args cargs.toList) :
  Calls Tryz.prog g cargs w fun e w'=>∃ v c φ' h' n',Pst v h' n'/\VRel φ' v c/\e=.returned c/\φ.le φ'/\Now w0 w' φ' h' n':=fn_calls_on (pok2 w0) hf hN hr
theorem calls5 (w:World):Calls Tryz.prog 5 #[] w fun e w'=>e=.returned (.bool true)/\Same w w' :=
 (awake_calls w).mono fun e w' ⟨h1,h2,h3,h4,h5,h6⟩=>⟨h1,h2,h3,h4,h5,h6⟩
end Go.Ev
