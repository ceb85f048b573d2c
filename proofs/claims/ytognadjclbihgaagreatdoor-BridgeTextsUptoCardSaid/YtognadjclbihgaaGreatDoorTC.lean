/- BridgeTexts: the contract. -/
import Derived.Test.YtognadjclbihgaaGreatDoorT2
import Derived.Test.YtognadjclbihgaaGreatDoorCards
import Derived.OpenShut
import Derived.Deep.DeepHandedRow
import Derived.Lib.LaidTab
import Derived.ReadAgain
import Derived.Stop.LaidErr
import Derived.ChangeMaps
import Derived.RowKitTokens
set_option linter.all false
namespace Go.Proofs.YtognadjclbihgaaGreatDoor
open Go.ChangeShapes Go.WideShapes Go.ChangeAt Go.RowKit Go.Ev
open Go.ChangeMaps (open_string shut_string)
set_option maxRecDepth 100000
theorem gTab:Tryz.prog.globalNamed "internal/strconv.uint64pow10" = some 3:=by kernel_rfl
theorem gTabType:(Tryz.prog.globals[3]?).map (·.type)=some 547:=by kernel_rfl
theorem cells547:Tryz.prog.cellsOf 547=20:=by kernel_rfl
theorem cells303:Tryz.prog.cellsOf 303=1:=by kernel_rfl
theorem gErr:Tryz.prog.globalNamed "strconv.ErrRange" = some 2:=by kernel_rfl
theorem gErrType:(Tryz.prog.globals[2]?).map (·.type)=some 156:=by kernel_rfl
theorem cells623:Tryz.prog.cellsOf 623=1:=by kernel_rfl
theorem star: "*" ++ "errors.errorString" = "*errors.errorString":=by decide
theorem row621 (u:TypeId) (h:Tryz.prog.typeName? 3 u=some "*errors.errorString") : u=621 :=
 typeName_ptr_named (nm:= "errors.errorString") (by rw [star];kernel_rfl) (by kernel_rfl) (by decide) u (by rw [star];exact h)
def pows:List Int:=[1,10,100,1000,10000,100000,1000000,10000000,100000000,1000000000,10000000000,100000000000,1000000000000,10000000000000,100000000000000,1000000000000000,10000000000000000,100000000000000000,1000000000000000000,10000000000000000000]
theorem heap_of {W:World} {b off:Nat} {sp:Option Nat} {v:Value} (h:W.cell? ⟨b,off,none⟩=some v):∃ c e fr,W.heap[b]?=some (.cells c e fr)/\c[off]?=some v:=by
 obtain⟨c,e,fr,hh⟩:∃ c e fr,W.heap[b]?=some (.cells c e fr):=by
  unfold World.cell? at h
  split at h
  ·rename_i hh;exact⟨_,_,_,hh⟩
  ·simp at h
 refine⟨c,e,fr,hh,?_⟩
 unfold World.cell? at h
 simpa [hh] using h
theorem globs {W:World} (h1:Lib.TabIs Tryz.prog W "internal/strconv.uint64pow10" .u64 pows) {a:Addr} {s:ByteArray} (h2:W.var? Tryz.prog "strconv.ErrRange" = some #[.iface 621 (.pointer (some a))]) (h3:W.cell? a=some (.string s)):Globs W:=by
 have hc:∀ i:Nat,i < 20->W.cell? ⟨3,i,none⟩=some (.int .u64 ((10 ^ i:Nat):Int)):=fun i hi=>by
  have h4:=h1.cell gTab i hi
  have h5:∀ i:Nat,i < 20->pows.getD i 0=((10 ^ i:Nat):Int):=by decide
  rw [h5 i hi] at h4
  exact h4
 refine⟨?_,?_⟩
 ·have h4:W.cell? ⟨2,0,none⟩=some (.iface 621 (.pointer (some a))):=by simpa using World.var?_cell gErr h2 0
  obtain⟨c,e,fr,h5,h6⟩:=heap_of (sp:=none) h4
  obtain⟨b,off,spot⟩:=a
  have hspot:spot=none:=by simpa using World.cell?_spot h3
  subst hspot
  obtain⟨c',e',fr',h7,h8⟩:=heap_of (sp:=none) h3
  exact⟨c,e,fr,621,b,off,c',e',fr',h5,h6,h7,Nat.le_of_lt (Array.getElem?_eq_some_iff.1 h8).1⟩
 ·obtain⟨tab,te,tf,h5,_⟩:=heap_of (sp:=none) (hc 0 (by omega))
  refine⟨tab,te,tf,h5,fun i hi=>?_⟩
  obtain⟨tab',te',tf',h6,h7⟩:=heap_of (sp:=none) (hc i hi)
  rw [h5] at h6
  simp only [Option.some.injEq,Obj.cells.injEq] at h6
  rw [h6.1];exact h7
theorem globsOf {W:World} (h:laidMetH Tryz.prog Rows.bridgeTextsUptoRow.laid W):Globs W:=by
 have h':laidMet Tryz.prog Rows.bridgeTextsUptoRow.laid W:=h
 have h2:laidMet Tryz.prog [("internal/strconv.uint64pow10",Rows.laid_internal_strconv_uint64pow10),("math/bits.deBruijn32tab",Rows.laid_math_bits_deBruijn32tab),("math/bits.deBruijn64tab",Rows.laid_math_bits_deBruijn64tab),("strconv.ErrSyntax",Rows.laid_strconv_ErrSyntax),("strconv.ErrRange",Rows.laid_strconv_ErrRange)] W:=laidMet.tail (laidMet.tail h')
 have h6:laidMet Tryz.prog [("strconv.ErrRange",Rows.laid_strconv_ErrRange)] W:=laidMet.tail (laidMet.tail (laidMet.tail (laidMet.tail h2)))
 obtain⟨a,s,k1,k2,_,_⟩:=laid_sentinel (nm:= "*errors.errorString") (text:=[118,97,108,117,101,32,111,117,116,32,111,102,32,114,97,110,103,101]) h6 gErr gErrType Tryz.underlying156 row621 Tryz.underlying621 Tryz.underlying623 rfl rfl Tryz.underlying9 cells623 cells9
 exact globs (Lib.tabIs_of_head gTab gTabType Tryz.underlying547 Tryz.underlying303 cells303 cells547 h2) k1 k2
def Met (t:TypeId):Prop:=t=23\/t=38\/t=34\/t=9\/t=3\/t=36\/t=68
theorem kids:Kids Tryz.prog Met where
 pointer:=by
  rintro t e (rfl|rfl|rfl|rfl|rfl|rfl|rfl) h
  ·rw [Tryz.underlying23] at h;cases h
  ·rw [Tryz.underlying38] at h;cases h
  ·rw [Tryz.underlying34] at h;cases h
  ·rw [Tryz.underlying9] at h;cases h
  ·rw [Tryz.underlying3] at h;cases h
  ·rw [Tryz.underlying36] at h;cases h
  ·rw [Tryz.underlying68] at h;cases h
 slice:=by
  rintro t e (rfl|rfl|rfl|rfl|rfl|rfl|rfl) h
  ·rw [Tryz.underlying23] at h;cases h;simp [Met]
  ·rw [Tryz.underlying38] at h;cases h
  ·rw [Tryz.underlying34] at h;cases h;simp [Met]
  ·rw [Tryz.underlying9] at h;cases h
  ·rw [Tryz.underlying3] at h;cases h
  ·rw [Tryz.underlying36] at h;cases h;simp [Met]
  ·rw [Tryz.underlying68] at h;cases h
 array:=by
  rintro t e n (rfl|rfl|rfl|rfl|rfl|rfl|rfl) h
  ·rw [Tryz.underlying23] at h;cases h
  ·rw [Tryz.underlying38] at h;cases h
  ·rw [Tryz.underlying34] at h;cases h
  ·rw [Tryz.underlying9] at h;cases h
  ·rw [Tryz.underlying3] at h;cases h
  ·rw [Tryz.underlying36] at h;cases h
  ·rw [Tryz.underlying68] at h;cases h
 map:=by
  rintro t k e (rfl|rfl|rfl|rfl|rfl|rfl|rfl) h
  ·rw [Tryz.underlying23] at h;cases h
  ·rw [Tryz.underlying38] at h;cases h
  ·rw [Tryz.underlying34] at h;cases h
  ·rw [Tryz.underlying9] at h;cases h
  ·rw [Tryz.underlying3] at h;cases h
  ·rw [Tryz.underlying36] at h;cases h
  ·rw [Tryz.underlying68] at h;cases h
 struct:=by
  rintro t fs (rfl|rfl|rfl|rfl|rfl|rfl|rfl) h
  ·rw [Tryz.underlying23] at h;cases h
  ·rw [Tryz.underlying38] at h;cases h
   refine⟨fun f hf=>?_,by rw [cells38];simp [cells34,cells9,cells3,cells36],fun j f hj=>?_⟩
   ·simp at hf
    rcases hf with rfl|rfl|rfl|rfl|rfl<;>simp [Met]
   ·match j with
    | 0=>simp at hj;subst hj;rfl
    | 1=>simp at hj;subst hj;simp [cells34,cells9,cells3,cells36]
    | 2=>simp at hj;subst hj;simp [cells34,cells9,cells3,cells36]
    | 3=>simp at hj;subst hj;simp [cells34,cells9,cells3,cells36]
    | 4=>simp at hj;subst hj;simp [cells34,cells9,cells3,cells36]
    | j+5=>simp at hj
  ·rw [Tryz.underlying34] at h;cases h
  ·rw [Tryz.underlying9] at h;cases h
  ·rw [Tryz.underlying3] at h;cases h
  ·rw [Tryz.underlying36] at h;cases h
  ·rw [Tryz.underlying68] at h;cases h
   refine⟨fun f hf=>?_,by rw [cells68];simp [cells9,cells3],fun j f hj=>?_⟩
   ·simp at hf
    rcases hf with rfl|rfl|rfl|rfl<;>simp [Met]
   ·match j with
    | 0=>simp at hj;subst hj;rfl
    | 1=>simp at hj;subst hj;simp [cells9,cells3]
    | 2=>simp at hj;subst hj;simp [cells9,cells3]
    | 3=>simp at hj;subst hj;simp [cells9,cells3]
    | j+4=>simp at hj
theorem full:∀ t e,Met t->Tryz.prog.underlying t=some (.slice e)->0 < Tryz.prog.cellsOf e:=by
 rintro t e (rfl|rfl|rfl|rfl|rfl|rfl|rfl) h
 ·rw [Tryz.underlying23] at h;cases h;rw [cells38];decide
 ·rw [Tryz.underlying38] at h;cases h
 ·rw [Tryz.underlying34] at h;cases h;rw [cells3];decide
 ·rw [Tryz.underlying9] at h;cases h
 ·rw [Tryz.underlying3] at h;cases h
 ·rw [Tryz.underlying36] at h;cases h;rw [cells68];decide
 ·rw [Tryz.underlying68] at h;cases h
theorem same_at {W W':World} (hS:Same W W') {p:MemPlace} (hp:p.block < W.heap.size):W.sameAt W' p:=by
 cases p with
 | cell b off =>
  show W'.cell? ⟨b,off,none⟩=W.cell? ⟨b,off,none⟩
  unfold World.cell?
  rw [show W'.heap[(⟨b,off,none⟩:Addr).block]?=W.heap[(⟨b,off,none⟩:Addr).block]? from hS.old b hp]
 | map b=>exact hS.old b hp
theorem results4:Tryz.f4.resultTypes=#[4]:=by kernel_rfl
theorem contract (H:Type) (enc:TypeId × Value->H) (W:World) (base:Nat) (args:Array Value) (ds gs:List (DataW H)) (before:List MemPlace)
  (hval:∀ (j:Nat) t v,Tryz.f4.params[j]?=some t->args[j]?=some v->Value.okWide Tryz.prog W .any base t v)
  (hW:DataW.Whole enc Tryz.prog Tryz.f4.params.toList Rows.bridgeTextsSpec.vars false W args.toList ds gs before) (hb:Rows.uptoBulkAll (ds++gs)<=1048576) (hG:Globs W) :
  Calls Tryz.prog 4 args W fun e W'=>∃ v,e=.returned v/\Rows.bridgeTextsSpec.post enc Tryz.prog Tryz.f4 false true false false W args v W':=by
 have hW':=hW
 obtain⟨p,q,hA0,hV,rfl,hfz,hnd⟩:=hW
 have hA:DataW.TrodAll enc Tryz.prog W 0 (fun _=>true) true Tryz.f4.params.toList args.toList ds p:=hA0
 rw [Tryz.params4] at hA hval
 obtain⟨v0,v1,d0,d1,p0,p1,hargs,rfl,rfl,h0,h1⟩:=trodAll_two hA
 obtain rfl:args=#[v0,v1]:=by cases args;simp_all
 obtain⟨rfl,rfl⟩:=trodVars_none hV
 clear hA0
 obtain⟨s,rfl,rfl,rfl,ws⟩:=open_string Tryz.underlying9 (hval 1 9 v1 rfl rfl) h1
 simp only [List.append_nil] at hW' hb
 have hb':Rows.uptoBulk d0<=1048576:=by
  have:Rows.uptoBulk d0+(Rows.uptoBulk (DataW.lit (.string s.data.toList):DataW H)+0)<=1048576:=by simpa [Rows.uptoBulkAll] using hb
  omega
 obtain⟨fuel,hf⟩:=id h0
 obtain⟨v,raws,hcs,ha,hl,hr⟩:=open_arg hf
 have hok:=hval 0 23 v0 rfl rfl
 have hone:v0.cells=#[v0]:=by
  cases v0<;>first|rfl|skip
  simp [Value.okWide,Tryz.underlying23,Cell.okWide,Cell.ok] at hok
 rw [hone] at hcs
 simp at hcs
 subst hcs
 obtain⟨φ,h,n,av,rs,hN,he,hp,hx,hs⟩:=start2 hG ha (fun r hr'=>(hr r hr').more hb') (by simp only at hl;omega)
 have hlt:∀ q ∈ p0,q.block < W.heap.size:=fun q hq=>hW'.lt q hq
 refine (walk4 hN he hp hx hs s).mono fun e W' ⟨he,hS⟩=>?_
 subst he
 refine⟨_,rfl,[d0,.lit (.string s.data.toList)],[],p0,[],p0,[],hW',?_,?_,rfl,⟨hS.os,hS.output,fun i hi=>?_⟩,fun h=>by cases h⟩
 ·rw [results4]
  exact trodAll_cons_mk (shut_bool Tryz.underlying4 _) trodAll_mk0
 ·rw [Tryz.params4]
  refine⟨p0,[],DataW.Trod.respare kids full (by simp [Met]) ?_ fun q hq=>by simpa using hlt q hq,trodAll_mk1 (shut_string Tryz.underlying9 ws),(List.append_nil p0).symm⟩
  obtain⟨fuel,hf⟩:=h0
  exact⟨fuel,DataW.trod_carry fuel _ _ _ hf fun q hq=>same_at hS (hlt q hq)⟩
 ·rw [hS.old i hi]
  cases W.heap[i]? with
  | none=>rfl
  | some o=>cases o<;>simp
end Go.Proofs.YtognadjclbihgaaGreatDoor
