/- An abstract interpreter for the model's code: its data and its steps. Definitions alone; everything is written so that the kernel can run it: values are kept in normal form, continuations carry them on. -/
import GoSem.Step
import Derived.Laws.Sem
import Derived.Laws.Entries
import Derived.Lib.UnsafeStr
set_option linter.all false
namespace Go.Ev
inductive Path where
 | e|a (p:Path)|b (p:Path)|c (p:Path)|d (p:Path)
inductive AV where
 | bool (b:Bool)
 | int (k:IntKind) (n:Int)
 | str (len code:Nat)
 | ptr (a off:Nat)
 | nilp
 | slc (a off len cap:Nat)
 | gsl (a off len esz:Nat)
 | nils
 | map (a:Nat)
 | nilm
 | fn (f:FuncId) (first captured:List AV)
 | yld (l:Nat)
 | nilf
 | ifc (t:TypeId) (v:AV)
 | nili
 | agg (cs:List AV)
 | tup (vs:List AV)
inductive Tr where
 | nil
 | leaf (v:AV)
 | node (a b c d:Tr)
inductive CX where
 | r (p:Path)
 | c (v:AV)
inductive Ext where
 | noEscape|countStr|indexByteStr
inductive SK where
 | int|bool|str
inductive EK where
 | num|bool|ptr|slice|map|func
 | iface (cst:Bool) (cmp:TypeId->Bool)
 | agg (sh:List SK)
 | bad
inductive OC where
 | mov
 | pick
 | alloc (z:List AV) (e:TypeId)
 | box (e:TypeId)
 | build (z:List AV) (ps:List (Nat × Nat))
 | bslice (z:List AV) (e:TypeId) (len:Nat) (ps:List (Nat × Nat))
 | loadC
 | loadA (n:Nat)
 | store (n:Nat)
 | nilchk
 | add|sub|mul|quo|rem
 | bits (op:BinOp)
 | shift (op:BinOp)
 | icmp (op:BinOp)
 | concat
 | scmp (op:BinOp)
 | eql (neg:Bool) (k:EK)
 | not|neg|inv
 | convInt (k:IntKind)
 | convSB (e:TypeId)
 | convBS
 | mkIfc (t:TypeId)
 | mkFn (f:FuncId) (nfirst:Nat)
 | mkMap
 | mkSlice (e:TypeId) (z:List AV) (bytes:Nat)
 | sliceStr (lo hi:Bool)
 | sliceSl (esz:Nat) (lo hi mx:Bool)
 | sliceArr (n esz:Nat) (lo hi mx:Bool)
 | fieldA (off:Nat)
 | field (off size:Nat) (isAgg:Bool)
 | idxArrA (len esz:Nat)
 | idxSlA (esz:Nat)
 | idxStr
 | idxArr (len esz:Nat) (isAgg:Bool)
 | lookup (sh:List SK) (isAgg:Bool) (z:AV) (ok:Bool)
 | mapUpd (sh:List SK) (isAgg:Bool)
 | rangeMap
 | nextMap
 | extract (i:Nat)
 | call (f:FuncId)
 | callv
 | invoke (name:String)
 | ext (x:Ext)
 | lenStr|lenSl|lenMap
 | append (e:TypeId) (esz:Nat)
 | cap
 | copyS
 | minInt|maxInt
 | ustr (e:TypeId)
 | usld
 | toUns
 | fromUns (u:TypeId) (s:Nat)
 | entry
 | assert (t:TypeId) (z:AV)
 | panic
 | defer
 | recover
 | bad
structure COp where
 dst:Option Path
 guard:Option (Path × Bool)
 xs:List CX
 k:OC
structure DStep where
 op:COp
 recheck:List COp
inductive CC where
 | skip
 | reg (ops:List COp)
 | draw (ds:List DStep)
 | seq (a b:CC)
 | cond (x:CX) (a b:CC)
 | block (id:Nat) (c:CC)
 | loop (c:CC)
 | rangeFunc (f:CX) (params:List Path) (assign body:CC)
 | exit (id:Nat)
 | ret
 | bad
inductive CR where
 | tmp (p:Path)
 | cellC (p:Path)
 | cellA (n:Nat) (p:Path)
structure CF where
 params:List Path
 results:List CR
 body:CC
inductive Df where
 | mark (d:Nat)
 | call (g:FuncId) (args:List AV)
inductive Un where
 | ret
 | pan (v:AV) (got:Bool)
inductive AB where
 | cell (vs:List AV) (elem:TypeId) (ro:Bool)
 | row (vs:List AV) (elem:TypeId) (fam frz:Nat)
 | map (es:List (AV × AV × Nat)) (clock:Nat)
 | miter (m:Option Nat) (since:Nat) (seen:List Nat) (stepped:Nat)
 | loop (st:LoopState) (pending:Option CC) (fn:FuncId) (regs:Tr) (params:List Path) (assign body:CC) (defers:Nat)
 | dfr (isOpen:Bool)
 | fam (low last:Nat)
 | inp (vs:List AV)
inductive HT where
 | nil
 | leaf (b:AB)
 | node (l r:HT)
structure Hp where
 t:HT
 f:Nat->Option AB
inductive AItem where
 | code (c:CC)
 | inBlock (id:Nat)
 | inLoop (c:CC)
 | inReg (dst:Option Path) (rest:List COp)
 | inDraw (dst:Option Path) (recheck:List COp) (rest:List DStep)
 | inRF (l:Nat)
 | endRF (l:Nat)
 | beginRound
 | inUnw (u:Un)
inductive AF where
 | mk (fn:FuncId) (regs:Tr) (todo:List AItem) (defers:List Df) (round:Option Nat)
noncomputable def force (n:Nat) (k:Nat->Bool):Bool:=Nat.rec (motive:=fun _=>Bool) (k 0) (fun m _=>k (Nat.succ m)) n
noncomputable def forceI (n:Int) (k:Int->Bool):Bool:=Int.rec (motive:=fun _=>Bool) (fun m=>force m fun m=>k (Int.ofNat m)) (fun m=>force m fun m=>k (Int.negSucc m)) n
noncomputable def forceB (b:Bool) (k:Bool->Bool):Bool:=Bool.rec (motive:=fun _=>Bool) (k false) (k true) b
noncomputable def guardB (b:Bool) (k:Bool):Bool:=Bool.rec (motive:=fun _=>Bool) false k b
section
variable {α:Type}
noncomputable def dropK (i:Nat):List α->(List α->Bool)->Bool :=
 Nat.rec (motive:=fun _=>List α->(List α->Bool)->Bool) (fun l k=>k l) (fun _ ih l k=>List.casesOn l (k []) (fun _ xs=>ih xs k)) i
noncomputable def takeK (i:Nat):List α->(List α->Bool)->Bool :=
 Nat.rec (motive:=fun _=>List α->(List α->Bool)->Bool) (fun _ k=>k []) (fun _ ih l k=>List.casesOn l false (fun x xs=>ih xs fun ys=>k (x::ys))) i
noncomputable def appK (xs:List α):List α->(List α->Bool)->Bool :=
 List.rec (motive:=fun _=>List α->(List α->Bool)->Bool) (fun ys k=>k ys) (fun x _ ih ys k=>ih ys fun zs=>k (x::zs)) xs
noncomputable def nthK (i:Nat):List α->(α->Bool)->Bool :=
 Nat.rec (motive:=fun _=>List α->(α->Bool)->Bool) (fun l k=>List.casesOn l false (fun x _=>k x)) (fun _ ih l k=>List.casesOn l false (fun _ xs=>ih xs k)) i
noncomputable def lenK (l:List α):(Nat->Bool)->Bool :=
 List.rec (motive:=fun _=>(Nat->Bool)->Bool) (fun k=>k 0) (fun _ _ ih k=>ih fun n=>force (Nat.succ n) k) l
noncomputable def overK (new:List α):List α->(List α->Bool)->Bool :=
 List.rec (motive:=fun _=>List α->(List α->Bool)->Bool) (fun vs k=>k vs) (fun y _ ih vs k=>List.casesOn vs false (fun _ xs=>ih xs fun zs=>k (y::zs))) new
noncomputable def spliceK (off:Nat) (new:List α):List α->(List α->Bool)->Bool :=
 Nat.rec (motive:=fun _=>List α->(List α->Bool)->Bool) (fun vs k=>overK new vs k) (fun _ ih vs k=>List.casesOn vs false (fun x xs=>ih xs fun ys=>k (x::ys))) off
noncomputable def allK (l:List α) (f:α->Bool):Bool:=List.rec (motive:=fun _=>Bool) true (fun x _ ih=>guardB (f x) ih) l
noncomputable def repK (z:List α) (i:Nat):(List α->Bool)->Bool :=
 Nat.rec (motive:=fun _=>(List α->Bool)->Bool) (fun k=>k []) (fun _ ih k=>ih fun l=>appK z l k) i
end
noncomputable def selA (t:Tr):Tr:=Tr.rec (motive:=fun _=>Tr) .nil (fun _=>.nil) (fun x _ _ _ _ _ _ _=>x) t
noncomputable def selB (t:Tr):Tr:=Tr.rec (motive:=fun _=>Tr) .nil (fun _=>.nil) (fun _ x _ _ _ _ _ _=>x) t
noncomputable def selC (t:Tr):Tr:=Tr.rec (motive:=fun _=>Tr) .nil (fun _=>.nil) (fun _ _ x _ _ _ _ _=>x) t
noncomputable def selD (t:Tr):Tr:=Tr.rec (motive:=fun _=>Tr) .nil (fun _=>.nil) (fun _ _ _ x _ _ _ _=>x) t
noncomputable def getP (p:Path):Tr->Tr :=
 Path.rec (motive:=fun _=>Tr->Tr) (fun t=>t) (fun _ ih t=>ih (selA t)) (fun _ ih t=>ih (selB t)) (fun _ ih t=>ih (selC t)) (fun _ ih t=>ih (selD t)) p
noncomputable def setPK (p:Path):AV->Tr->(Tr->Bool)->Bool :=
 Path.rec (motive:=fun _=>AV->Tr->(Tr->Bool)->Bool) (fun v _ k=>k (.leaf v))
  (fun _ ih v t k=>Tr.rec (motive:=fun _=>Bool) (ih v .nil fun x=>k (.node x .nil .nil .nil)) (fun _=>ih v .nil fun x=>k (.node x .nil .nil .nil)) (fun a b c d _ _ _ _=>ih v a fun x=>k (.node x b c d)) t)
  (fun _ ih v t k=>Tr.rec (motive:=fun _=>Bool) (ih v .nil fun x=>k (.node .nil x .nil .nil)) (fun _=>ih v .nil fun x=>k (.node .nil x .nil .nil)) (fun a b c d _ _ _ _=>ih v b fun x=>k (.node a x c d)) t)
  (fun _ ih v t k=>Tr.rec (motive:=fun _=>Bool) (ih v .nil fun x=>k (.node .nil .nil x .nil)) (fun _=>ih v .nil fun x=>k (.node .nil .nil x .nil)) (fun a b c d _ _ _ _=>ih v c fun x=>k (.node a b x d)) t)
  (fun _ ih v t k=>Tr.rec (motive:=fun _=>Bool) (ih v .nil fun x=>k (.node .nil .nil .nil x)) (fun _=>ih v .nil fun x=>k (.node .nil .nil .nil x)) (fun a b c d _ _ _ _=>ih v d fun x=>k (.node a b c x)) t) p
noncomputable def leafK (t:Tr) (k:AV->Bool):Bool:=Tr.rec (motive:=fun _=>Bool) false k (fun _ _ _ _ _ _ _ _=>false) t
def pathOf:Nat->Nat->Path
 | 0,_=>.e
 | d+1,n=>match n % 4 with
  | 0=>.a (pathOf d (n / 4))
  | 1=>.b (pathOf d (n / 4))
  | 2=>.c (pathOf d (n / 4))
  | _=>.d (pathOf d (n / 4))
noncomputable def HT.lft (t:HT):HT:=HT.rec (motive:=fun _=>HT) .nil (fun _=>.nil) (fun x _ _ _=>x) t
noncomputable def HT.rgt (t:HT):HT:=HT.rec (motive:=fun _=>HT) .nil (fun _=>.nil) (fun _ x _ _=>x) t
def even (k:Nat):Bool:=Nat.beq (Nat.land k 1) 0
def half (k:Nat):Nat:=Nat.shiftRight k 1
noncomputable def hget (d:Nat):Nat->HT->HT :=
 Nat.rec (motive:=fun _=>Nat->HT->HT) (fun _ t=>t)
  (fun _ ih k t=>Bool.rec (motive:=fun _=>HT) (ih (half k) t.rgt) (ih (half k) t.lft) (even k)) d
noncomputable def hsetK (d:Nat):Nat->AB->HT->(HT->Bool)->Bool :=
 Nat.rec (motive:=fun _=>Nat->AB->HT->(HT->Bool)->Bool) (fun _ v _ k=>k (.leaf v))
  (fun _ ih i v t k=>Bool.rec (motive:=fun _=>Bool)
   (HT.rec (motive:=fun _=>Bool) (ih (half i) v .nil fun x=>k (.node .nil x)) (fun _=>ih (half i) v .nil fun x=>k (.node .nil x)) (fun l r _ _=>ih (half i) v r fun x=>k (.node l x)) t)
   (HT.rec (motive:=fun _=>Bool) (ih (half i) v .nil fun x=>k (.node x .nil)) (fun _=>ih (half i) v .nil fun x=>k (.node x .nil)) (fun l r _ _=>ih (half i) v l fun x=>k (.node x r)) t)
   (even i)) d
def hdepth:Nat:=12
def htop:Nat:=4096
def Hp.fput (f:Nat->Option AB) (a:Nat) (b:AB):Nat->Option AB:=fun x=>if x=a then some b else f x
noncomputable def blkK (h:Hp) (a:Nat) (k:AB->Bool):Bool:=Bool.rec (motive:=fun _=>Bool) (Option.casesOn (h.f a) false k) (HT.rec (motive:=fun _=>Bool) false k (fun _ _ _ _=>false) (hget hdepth a h.t)) (Nat.blt a htop)
noncomputable def putK (a:Nat) (b:AB) (h:Hp) (k:Hp->Bool):Bool:=Bool.rec (motive:=fun _=>Bool) (k ⟨h.t,Hp.fput h.f a b⟩) (hsetK hdepth a b h.t fun t=>k ⟨t,h.f⟩) (Nat.blt a htop)
noncomputable def newK (b:AB) (h:Hp) (n:Nat) (k:Nat->Hp->Nat->Bool):Bool:=putK n b h fun h'=>force (Nat.succ n) fun n'=>k n h' n'
noncomputable def ifBool (v:AV) (k:Bool->Bool):Bool:=AV.casesOn v k (fun _ _=>false) (fun _ _=>false) (fun _ _=>false) false (fun _ _ _ _=>false) (fun _ _ _ _=>false) false (fun _=>false) false (fun _ _ _=>false) (fun _=>false) false (fun _ _=>false) false (fun _=>false) (fun _=>false)
noncomputable def ifInt (v:AV) (k:IntKind->Int->Bool):Bool:=AV.casesOn v (fun _=>false) k (fun _ _=>false) (fun _ _=>false) false (fun _ _ _ _=>false) (fun _ _ _ _=>false) false (fun _=>false) false (fun _ _ _=>false) (fun _=>false) false (fun _ _=>false) false (fun _=>false) (fun _=>false)
noncomputable def ifStr (v:AV) (k:Nat->Nat->Bool):Bool:=AV.casesOn v (fun _=>false) (fun _ _=>false) k (fun _ _=>false) false (fun _ _ _ _=>false) (fun _ _ _ _=>false) false (fun _=>false) false (fun _ _ _=>false) (fun _=>false) false (fun _ _=>false) false (fun _=>false) (fun _=>false)
noncomputable def ifPtr (v:AV) (k:Nat->Nat->Bool):Bool:=AV.casesOn v (fun _=>false) (fun _ _=>false) (fun _ _=>false) k false (fun _ _ _ _=>false) (fun _ _ _ _=>false) false (fun _=>false) false (fun _ _ _=>false) (fun _=>false) false (fun _ _=>false) false (fun _=>false) (fun _=>false)
noncomputable def ifSl (v:AV) (k0:Bool) (k1 k2:Nat->Nat->Nat->Nat->Bool):Bool:=AV.casesOn v (fun _=>false) (fun _ _=>false) (fun _ _=>false) (fun _ _=>false) false k1 k2 k0 (fun _=>false) false (fun _ _ _=>false) (fun _=>false) false (fun _ _=>false) false (fun _=>false) (fun _=>false)
noncomputable def ifMap (v:AV) (k0:Bool) (k:Nat->Bool):Bool:=AV.casesOn v (fun _=>false) (fun _ _=>false) (fun _ _=>false) (fun _ _=>false) false (fun _ _ _ _=>false) (fun _ _ _ _=>false) false k k0 (fun _ _ _=>false) (fun _=>false) false (fun _ _=>false) false (fun _=>false) (fun _=>false)
noncomputable def ifFn (v:AV) (k:FuncId->List AV->List AV->Bool) (ky:Nat->Bool):Bool:=AV.casesOn v (fun _=>false) (fun _ _=>false) (fun _ _=>false) (fun _ _=>false) false (fun _ _ _ _=>false) (fun _ _ _ _=>false) false (fun _=>false) false k ky false (fun _ _=>false) false (fun _=>false) (fun _=>false)
noncomputable def ifIfc (v:AV) (k:TypeId->AV->Bool):Bool:=AV.casesOn v (fun _=>false) (fun _ _=>false) (fun _ _=>false) (fun _ _=>false) false (fun _ _ _ _=>false) (fun _ _ _ _=>false) false (fun _=>false) false (fun _ _ _=>false) (fun _=>false) false k false (fun _=>false) (fun _=>false)
noncomputable def ifAgg (v:AV) (k:List AV->Bool):Bool:=AV.casesOn v (fun _=>false) (fun _ _=>false) (fun _ _=>false) (fun _ _=>false) false (fun _ _ _ _=>false) (fun _ _ _ _=>false) false (fun _=>false) false (fun _ _ _=>false) (fun _=>false) false (fun _ _=>false) false k (fun _=>false)
noncomputable def ifTup (v:AV) (k:List AV->Bool):Bool:=AV.casesOn v (fun _=>false) (fun _ _=>false) (fun _ _=>false) (fun _ _=>false) false (fun _ _ _ _=>false) (fun _ _ _ _=>false) false (fun _=>false) false (fun _ _ _=>false) (fun _=>false) false (fun _ _=>false) false (fun _=>false) k
noncomputable def cellsK (v:AV) (k:List AV->Bool):Bool:=AV.casesOn v (fun b=>k [.bool b]) (fun a b=>k [.int a b]) (fun a b=>k [.str a b]) (fun a b=>k [.ptr a b]) (k [.nilp]) (fun a b c d=>k [.slc a b c d]) (fun a b c d=>k [.gsl a b c d]) (k [.nils]) (fun a=>k [.map a]) (k [.nilm]) (fun a b c=>k [.fn a b c]) (fun a=>k [.yld a]) (k [.nilf]) (fun a b=>k [.ifc a b]) (k [.nili]) (fun cs=>k cs) (fun _=>false)
noncomputable def natI (n:Int) (k:Nat->Bool):Bool:=Int.rec (motive:=fun _=>Bool) k (fun _=>false) n
noncomputable def ifNat (v:AV) (k:Nat->Bool):Bool:=ifInt v fun _ n=>natI n k
def kindEq (a b:IntKind):Bool:=Nat.beq a.ctorIdx b.ctorIdx
noncomputable def rd (x:CX):Tr->(AV->Bool)->Bool:=CX.rec (motive:=fun _=>Tr->(AV->Bool)->Bool) (fun p t k=>leafK (getP p t) k) (fun v _ k=>k v) x
noncomputable def rds (xs:List CX):Tr->(List AV->Bool)->Bool :=
 List.rec (motive:=fun _=>Tr->(List AV->Bool)->Bool) (fun _ k=>k []) (fun x _ ih t k=>rd x t fun v=>ih t fun vs=>k (v::vs)) xs
noncomputable def un1 (f:AV->Bool) (vs:List AV):Bool:=List.casesOn vs false fun a r=>List.casesOn r (f a) fun _ _=>false
noncomputable def un2 (f:AV->AV->Bool) (vs:List AV):Bool:=List.casesOn vs false fun a r=>List.casesOn r false fun b r=>List.casesOn r (f a b) fun _ _=>false
noncomputable def un3 (f:AV->AV->AV->Bool) (vs:List AV):Bool:=List.casesOn vs false fun a r=>List.casesOn r false fun b r=>List.casesOn r false fun c r=>List.casesOn r (f a b c) fun _ _=>false
def fits:List SK->List AV->Bool
 | [],[]=>true
 | s::ss,v::vs=>match s,v with
  | .int,.int ..=>fits ss vs
  | .bool,.bool _=>fits ss vs
  | .str,.str ..=>fits ss vs
  | _,_=>false
 | _,_=>false
def scalarEq:AV->AV->Option Bool
 | .bool a,.bool b=>some (a == b)
 | .int k a,.int j b=>if kindEq k j then some (a == b) else none
 | .str l c,.str m d=>some (Nat.beq l m&&Nat.beq c d)
 | _,_=>none
def flatEq:List AV->List AV->Option Bool
 | [],[]=>some true
 | a::as,b::bs=>match scalarEq a b,flatEq as bs with
  | some x,some y=>some (x&&y)
  | _,_=>none
 | _,_=>none
mutual
def AV.beq:AV->AV->Bool
 | .bool a,.bool b=>a == b
 | .int k a,.int j b=>kindEq k j&&a == b
 | .str l c,.str m d=>Nat.beq l m&&Nat.beq c d
 | .ptr a o,.ptr b p=>Nat.beq a b&&Nat.beq o p
 | .nilp,.nilp=>true
 | .slc a o l c,.slc a' o' l' c'=>Nat.beq a a'&&Nat.beq o o'&&Nat.beq l l'&&Nat.beq c c'
 | .gsl a o l c,.gsl a' o' l' c'=>Nat.beq a a'&&Nat.beq o o'&&Nat.beq l l'&&Nat.beq c c'
 | .nils,.nils=>true
 | .map a,.map b=>Nat.beq a b
 | .nilm,.nilm=>true
 | .fn f a b,.fn g c d=>Nat.beq f g&&AV.beqs a c&&AV.beqs b d
 | .yld a,.yld b=>Nat.beq a b
 | .nilf,.nilf=>true
 | .ifc t v,.ifc u w=>Nat.beq t u&&AV.beq v w
 | .nili,.nili=>true
 | .agg a,.agg b=>AV.beqs a b
 | .tup a,.tup b=>AV.beqs a b
 | _,_=>false
def AV.beqs:List AV->List AV->Bool
 | [],[]=>true
 | a::as,b::bs=>AV.beq a b&&AV.beqs as bs
 | _,_=>false
end
noncomputable def readable (h:Hp) (a:Nat) (k:List AV->Bool):Bool :=
 blkK h a fun b=>AB.casesOn b (fun vs _ _=>k vs) (fun vs _ f _=>blkK h f fun g=>AB.casesOn g (fun _ _ _=>false) (fun _ _ _ _=>false) (fun _ _=>false) (fun _ _ _ _=>false) (fun _ _ _ _ _ _ _ _=>false) (fun _=>false) (fun low _=>guardB (Nat.ble low a) (k vs)) (fun _=>false))
  (fun _ _=>false) (fun _ _ _ _=>false) (fun _ _ _ _ _ _ _ _=>false) (fun _=>false) (fun _ _=>false) k
noncomputable def loadN (h:Hp) (a off n:Nat) (k:List AV->Bool):Bool:=readable h a fun vs=>dropK off vs fun l=>takeK n l k
noncomputable def ifFam (b:AB) (k:Nat->Nat->Bool):Bool:=AB.casesOn b (fun _ _ _=>false) (fun _ _ _ _=>false) (fun _ _=>false) (fun _ _ _ _=>false) (fun _ _ _ _ _ _ _ _=>false) (fun _=>false) k (fun _=>false)
noncomputable def ifCells (b:AB) (k1:List AV->TypeId->Bool->Bool) (k2:List AV->TypeId->Nat->Nat->Bool):Bool:=AB.casesOn b k1 k2 (fun _ _=>false) (fun _ _ _ _=>false) (fun _ _ _ _ _ _ _ _=>false) (fun _=>false) (fun _ _=>false) (fun _=>false)
noncomputable def ifMapB (b:AB) (k:List (AV × AV × Nat)->Nat->Bool):Bool:=AB.casesOn b (fun _ _ _=>false) (fun _ _ _ _=>false) k (fun _ _ _ _=>false) (fun _ _ _ _ _ _ _ _=>false) (fun _=>false) (fun _ _=>false) (fun _=>false)
noncomputable def ifMiter (b:AB) (k:Option Nat->Nat->List Nat->Nat->Bool):Bool:=AB.casesOn b (fun _ _ _=>false) (fun _ _ _ _=>false) (fun _ _=>false) k (fun _ _ _ _ _ _ _ _=>false) (fun _=>false) (fun _ _=>false) (fun _=>false)
noncomputable def ifLoop (b:AB) (k:LoopState->Option CC->FuncId->Tr->List Path->CC->CC->Nat->Bool):Bool:=AB.casesOn b (fun _ _ _=>false) (fun _ _ _ _=>false) (fun _ _=>false) (fun _ _ _ _=>false) k (fun _=>false) (fun _ _=>false) (fun _=>false)
noncomputable def ifDfr (b:AB) (k:Bool->Bool):Bool:=AB.casesOn b (fun _ _ _=>false) (fun _ _ _ _=>false) (fun _ _=>false) (fun _ _ _ _=>false) (fun _ _ _ _ _ _ _ _=>false) k (fun _ _=>false) (fun _=>false)
noncomputable def storeN (h:Hp) (a off:Nat) (new:List AV) (k:Hp->Bool):Bool :=
 blkK h a fun b=>ifCells b
  (fun vs e ro=>Bool.rec (motive:=fun _=>Bool) (spliceK off new vs fun vs'=>putK a (.cell vs' e false) h k) false ro)
  (fun vs e f frz=>blkK h f fun g=>ifFam g fun low last=>guardB (Nat.beq last a) (guardB (Nat.ble low a) (guardB (Nat.ble frz off)
   (spliceK off new vs fun vs'=>putK a (.row vs' e f frz) h fun h=>putK f (.fam a last) h k))))
noncomputable def bytesK (n:Nat):Nat->(List AV->Bool)->Bool :=
 Nat.rec (motive:=fun _=>Nat->(List AV->Bool)->Bool) (fun _ k=>k []) (fun _ ih c k=>force (Nat.mod c 256) fun b=>force (Nat.div c 256) fun c'=>ih c' fun l=>k (.int .u8 (.ofNat b)::l)) n
def strOf (bs:List UInt8):AV:=.str bs.length (bs.foldr (fun b acc=>b.toNat+256*acc) 0)
def isU8 (k:IntKind):Bool:=Nat.beq k.ctorIdx 4
noncomputable def codeK (vs:List AV):(Nat->Bool)->Bool :=
 List.rec (motive:=fun _=>(Nat->Bool)->Bool) (fun k=>k 0) (fun v _ ih k=>ifInt v fun kd n=>guardB (isU8 kd) (natI n fun m=>guardB (Nat.blt m 256) (ih fun c=>force (Nat.add m (Nat.mul 256 c)) k))) vs
def strIdx (c i:Nat):Nat:=Nat.mod (Nat.shiftRight c (Nat.mul 8 i)) 256
def strSub (c i j:Nat):Nat:=Nat.mod (Nat.shiftRight c (Nat.mul 8 i)) (Nat.pow 2 (Nat.mul 8 (Nat.sub j i)))
def bytesOf:Nat->Nat->List UInt8
 | 0,_=>[]
 | n+1,c=>UInt8.ofNat (c % 256)::bytesOf n (c / 256)
def strLess (l c m d:Nat):Bool:=Op.bytesLess (bytesOf l c) (bytesOf m d)
structure KS where
 v:AV->Hp->Nat->Bool
 call:FuncId->List AV->Hp->Nat->Bool
 yld:Nat->List AV->Hp->Nat->Bool
 meth:TypeId->String->Option FuncId
abbrev Ex:=List AV->Hp->Nat->KS->Bool
noncomputable def exMov:Ex:=fun vs h n K=>un1 (fun a=>K.v a h n) vs
noncomputable def exPick:Ex:=fun vs h n K=>un3 (fun c a b=>ifBool c fun c=>Bool.rec (motive:=fun _=>Bool) (K.v b h n) (K.v a h n) c) vs
noncomputable def exAlloc (z:List AV) (e:TypeId):Ex:=fun vs h n K=>newK (.cell z e false) h n fun a h n=>K.v (.ptr a 0) h n
noncomputable def exBox (e:TypeId):Ex:=fun vs h n K=>un1 (fun v=>cellsK v fun cs=>newK (.cell cs e false) h n fun a h n=>K.v (.ptr a 0) h n) vs
noncomputable def fillK (ps:List (Nat × Nat)):List AV->List AV->(List AV->Bool)->Bool :=
 List.rec (motive:=fun _=>List AV->List AV->(List AV->Bool)->Bool) (fun vs cs k=>List.casesOn vs (k cs) fun _ _=>false)
  (fun p _ ih vs cs k=>List.casesOn vs false fun v vs=>cellsK v fun new=>lenK new fun l=>guardB (Nat.beq l p.2) (spliceK p.1 new cs fun cs=>ih vs cs k)) ps
noncomputable def exBuild (z:List AV) (ps:List (Nat × Nat)):Ex:=fun vs h n K=>fillK ps vs z fun cs=>K.v (.agg cs) h n
noncomputable def exBslice (z:List AV) (e:TypeId) (l:Nat) (ps:List (Nat × Nat)):Ex:=fun vs h n K=>fillK ps vs z fun cs=>newK (.cell cs e false) h n fun a h n=>K.v (.slc a 0 l l) h n
noncomputable def one (l:List AV) (k:AV->Bool):Bool:=List.casesOn l false fun a r=>List.casesOn r (k a) fun _ _=>false
noncomputable def exLoadC:Ex:=fun vs h n K=>un1 (fun p=>ifPtr p fun a o=>loadN h a o 1 fun l=>one l fun v=>K.v v h n) vs
noncomputable def exLoadA (m:Nat):Ex:=fun vs h n K=>un1 (fun p=>ifPtr p fun a o=>loadN h a o m fun l=>K.v (.agg l) h n) vs
noncomputable def exStore (m:Nat):Ex:=fun vs h n K=>un2 (fun p v=>ifPtr p fun a o=>cellsK v fun cs=>lenK cs fun l=>guardB (Nat.beq l m) (storeN h a o cs fun h=>K.v (.tup []) h n)) vs
noncomputable def notNil (v:AV) (k:Bool):Bool:=AV.casesOn v (fun _=>k) (fun _ _=>k) (fun _ _=>k) (fun _ _=>k) false (fun _ _ _ _=>k) (fun _ _ _ _=>k) k (fun _=>k) k (fun _ _ _=>k) (fun _=>k) false (fun _ _=>k) false (fun _=>k) (fun _=>k)
noncomputable def exNilchk:Ex:=fun vs h n K=>un1 (fun v=>notNil v (K.v v h n)) vs
noncomputable def ints (f:IntKind->Int->Int->Bool):List AV->Bool:=un2 fun a b=>ifInt a fun k x=>ifInt b fun j y=>guardB (kindEq k j) (f k x y)
noncomputable def exAdd:Ex:=fun vs h n K=>ints (fun k x y=>forceI (k.wrap (Int.add x y)) fun z=>K.v (.int k z) h n) vs
noncomputable def exSub:Ex:=fun vs h n K=>ints (fun k x y=>forceI (k.wrap (Int.sub x y)) fun z=>K.v (.int k z) h n) vs
noncomputable def exMul:Ex:=fun vs h n K=>ints (fun k x y=>forceI (k.wrap (Int.mul x y)) fun z=>K.v (.int k z) h n) vs
def isZero (x:Int):Bool:=match x with|.ofNat 0=>true|_=>false
noncomputable def exQuo:Ex:=fun vs h n K=>ints (fun k x y=>guardB (!isZero y) (forceI (k.wrap (x.tdiv y)) fun z=>K.v (.int k z) h n)) vs
noncomputable def exRem:Ex:=fun vs h n K=>ints (fun k x y=>guardB (!isZero y) (forceI (x.tmod y) fun z=>K.v (.int k z) h n)) vs
def pureInt (s:Sem Value) (k:IntKind):Option Int:=match s with|.pure (.int _ n)=>some n|_=>none
def pureBool (s:Sem Value):Option Bool:=match s with|.pure (.bool b)=>some b|_=>none
noncomputable def optI (o:Option Int) (k:Int->Bool):Bool:=Option.casesOn o false fun z=>forceI z k
noncomputable def optB (o:Option Bool) (k:Bool->Bool):Bool:=Option.casesOn o false fun z=>forceB z k
noncomputable def exBits (op:BinOp):Ex:=fun vs h n K=>ints (fun k x y=>optI (pureInt (Op.intBits op k x y) k) fun z=>K.v (.int k z) h n) vs
noncomputable def exShift (op:BinOp):Ex:=fun vs h n K=>un2 (fun a b=>ifInt a fun k x=>ifInt b fun j y=>natI y fun m=>optI (pureInt (Op.shift op k x j (.ofNat m)) k) fun z=>K.v (.int k z) h n) vs
noncomputable def exIcmp (op:BinOp):Ex:=fun vs h n K=>ints (fun k x y=>optB (pureBool (Op.intCmp op x y)) fun z=>K.v (.bool z) h n) vs
noncomputable def exConcat:Ex:=fun vs h n K=>un2 (fun a b=>ifStr a fun l c=>ifStr b fun m d=>force (Nat.add l m) fun l'=>guardB (Nat.ble l' 1000000000) (force (Nat.add c (Nat.shiftLeft d (Nat.mul 8 l))) fun c'=>K.v (.str l' c') h n)) vs
def scmpB (op:BinOp) (l c m d:Nat):Option Bool:=match op with
 | .lss=>some (strLess l c m d)
 | .leq=>some (strLess l c m d||(Nat.beq l m&&Nat.beq c d))
 | .gtr=>some (!(strLess l c m d||(Nat.beq l m&&Nat.beq c d)))
 | .geq=>some (!(strLess l c m d))
 | _=>none
noncomputable def exScmp (op:BinOp):Ex:=fun vs h n K=>un2 (fun a b=>ifStr a fun l c=>ifStr b fun m d=>optB (scmpB op l c m d) fun z=>K.v (.bool z) h n) vs
def intEq:AV->AV->Option Bool
 | .int k a,.int j b=>if kindEq k j then some (a == b) else none
 | _,_=>none
def eqlB:EK->AV->AV->Option Bool
 | .num,.int k a,.int j b=>if kindEq k j then some (a == b) else none
 | .num,.str l c,.str m d=>some (Nat.beq l m&&Nat.beq c d)
 | .bool,.bool a,.bool b=>some (a == b)
 | .ptr,.nilp,.nilp=>some true
 | .ptr,.nilp,.ptr ..=>some false
 | .ptr,.ptr ..,.nilp=>some false
 | .ptr,.ptr a o,.ptr b p=>if Nat.beq a b then some (Nat.beq o p) else none
 | .slice,.nils,.nils=>some true
 | .slice,.nils,.slc ..=>some false
 | .slice,.nils,.gsl ..=>some false
 | .slice,.slc ..,.nils=>some false
 | .slice,.gsl ..,.nils=>some false
 | .map,.nilm,.nilm=>some true
 | .map,.nilm,.map _=>some false
 | .map,.map _,.nilm=>some false
 | .func,.nilf,.nilf=>some true
 | .func,.nilf,.fn ..=>some false
 | .func,.fn ..,.nilf=>some false
 | .iface c _,.nili,.nili=>if c then some true else none
 | .iface ..,.nili,.ifc ..=>some false
 | .iface ..,.ifc ..,.nili=>some false
 | .iface _ cmp,.ifc t x,.ifc u y=>if Nat.beq t u then (if cmp t then intEq x y else none) else some false
 | .agg sh,.agg xs,.agg ys=>if fits sh xs&&fits sh ys then flatEq xs ys else none
 | _,_,_=>none
noncomputable def exEql (neg:Bool) (ek:EK):Ex:=fun vs h n K=>un2 (fun a b=>optB (eqlB ek a b) fun z=>forceB (z != neg) fun z=>K.v (.bool z) h n) vs
noncomputable def exNot:Ex:=fun vs h n K=>un1 (fun v=>ifBool v fun b=>forceB (!b) fun b=>K.v (.bool b) h n) vs
noncomputable def exNeg:Ex:=fun vs h n K=>un1 (fun v=>ifInt v fun k x=>forceI (k.wrap (Int.sub 0 x)) fun z=>K.v (.int k z) h n) vs
noncomputable def exInv:Ex:=fun vs h n K=>un1 (fun v=>ifInt v fun k x=>optI (pureInt (Op.intBits .xor k (if k.signed then -1 else k.max) x) k) fun z=>K.v (.int k z) h n) vs
noncomputable def exConvInt (k:IntKind):Ex:=fun vs h n K=>un1 (fun v=>ifInt v fun _ x=>forceI (k.wrap x) fun z=>K.v (.int k z) h n) vs
noncomputable def exConvSB (e:TypeId):Ex:=fun vs h n K=>un1 (fun v=>ifStr v fun l c=>bytesK l c fun cs=>newK (.fam (Nat.succ n) (Nat.succ n)) h n fun f h n=>newK (.row cs e f 1) h n fun a h n=>K.v (.gsl a 0 l 1) h n) vs
noncomputable def exConvBS:Ex:=fun vs h n K=>un1 (fun v=>ifSl v (K.v (.str 0 0) h n)
 (fun a o l _=>loadN h a o l fun vs=>codeK vs fun c=>K.v (.str l c) h n) (fun a o l _=>loadN h a o l fun vs=>codeK vs fun c=>K.v (.str l c) h n)) vs
noncomputable def exMkIfc (t:TypeId):Ex:=fun vs h n K=>un1 (fun v=>K.v (.ifc t v) h n) vs
noncomputable def exMkFn (f:FuncId) (m:Nat):Ex:=fun vs h n K=>takeK m vs fun a=>dropK m vs fun b=>K.v (.fn f a b) h n
noncomputable def exMkMap:Ex:=fun vs h n K=>newK (.map [] 0) h n fun a h n=>K.v (.map a) h n
noncomputable def exMkSlice (e:TypeId) (z:List AV) (bytes:Nat):Ex:=fun vs h n K=>un2 (fun l c=>ifNat l fun l=>ifNat c fun c=>guardB (Nat.ble l c) (guardB (Nat.ble (Nat.mul c bytes) 1073741824) (guardB (Nat.ble c 1073741824)
 (repK z c fun cs=>newK (.cell cs e false) h n fun a h n=>K.v (.slc a 0 l c) h n)))) vs
noncomputable def boundK (b:Bool) (vs:List AV) (dflt most:Nat) (k:Nat->List AV->Bool):Bool :=
 Bool.rec (motive:=fun _=>Bool) (k dflt vs) (List.casesOn vs false fun v vs=>ifNat v fun m=>guardB (Nat.ble m most) (k m vs)) b
noncomputable def endK (vs:List AV) (k:Bool):Bool:=List.casesOn vs k fun _ _=>false
noncomputable def bounds3 (lo hi mx:Bool) (vs:List AV) (len cap:Nat) (k:Nat->Nat->Nat->Bool):Bool :=
 boundK mx vs cap cap fun m vs=>boundK hi vs len m fun h vs=>boundK lo vs 0 h fun l vs=>endK vs (k l h m)
noncomputable def exSliceStr (lo hi:Bool):Ex:=fun vs h n K=>List.casesOn vs false fun x vs=>ifStr x fun l c=>bounds3 lo hi false vs l l fun a b _=>force (Nat.sub b a) fun l'=>force (strSub c a b) fun c'=>K.v (.str l' c') h n
noncomputable def movedK (o lo m esz:Nat) (k:Nat->Bool):Bool:=Bool.rec (motive:=fun _=>Bool) (force (Nat.add o (Nat.mul lo esz)) k) (k o) (Nat.beq m lo)
noncomputable def exSliceSl (esz:Nat) (lo hi mx:Bool):Ex:=fun vs h n K=>List.casesOn vs false fun x vs=>ifSl x
 (bounds3 lo hi mx vs 0 0 fun _ _ _=>K.v .nils h n)
 (fun a o l c=>bounds3 lo hi mx vs l c fun lo hi m=>movedK o lo m esz fun o'=>force (Nat.sub hi lo) fun l'=>force (Nat.sub m lo) fun c'=>K.v (.slc a o' l' c') h n)
 (fun a o l e=>guardB (Nat.beq e esz) (guardB (Nat.blt 0 esz) (readable h a fun cs=>lenK cs fun len=>force (Nat.div (Nat.sub len o) esz) fun known =>
  Bool.rec (motive:=fun _=>Bool)
   (bounds3 lo hi false vs l known fun lo hi _=>Bool.rec (motive:=fun _=>Bool)
    (guardB (Nat.beq lo 0) (K.v (.gsl a o hi esz) h n))
    (force (Nat.add o (Nat.mul lo esz)) fun o'=>force (Nat.sub hi lo) fun l'=>K.v (.gsl a o' l' esz) h n) (Nat.blt lo known))
   (bounds3 lo hi true vs l known fun lo hi m=>movedK o lo m esz fun o'=>force (Nat.sub hi lo) fun l'=>force (Nat.sub m lo) fun c'=>K.v (.slc a o' l' c') h n) mx)))
noncomputable def exSliceArr (m esz:Nat) (lo hi mx:Bool):Ex:=fun vs h n K=>List.casesOn vs false fun x vs=>ifPtr x fun a o=>bounds3 lo hi mx vs m m fun lo hi m=>movedK o lo m esz fun o'=>force (Nat.sub hi lo) fun l'=>force (Nat.sub m lo) fun c'=>K.v (.slc a o' l' c') h n
noncomputable def exFieldA (off:Nat):Ex:=fun vs h n K=>un1 (fun p=>ifPtr p fun a o=>force (Nat.add o off) fun o=>K.v (.ptr a o) h n) vs
noncomputable def partK (off size:Nat) (isAgg:Bool) (cs:List AV) (k:AV->Bool):Bool:=dropK off cs fun l=>takeK size l fun l=>Bool.rec (motive:=fun _=>Bool) (one l k) (k (.agg l)) isAgg
noncomputable def exField (off size:Nat) (isAgg:Bool):Ex:=fun vs h n K=>un1 (fun v=>ifAgg v fun cs=>partK off size isAgg cs fun v=>K.v v h n) vs
noncomputable def exIdxArrA (len esz:Nat):Ex:=fun vs h n K=>un2 (fun p i=>ifPtr p fun a o=>ifNat i fun i=>guardB (Nat.blt i len) (force (Nat.add o (Nat.mul i esz)) fun o=>K.v (.ptr a o) h n)) vs
noncomputable def exIdxSlA (esz:Nat):Ex:=fun vs h n K=>un2 (fun s i=>ifSl s false
 (fun a o l _=>ifNat i fun i=>guardB (Nat.blt i l) (force (Nat.add o (Nat.mul i esz)) fun o=>K.v (.ptr a o) h n))
 (fun a o l _=>ifNat i fun i=>guardB (Nat.blt i l) (force (Nat.add o (Nat.mul i esz)) fun o=>K.v (.ptr a o) h n))) vs
noncomputable def exIdxStr:Ex:=fun vs h n K=>un2 (fun s i=>ifStr s fun l c=>ifNat i fun i=>guardB (Nat.blt i l) (force (strIdx c i) fun b=>K.v (.int .u8 (.ofNat b)) h n)) vs
noncomputable def exIdxArr (len esz:Nat) (isAgg:Bool):Ex:=fun vs h n K=>un2 (fun x i=>ifAgg x fun cs=>ifNat i fun i=>guardB (Nat.blt i len) (partK (Nat.mul i esz) esz isAgg cs fun v=>K.v v h n)) vs
def keyOk (sh:List SK) (isAgg:Bool) (v:AV):Bool:=match isAgg,v with
 | true,.agg xs=>fits sh xs
 | true,_=>false
 | false,v=>fits sh [v]
def keyEq (sh:List SK) (isAgg:Bool) (a b:AV):Option Bool :=
 if keyOk sh isAgg b then (match a,b with
  | .agg xs,.agg ys=>flatEq xs ys
  | a,b=>scalarEq a b) else none
def findE (sh:List SK) (isAgg:Bool) (key:AV):List (AV × AV × Nat)->Nat->Option (Option (Nat × AV))
 | [],_=>some none
 | e::es,i=>match keyEq sh isAgg key e.1 with
  | some true=>some (some (i,e.2.1))
  | some false=>findE sh isAgg key es (i+1)
  | none=>none
noncomputable def foundK (z:AV) (ok:Bool) (r:Option (Nat × AV)) (k:AV->Bool):Bool :=
 Option.casesOn r (Bool.rec (motive:=fun _=>Bool) (k z) (k (.tup [z,.bool false])) ok) fun p=>Prod.casesOn p fun _ v=>Bool.rec (motive:=fun _=>Bool) (k v) (k (.tup [v,.bool true])) ok
noncomputable def exLookup (sh:List SK) (isAgg:Bool) (z:AV) (ok:Bool):Ex:=fun vs h n K=>un2 (fun m key=>guardB (keyOk sh isAgg key) (ifMap m (foundK z ok none fun v=>K.v v h n)
 fun a=>blkK h a fun b=>ifMapB b fun es _=>Option.casesOn (findE sh isAgg key es 0) false fun r=>foundK z ok r fun v=>K.v v h n)) vs
noncomputable def modK (i:Nat) (key v:AV):List (AV × AV × Nat)->(List (AV × AV × Nat)->Bool)->Bool :=
 Nat.rec (motive:=fun _=>List (AV × AV × Nat)->(List (AV × AV × Nat)->Bool)->Bool) (fun es k=>List.casesOn es false fun e es=>k ((key,v,e.2.2)::es)) (fun _ ih es k=>List.casesOn es false fun e es=>ih es fun r=>k (e::r)) i
noncomputable def exMapUpd (sh:List SK) (isAgg:Bool):Ex:=fun vs h n K=>un3 (fun m key v=>guardB (keyOk sh isAgg key) (ifMap m false fun a=>blkK h a fun b=>ifMapB b fun es clock =>
 Option.casesOn (findE sh isAgg key es 0) false fun r=>Option.casesOn r (appK es [(key,v,clock)] fun es=>force (Nat.succ clock) fun c=>putK a (.map es c) h fun h=>K.v (.tup []) h n)
  fun p=>modK p.1 key v es fun es=>putK a (.map es clock) h fun h=>K.v (.tup []) h n)) vs
noncomputable def exRangeMap:Ex:=fun vs h n K=>un1 (fun m=>ifMap m (newK (.miter none 0 [] 0) h n fun a h n=>K.v (.ptr a 0) h n)
 fun m=>blkK h m fun b=>ifMapB b fun _ clock=>newK (.miter (some m) clock [] clock) h n fun a h n=>K.v (.ptr a 0) h n) vs
noncomputable def exNextMap:Ex:=fun vs h n K=>un1 (fun p=>ifPtr p fun a o=>guardB (Nat.beq o 0) (blkK h a fun b=>ifMiter b fun m since seen last =>
 Option.casesOn m (K.v (.tup [.bool false]) h n) fun m=>blkK h m fun b=>ifMapB b fun es clock=>guardB (seen.isEmpty||es.isEmpty||es.any fun e=>Nat.blt e.2.2 last) (
  List.casesOn (es.filter fun e=>!seen.contains e.2.2) (K.v (.tup [.bool false]) h n) fun e rest=>allK (e::rest) fun e =>
   guardB (Nat.blt e.2.2 since) (appK seen [e.2.2] fun seen=>putK a (.miter (some m) since seen clock) h fun h=>K.v (.tup [.bool true,e.1,e.2.1]) h n)))) vs
noncomputable def exExtract (i:Nat):Ex:=fun vs h n K=>un1 (fun v=>ifTup v fun l=>nthK i l fun v=>K.v v h n) vs
noncomputable def exCall (f:FuncId):Ex:=fun vs h n K=>K.call f vs h n
noncomputable def exCallv:Ex:=fun vs h n K=>List.casesOn vs false fun f args=>ifFn f (fun f a b=>appK args b fun args=>appK a args fun args=>K.call f args h n) fun l=>K.yld l args h n
noncomputable def exInvoke (name:String):Ex:=fun vs h n K=>List.casesOn vs false fun r args=>ifIfc r fun t v=>Option.casesOn (K.meth t name) false fun f=>K.call f (v::args) h n
def countB (b:Nat):List UInt8->Nat
 | []=>0
 | x::xs=>(if Nat.beq x.toNat b then 1 else 0)+countB b xs
def indexB (b:Nat):List UInt8->Nat->Int
 | [],_=>-1
 | x::xs,i=>if Nat.beq x.toNat b then .ofNat i else indexB b xs (i+1)
noncomputable def exExt (x:Ext):Ex:=Ext.casesOn x
 (fun vs h n K=>un1 (fun v=>ifPtr v fun _ _=>K.v v h n) vs)
 (fun vs h n K=>un2 (fun s b=>ifStr s fun l c=>ifInt b fun k b=>guardB (isU8 k) (natI b fun b=>guardB (Nat.blt b 256) (force (countB b (bytesOf l c)) fun r=>K.v (.int .i64 (.ofNat r)) h n))) vs)
 (fun vs h n K=>un2 (fun s b=>ifStr s fun l c=>ifInt b fun k b=>guardB (isU8 k) (natI b fun b=>guardB (Nat.blt b 256) (forceI (indexB b (bytesOf l c) 0) fun r=>K.v (.int .i64 r) h n))) vs)
noncomputable def exLenStr:Ex:=fun vs h n K=>un1 (fun v=>ifStr v fun l _=>K.v (.int .i64 (.ofNat l)) h n) vs
noncomputable def exLenSl:Ex:=fun vs h n K=>un1 (fun v=>ifSl v (K.v (.int .i64 (.ofNat 0)) h n) (fun _ _ l _=>K.v (.int .i64 (.ofNat l)) h n) (fun _ _ l _=>K.v (.int .i64 (.ofNat l)) h n)) vs
noncomputable def exLenMap:Ex:=fun vs h n K=>un1 (fun v=>ifMap v (K.v (.int .i64 (.ofNat 0)) h n) fun a=>blkK h a fun b=>ifMapB b fun es _=>lenK es fun l=>K.v (.int .i64 (.ofNat l)) h n) vs
noncomputable def freshK (e:TypeId) (esz:Nat) (old new:List AV) (len:Nat) (h:Hp) (n:Nat) (K:KS):Bool:=guardB (Nat.ble len 1048576) <|
 newK (.fam (Nat.succ n) (Nat.succ n)) h n fun f h n=>appK old new fun cs=>newK (.row cs e f 0) h n fun a h n=>K.v (.gsl a 0 len esz) h n
noncomputable def frzK (frz o:Nat) (k:Nat->Bool):Bool:=Bool.rec (motive:=fun _=>Bool) (force (Nat.sub frz o) k) (k 1) (Nat.beq frz 1)
noncomputable def appendTo (e:TypeId) (esz:Nat) (s:AV) (m:Nat) (new:List AV) (h:Hp) (n:Nat) (K:KS):Bool :=
 ifSl s (Bool.rec (motive:=fun _=>Bool) (freshK e esz [] new m h n K) (K.v .nils h n) (Nat.beq m 0))
  (fun a o l c=>force (Nat.add l m) fun need=>force (Nat.mul l esz) fun lc=>Bool.rec (motive:=fun _=>Bool)
   (loadN h a o lc fun old=>freshK e esz old new need h n K)
   (force (Nat.add o lc) fun at_=>storeN h a at_ new fun h=>K.v (.slc a o need c) h n) (Nat.ble need c))
  (fun a o l e'=>guardB (Nat.beq e' esz) (force (Nat.add l m) fun need=>force (Nat.add o (Nat.mul l esz)) fun at_ =>
   blkK h a fun b=>ifCells b (fun _ _ _=>false) fun vs el f frz=>lenK vs fun len=>blkK h f fun g=>ifFam g fun low last=>guardB (Nat.beq last a) (guardB (Nat.ble low a) (
    Bool.rec (motive:=fun _=>Bool)
     (guardB (Nat.beq at_ len&&(Nat.ble need 1048576&&Nat.beq el e)) (guardB (Nat.ble frz len) (dropK o vs fun old=>appK old new fun cs=>putK f (.fam low n) h fun h=>frzK frz o fun frz=>newK (.row cs el f frz) h n fun a h n=>K.v (.gsl a 0 need esz) h n)))
     (storeN h a at_ new fun h=>K.v (.gsl a o need esz) h n)
     (Nat.ble (Nat.add o (Nat.mul need esz)) len)))))
noncomputable def exAppend (e:TypeId) (esz:Nat):Ex:=fun vs h n K=>guardB (Nat.blt 0 esz) (un2 (fun s x=>AV.casesOn x (fun _=>false) (fun _ _=>false) (fun l c=>guardB (Nat.beq esz 1) (bytesK l c fun new=>appendTo e esz s l new h n K)) (fun _ _=>false) false
 (fun a o l _=>loadN h a o (Nat.mul l esz) fun new=>appendTo e esz s l new h n K) (fun a o l _=>loadN h a o (Nat.mul l esz) fun new=>appendTo e esz s l new h n K) (appendTo e esz s 0 [] h n K)
 (fun _=>false) false (fun _ _ _=>false) (fun _=>false) false (fun _ _=>false) false (fun _=>false) (fun _=>false)) vs)
noncomputable def exCap:Ex:=fun vs h n K=>un1 (fun v=>ifSl v (K.v (.int .i64 (.ofNat 0)) h n) (fun _ _ _ c=>K.v (.int .i64 (.ofNat c)) h n) (fun _ _ _ _=>false)) vs
noncomputable def exMin:Ex:=fun vs h n K=>ints (fun k x y=>forceI (if y < x then y else x) fun z=>K.v (.int k z) h n) vs
noncomputable def exMax:Ex:=fun vs h n K=>ints (fun k x y=>forceI (if y > x then y else x) fun z=>K.v (.int k z) h n) vs
noncomputable def exUstr (e:TypeId):Ex:=fun vs h n K=>un2 (fun p m=>ifNat m fun m=>Bool.rec (motive:=fun _=>Bool)
 (ifPtr p fun a o=>guardB (Nat.beq o 0) (blkK h a fun b=>ifCells b (fun vs el ro=>Bool.rec (motive:=fun _=>Bool) (guardB (Nat.beq el e) (guardB (Nat.ble m 1073741824) (loadN h a 0 m fun bs=>codeK bs fun c=>putK a (.cell vs el true) h fun h=>K.v (.str m c) h n))) false ro) fun vs el f frz=>guardB (Nat.beq el e) (blkK h f fun g=>ifFam g fun lo la=>guardB (Nat.beq la a&&(!Nat.beq frz 1&&(Nat.ble lo a&&Nat.ble m 1073741824))) (loadN h a 0 m fun bs=>codeK bs fun c=>force (Nat.max frz m) fun frz=>putK a (.row vs el f frz) h fun h=>putK f (.fam lo la) h fun h=>K.v (.str m c) h n))))
 (AV.casesOn p (fun _=>false) (fun _ _=>false) (fun _ _=>false) (fun _ _=>K.v (.str 0 0) h n) (K.v (.str 0 0) h n) (fun _ _ _ _=>false) (fun _ _ _ _=>false) false (fun _=>false) false (fun _ _ _=>false) (fun _=>false) false (fun _ _=>false) false (fun _=>false) (fun _=>false))
 (Nat.beq m 0)) vs
noncomputable def exUsld:Ex:=fun vs h n K=>un1 (fun v=>ifSl v (K.v .nilp h n) (fun a o _ c=>guardB (Nat.blt 0 c) (K.v (.ptr a o) h n)) (fun a o l _=>guardB (Nat.blt 0 l) (K.v (.ptr a o) h n))) vs
noncomputable def exToUns:Ex:=fun vs h n K=>un1 (fun v=>ifPtr v fun a o=>blkK h a fun b=>ifCells b (fun cs _ _=>lenK cs fun len=>guardB (Nat.blt o len) (K.v v h n)) (fun _ _ _ _=>false)) vs
noncomputable def exFromUns (u:TypeId) (s:Nat):Ex:=fun vs h n K=>un1 (fun v=>ifPtr v fun a o=>guardB (Nat.beq o 0) (blkK h a fun b=>ifCells b (fun cs e _=>guardB (Nat.beq e u) (lenK cs fun l=>guardB (Nat.ble s l) (K.v v h n))) (fun _ _ _ _=>false))) vs
noncomputable def exEntry:Ex:=fun vs h n K=>un1 (fun p=>ifPtr p fun a o=>guardB (Nat.beq o 0) (blkK h a fun b=>ifMiter b fun m _ seen stepped=>Option.casesOn m false fun m=>blkK h m fun b=>ifMapB b fun es clock=>guardB (Nat.beq clock stepped)
 (Option.casesOn seen.getLast? false fun stamp=>Option.casesOn (es.find? fun e=>Nat.beq e.2.2 stamp) false fun e=>K.v (.tup [e.1,e.2.1]) h n))) vs
noncomputable def exAssert (t:TypeId) (z:AV):Ex:=fun vs h n K=>un1 (fun v=>AV.casesOn v (fun _=>false) (fun _ _=>false) (fun _ _=>false) (fun _ _=>false) false (fun _ _ _ _=>false) (fun _ _ _ _=>false) false (fun _=>false) false (fun _ _ _=>false) (fun _=>false) false
 (fun t' x=>Bool.rec (motive:=fun _=>Bool) (K.v (.tup [z,.bool false]) h n) (K.v (.tup [x,.bool true]) h n) (Nat.beq t' t)) (K.v (.tup [z,.bool false]) h n) (fun _=>false) (fun _=>false)) vs
noncomputable def exCopyS:Ex:=fun vs h n K=>un2 (fun d s=>ifStr s fun l c=>ifSl d false (fun a o dl _=>guardB (Nat.ble l dl) (bytesK l c fun cs=>storeN h a o cs fun h=>K.v (.int .i64 (.ofNat l)) h n)) (fun _ _ _ _=>false)) vs
noncomputable def exBad:Ex:=fun _ _ _ _=>false
noncomputable def execV (o:OC):Ex:=OC.casesOn (motive:=fun _=>Ex) o exMov exPick exAlloc exBox exBuild exBslice exLoadC exLoadA exStore exNilchk exAdd exSub exMul exQuo exRem exBits exShift exIcmp exConcat exScmp exEql exNot exNeg exInv
 exConvInt exConvSB exConvBS exMkIfc exMkFn exMkMap exMkSlice exSliceStr exSliceSl exSliceArr exFieldA exField exIdxArrA exIdxSlA exIdxStr exIdxArr exLookup exMapUpd exRangeMap exNextMap exExtract exCall exCallv exInvoke exExt exLenStr exLenSl exLenMap exAppend exCap
 exCopyS exMin exMax exUstr exUsld exToUns exFromUns exEntry exAssert exBad exBad exBad exBad
inductive St where
 | run (f:AF) (cs:List AF)
 | ops (os:List COp) (f:AF) (cs:List AF)
 | draw (ds:List DStep) (f:AF) (cs:List AF)
 | give (v:AV) (cs:List AF)
 | unw (u:Un) (f:AF) (cs:List AF)
 | raise (v:AV) (cs:List AF)
structure Env where
 func:FuncId->Option CF
 meth:TypeId->String->Option FuncId
 fin:AV->Bool
def undefA:AV:=.tup []
noncomputable def putD (d:Option Path) (v:AV) (t:Tr) (k:Tr->Bool):Bool:=Option.casesOn d (k t) fun p=>setPK p v t k
noncomputable def wantK (g:Option (Path × Bool)) (t:Tr) (yes no:Bool):Bool :=
 Option.casesOn g yes fun pb=>Prod.casesOn pb fun p b=>leafK (getP p t) fun v=>AV.casesOn v (fun c=>Bool.rec (motive:=fun _=>Bool) no yes (c == b)) (fun _ _=>no) (fun _ _=>no) (fun _ _=>no) no (fun _ _ _ _=>no) (fun _ _ _ _=>no) no (fun _=>no) no (fun _ _ _=>no) (fun _=>no) no (fun _ _=>no) no (fun _=>no) (fun _=>no)
def exitA (id:Nat):List AItem->Option (List AItem)
 | .inBlock i::k=>if Nat.beq i id then some k else exitA id k
 | _::k=>exitA id k
 | []=>none
noncomputable def resultK (r:CR) (t:Tr) (h:Hp) (k:AV->Bool):Bool:=CR.casesOn r (fun p=>leafK (getP p t) k)
 (fun p=>leafK (getP p t) fun v=>ifPtr v fun a o=>loadN h a o 1 fun l=>one l k)
 (fun n p=>leafK (getP p t) fun v=>ifPtr v fun a o=>loadN h a o n fun l=>k (.agg l))
noncomputable def resultsK (rs:List CR):Tr->Hp->(List AV->Bool)->Bool :=
 List.rec (motive:=fun _=>Tr->Hp->(List AV->Bool)->Bool) (fun _ _ k=>k []) (fun r _ ih t h k=>resultK r t h fun v=>ih t h fun vs=>k (v::vs)) rs
noncomputable def packK (vs:List AV) (k:AV->Bool):Bool:=List.casesOn vs (k (.tup [])) fun v r=>List.casesOn r (k v) fun w r=>k (.tup (v::w::r))
noncomputable def setsK (ps:List Path):List AV->Tr->(Tr->Bool)->Bool :=
 List.rec (motive:=fun _=>List AV->Tr->(Tr->Bool)->Bool) (fun vs t k=>List.casesOn vs (k t) fun _ _=>false) (fun p _ ih vs t k=>List.casesOn vs false fun v vs=>setPK p v t fun t=>ih vs t k) ps
noncomputable def marksK (ds:List Df):Hp->(Hp->Bool)->Bool :=
 List.rec (motive:=fun _=>Hp->(Hp->Bool)->Bool) (fun h k=>k h) (fun d _ ih h k=>Df.casesOn d (fun d=>blkK h d fun b=>ifDfr b fun o=>guardB o (putK d (.dfr false) h fun h=>ih h k)) (fun _ _=>false)) ds
noncomputable def allMarks (ds:List Df):Bool:=List.rec (motive:=fun _=>Bool) true (fun d _ ih=>Df.casesOn d (fun _=>ih) (fun _ _=>false)) ds
def unwTop:List AF->Bool
 | .mk _ _ (.inUnw _::_) _ _::_=>true
 | _=>false
noncomputable def noCall:FuncId->List AV->Hp->Nat->Bool:=fun _ _ _ _=>false
noncomputable def noMeth:TypeId->String->Option FuncId:=fun _ _=>none
noncomputable def recheckK (os:List COp):Tr->Hp->Nat->Bool->Bool :=
 List.rec (motive:=fun _=>Tr->Hp->Nat->Bool->Bool) (fun _ _ _ k=>k)
  (fun o _ ih t h n k=>COp.casesOn o fun dst guard xs oc=>wantK guard t
   (rds xs t fun vs=>execV oc vs h n ⟨fun v _ _=>Option.casesOn dst false fun p=>leafK (getP p t) fun u=>guardB (AV.beq u v) (ih t h n k),noCall,noCall,noMeth⟩)
   (ih t h n k)) os
abbrev Kont:=St->Hp->Nat->Bool
noncomputable def enterK (E:Env) (g:FuncId) (args:List AV) (f:AF) (cs:List AF) (h:Hp) (n:Nat) (k:Kont):Bool :=
 Option.casesOn (E.func g) false fun cf=>CF.casesOn cf fun ps _ body=>setsK ps args .nil fun t=>k (.run (.mk g t [.code body] [] none) (f::cs)) h n
noncomputable def yieldK (l:Nat) (args:List AV) (f:AF) (cs:List AF) (h:Hp) (n:Nat) (k:Kont):Bool :=
 blkK h l fun b=>ifLoop b fun _ _ fn regs ps asg body _=>setsK ps args regs fun t=>k (.run (.mk fn t [.code asg,.beginRound,.code body] [] (some l)) (f::cs)) h n
noncomputable def leaveK (E:Env) (f:AF) (cs:List AF) (jump:Option CC) (h:Hp) (n:Nat) (k:Kont):Bool :=
 AF.casesOn f fun fn regs _ defers round=>Option.casesOn round
  (Bool.rec (motive:=fun _=>Bool) (k (.unw .ret (.mk fn regs [] defers none) cs) h n)
   (marksK defers h fun h=>Option.casesOn (E.func fn) false fun cf=>CF.casesOn cf fun _ rs _=>resultsK rs regs h fun vs=>packK vs fun v=>k (.give v cs) h n) (allMarks defers))
  (fun l=>guardB (!unwTop cs) (blkK h l fun b=>ifLoop b fun _ _ fn' regs' ps asg body d=>Option.casesOn jump
   (putK l (.loop .ready none fn' regs' ps asg body d) h fun h=>k (.give (.bool true) cs) h n)
   (fun c=>putK l (.loop .done (some c) fn' regs' ps asg body d) h fun h=>k (.give (.bool false) cs) h n)))
noncomputable def rangeK (E:Env) (fv:AV) (ps:List Path) (asg body:CC) (fn:FuncId) (regs:Tr) (rest:List AItem) (defers:List Df) (round:Option Nat) (cs:List AF) (h:Hp) (n:Nat) (k:Kont):Bool :=
 ifFn fv (fun g a b=>Option.casesOn round
   (newK (.dfr true) h n fun d h n=>newK (.loop .ready none fn regs ps asg body d) h n fun l h n=>appK a (.yld l::b) fun args=>enterK E g args (.mk fn regs (.inRF l::rest) (.mark d::defers) round) cs h n k)
   (fun l₀=>blkK h l₀ fun b₀=>ifLoop b₀ fun _ _ _ _ _ _ _ d=>newK (.loop .ready none fn regs ps asg body d) h n fun l h n=>appK a (.yld l::b) fun args=>enterK E g args (.mk fn regs (.inRF l::rest) defers round) cs h n k))
  (fun _=>false)
noncomputable def codeStep (E:Env) (c:CC) (fn:FuncId) (regs:Tr) (rest:List AItem) (defers:List Df) (round:Option Nat) (cs:List AF) (h:Hp) (n:Nat) (k:Kont):Bool :=
 CC.casesOn c (k (.run (.mk fn regs rest defers round) cs) h n)
  (fun os=>k (.ops os (.mk fn regs rest defers round) cs) h n)
  (fun ds=>k (.draw ds (.mk fn regs rest defers round) cs) h n)
  (fun a b=>k (.run (.mk fn regs (.code a::.code b::rest) defers round) cs) h n)
  (fun x a b=>rd x regs fun v=>ifBool v fun t=>Bool.rec (motive:=fun _=>Bool) (k (.run (.mk fn regs (.code b::rest) defers round) cs) h n) (k (.run (.mk fn regs (.code a::rest) defers round) cs) h n) t)
  (fun id c=>k (.run (.mk fn regs (.code c::.inBlock id::rest) defers round) cs) h n)
  (fun c=>k (.run (.mk fn regs (.code c::.inLoop c::rest) defers round) cs) h n)
  (fun x ps asg body=>rd x regs fun fv=>rangeK E fv ps asg body fn regs rest defers round cs h n k)
  (fun id=>Option.casesOn (exitA id rest) (Option.casesOn round false fun _=>leaveK E (.mk fn regs rest defers round) cs (some (.exit id)) h n k) fun rest=>k (.run (.mk fn regs rest defers round) cs) h n)
  (leaveK E (.mk fn regs rest defers round) cs (some .ret) h n k)
  false
noncomputable def itemStep (E:Env) (i:AItem) (fn:FuncId) (regs:Tr) (rest:List AItem) (defers:List Df) (round:Option Nat) (cs:List AF) (h:Hp) (n:Nat) (k:Kont):Bool :=
 AItem.casesOn i (fun c=>codeStep E c fn regs rest defers round cs h n k)
  (fun _=>k (.run (.mk fn regs rest defers round) cs) h n)
  (fun c=>k (.run (.mk fn regs (.code c::.inLoop c::rest) defers round) cs) h n)
  (fun _ _=>false) (fun _ _ _=>false) (fun _=>false)
  (fun l=>blkK h l fun b=>ifLoop b fun st p fn' regs' ps asg body d=>LoopState.casesOn st
   (putK l (.loop .exhausted p fn' regs' ps asg body d) h fun h=>Option.casesOn p (k (.run (.mk fn regs rest defers round) cs) h n) fun c=>k (.run (.mk fn regs (.code c::rest) defers round) cs) h n)
   false
   (putK l (.loop .exhausted p fn' regs' ps asg body d) h fun h=>Option.casesOn p (k (.run (.mk fn regs rest defers round) cs) h n) fun c=>k (.run (.mk fn regs (.code c::rest) defers round) cs) h n)
   false)
  (Option.casesOn round false fun l=>blkK h l fun b=>ifLoop b fun st p fn' regs' ps asg body d=>LoopState.casesOn st
   (putK l (.loop .busy p fn' regs' ps asg body d) h fun h=>k (.run (.mk fn regs rest defers round) cs) h n) false false false)
  (fun _=>false)
noncomputable def stRun (E:Env) (f:AF) (cs:List AF) (h:Hp) (n:Nat) (k:Kont):Bool :=
 AF.casesOn f fun fn regs todo defers round=>List.casesOn todo
  (leaveK E (.mk fn regs [] defers round) cs none h n k)
  (fun i rest=>itemStep E i fn regs rest defers round cs h n k)
noncomputable def specK (oc:OC) (no pan dfr rcv:Bool):Bool:=OC.casesOn oc no no (fun _ _=>no) (fun _=>no) (fun _ _=>no) (fun _ _ _ _=>no) no (fun _=>no) (fun _=>no) no no no no no no (fun _=>no) (fun _=>no) (fun _=>no) no (fun _=>no) (fun _ _=>no) no no no (fun _=>no) (fun _=>no) no (fun _=>no) (fun _ _=>no) no (fun _ _ _=>no) (fun _ _=>no) (fun _ _ _ _=>no) (fun _ _ _ _ _=>no) (fun _=>no) (fun _ _ _=>no) (fun _ _=>no) (fun _=>no) no (fun _ _ _=>no) (fun _ _ _ _=>no) (fun _ _=>no) no no (fun _=>no) (fun _=>no) no (fun _=>no) (fun _=>no) no no no (fun _ _=>no) no no no no (fun _=>no) no no (fun _ _=>no) no (fun _ _=>no) pan dfr rcv no
noncomputable def panicK (vs:List AV) (fn:FuncId) (regs:Tr) (defers:List Df) (round:Option Nat) (cs:List AF) (h:Hp) (n:Nat) (k:Kont):Bool :=
 un1 (fun v=>ifIfc v fun _ _=>Option.casesOn round (k (.unw (.pan v false) (.mk fn regs [] defers none) cs) h n) (fun _=>false)) vs
noncomputable def deferK (vs:List AV) (dst:Option Path) (os:List COp) (fn:FuncId) (regs:Tr) (todo:List AItem) (defers:List Df) (round:Option Nat) (cs:List AF) (h:Hp) (n:Nat) (k:Kont):Bool :=
 List.casesOn vs false fun fv args=>ifFn fv (fun g a b=>appK args b fun args=>appK a args fun args=>Option.casesOn round (putD dst undefA regs fun regs=>k (.ops os (.mk fn regs todo (.call g args::defers) none) cs) h n) (fun _=>false)) (fun _=>false)
noncomputable def recoverK (vs:List AV) (dst:Option Path) (os:List COp) (fn:FuncId) (regs:Tr) (todo:List AItem) (defers:List Df) (round:Option Nat) (cs:List AF) (h:Hp) (n:Nat) (k:Kont):Bool :=
 List.casesOn vs (Option.casesOn round (List.casesOn cs false fun g cs=>AF.casesOn g fun fn' regs' todo' ds' ro'=>List.casesOn todo' false fun i r=>AItem.casesOn i (fun _=>false) (fun _=>false) (fun _=>false) (fun _ _=>false) (fun _ _ _=>false) (fun _=>false) (fun _=>false) false
  (fun u=>Un.casesOn u (putD dst .nili regs fun regs=>k (.ops os (.mk fn regs todo defers none) (.mk fn' regs' (.inUnw .ret::r) ds' ro'::cs)) h n)
   (fun v got=>Bool.rec (motive:=fun _=>Bool) (putD dst v regs fun regs=>k (.ops os (.mk fn regs todo defers none) (.mk fn' regs' (.inUnw (.pan v true)::r) ds' ro'::cs)) h n) false got))) (fun _=>false)) (fun _ _=>false)
noncomputable def stOps (E:Env) (os:List COp) (f:AF) (cs:List AF) (h:Hp) (n:Nat) (k:Kont):Bool :=
 List.casesOn os (k (.run f cs) h n) fun o os=>COp.casesOn o fun dst guard xs oc=>AF.casesOn f fun fn regs todo defers round =>
  wantK guard regs
   (rds xs regs fun vs=>specK oc (execV oc vs h n
    ⟨fun v h n=>putD dst v regs fun regs=>k (.ops os (.mk fn regs todo defers round) cs) h n,
     fun g args h n=>enterK E g args (.mk fn regs (.inReg dst os::todo) defers round) cs h n k,
     fun l args h n=>yieldK l args (.mk fn regs (.inReg dst os::todo) defers round) cs h n k,
     E.meth⟩) (panicK vs fn regs defers round cs h n k) (deferK vs dst os fn regs todo defers round cs h n k) (recoverK vs dst os fn regs todo defers round cs h n k))
   (putD dst undefA regs fun regs=>k (.ops os (.mk fn regs todo defers round) cs) h n)
noncomputable def stDraw (E:Env) (ds:List DStep) (f:AF) (cs:List AF) (h:Hp) (n:Nat) (k:Kont):Bool :=
 List.casesOn ds (k (.run f cs) h n) fun d ds=>DStep.casesOn d fun o rc=>COp.casesOn o fun dst guard xs oc=>AF.casesOn f fun fn regs todo defers round =>
  wantK guard regs
   (rds xs regs fun vs=>execV oc vs h n
    ⟨fun v h n=>putD dst v regs fun regs=>recheckK rc regs h n (k (.draw ds (.mk fn regs todo defers round) cs) h n),
     fun g args h n=>enterK E g args (.mk fn regs (.inDraw dst rc ds::todo) defers round) cs h n k,
     fun l args h n=>yieldK l args (.mk fn regs (.inDraw dst rc ds::todo) defers round) cs h n k,
     E.meth⟩)
   (putD dst undefA regs fun regs=>k (.draw ds (.mk fn regs todo defers round) cs) h n)
noncomputable def stGive (E:Env) (v:AV) (cs:List AF) (h:Hp) (n:Nat) (k:Kont):Bool :=
 List.casesOn cs (E.fin v) fun f cs=>AF.casesOn f fun fn regs todo defers round=>List.casesOn todo false fun i rest =>
  AItem.casesOn i (fun _=>false) (fun _=>false) (fun _=>false)
   (fun dst os=>putD dst v regs fun regs=>k (.ops os (.mk fn regs rest defers round) cs) h n)
   (fun dst rc ds=>putD dst v regs fun regs=>recheckK rc regs h n (k (.draw ds (.mk fn regs rest defers round) cs) h n))
   (fun l=>k (.run (.mk fn regs (.endRF l::rest) defers round) cs) h n)
   (fun _=>false) false
   (fun u=>Un.casesOn u (k (.unw .ret (.mk fn regs [] defers none) cs) h n) (fun v got=>Bool.rec (motive:=fun _=>Bool) (k (.unw (.pan v false) (.mk fn regs [] defers none) cs) h n) (k (.unw .ret (.mk fn regs [] defers none) cs) h n) got))
noncomputable def stUnw (E:Env) (u:Un) (f:AF) (cs:List AF) (h:Hp) (n:Nat) (k:Kont):Bool :=
 AF.casesOn f fun fn regs _ defers _=>List.casesOn defers
  (Un.casesOn u (Option.casesOn (E.func fn) false fun cf=>CF.casesOn cf fun _ rs _=>resultsK rs regs h fun vs=>packK vs fun v=>k (.give v cs) h n)
   (fun v got=>Bool.rec (motive:=fun _=>Bool) (k (.raise v cs) h n) false got))
  (fun d ds=>Df.casesOn d (fun d=>blkK h d fun b=>ifDfr b fun o=>guardB o (putK d (.dfr false) h fun h=>k (.unw u (.mk fn regs [] ds none) cs) h n))
   (fun g args=>enterK E g args (.mk fn regs [.inUnw u] ds none) cs h n k))
noncomputable def stRaise (v:AV) (cs:List AF) (h:Hp) (n:Nat) (k:Kont):Bool :=
 List.casesOn cs false fun f cs=>AF.casesOn f fun fn regs todo ds ro=>Option.casesOn ro (List.casesOn todo false fun i _=>AItem.casesOn i (fun _=>false) (fun _=>false) (fun _=>false)
  (fun _ _=>k (.unw (.pan v false) (.mk fn regs [] ds none) cs) h n) (fun _ _ _=>List.casesOn ds (k (.raise v cs) h n) (fun _ _=>false)) (fun _=>false) (fun _=>false) false (fun _=>false)) (fun _=>false)
noncomputable def stepK (E:Env) (st:St) (h:Hp) (n:Nat) (k:Kont):Bool :=
 St.casesOn st (fun f cs=>stRun E f cs h n k) (fun os f cs=>stOps E os f cs h n k) (fun ds f cs=>stDraw E ds f cs h n k) (fun v cs=>stGive E v cs h n k) (fun u f cs=>stUnw E u f cs h n k) (fun v cs=>stRaise v cs h n k)
noncomputable def runK (E:Env) (fuel:Nat):Kont :=
 Nat.rec (motive:=fun _=>Kont) (fun _ _ _=>false) (fun _ ih st h n=>stepK E st h n ih) fuel
def AV.scalar:AV->Bool
 | .agg _|.tup _=>false
 | _=>true
mutual
def ofValue:Value->Option AV
 | .bool b=>some (.bool b)
 | .int k n=>some (.int k n)
 | .string s=>some (strOf s.data.toList)
 | .pointer none=>some .nilp
 | .slice none 0 0=>some .nils
 | .map none=>some .nilm
 | .func (.func f) a b=>match ofValues a.toList,ofValues b.toList with
  | some a,some b=>some (.fn f a b)
  | _,_=>none
 | .nilFunc=>some .nilf
 | .iface t v=>match ofValue v with|some v=>some (.ifc t v)|none=>none
 | .nilIface=>some .nili
 | .agg cs=>match ofValues cs.toList with|some cs=>if cs.all AV.scalar then some (.agg cs) else none|none=>none
 | .tuple vs=>match ofValues vs.toList with|some cs=>some (.tup cs)|none=>none
 | _=>none
def ofValues:List Value->Option (List AV)
 | []=>some []
 | v::vs=>match ofValue v,ofValues vs with
  | some v,some vs=>some (v::vs)
  | _,_=>none
end
abbrev TI:=Program
abbrev TI.und (T:TI) (t:TypeId):Option TypeDesc:=T.underlying t
def TI.size (T:TI) (t:TypeId):Option Nat:=(T.info? t).map (·.size)
def TI.isAgg (T:TI) (t:TypeId):Option Bool:=(T.underlying t).map fun d=>match d with|.struct _|.array ..=>true|_=>false
def TI.zero (T:TI) (t:TypeId):Option AV:=(T.info? t).bind fun i=>i.zero.bind ofValue
def AV.cells (v:AV):List AV:=match v with|.agg cs=>cs|v=>[v]
def AV.noTup (v:AV):Bool:=match v with|.tup _=>false|_=>true
def depth:Nat:=4
def cx (N:FuncId->Option Ext):Operand->Option CX
 | .tmp t=>if t < 256 then some (.r (pathOf depth t)) else none
 | .const v=>(ofValue v).map .c
 | .global g=>match N (1000000+g) with|some _=>some (.c (.ptr g 0))|none=>none
 | .func f=>some (.c (.fn f [] []))
def cxs (N:FuncId->Option Ext):List Operand->Option (List CX)
 | []=>some []
 | x::xs=>match cx N x,cxs N xs with
  | some x,some xs=>some (x::xs)
  | _,_=>none
def placesS (T:TI) (fs:Array Field):List (Nat × Operand)->Option (List (Nat × Nat))
 | []=>some []
 |(i,_)::ps=>match fs[i]? with
  | some f=>match TI.size T f.type,placesS T fs ps with
   | some s,some r=>some ((f.offset,s)::r)
   | _,_=>none
  | none=>none
def placesA (esz:Nat):List (Nat × Operand)->List (Nat × Nat)
 | []=>[]
 |(i,_)::ps=>(i*esz,esz)::placesA esz ps
mutual
def flatTy (T:TI):Nat->TypeId->Option (List SK)
 | 0,_=>none
 | f+1,t=>match T.underlying t with
  | some .bool=>some [.bool]
  | some (.int _)=>some [.int]
  | some .string=>some [.str]
  | some (.struct fs)=>if T.stoodInHeld t then none else flatFs T f fs.toList 0
  | some (.array n e)=>match flatTy T f e,TI.size T e with
   | some l,some s=>if s=l.length then some (List.replicate n l).flatten else none
   | _,_=>none
  | _=>none
def flatFs (T:TI):Nat->List Field->Nat->Option (List SK)
 | _,[],_=>some []
 | 0,_::_,_=>none
 | f+1,x::xs,at_=>match flatTy T f x.type,TI.size T x.type with
  | some l,some s=>if s=l.length/\x.offset=at_/\x.name≠ "_" then
    match flatFs T f xs (at_+s) with
    | some r=>some (l++r)
    | none=>none
   else none
  | _,_=>none
end
def isConstX:Operand->Bool
 | .const _=>true
 | _=>false
def cmpI (T:TI) (t:TypeId):Bool:=match T.underlying t,T.info? t with
 | some (.int _),some i=>i.comparable
 | _,_=>false
def ekOf (T:TI) (t:TypeId) (x y:Operand):EK:=match T.underlying t with
 | some (.int _)|some .string=>.num
 | some .bool=>.bool
 | some (.pointer e)=>match TI.size T e with|some (_+1)=>.ptr|_=>.bad
 | some (.slice _)=>.slice
 | some (.map ..)=>.map
 | some (.func ..)=>.func
 | some (.interface _)=>.iface (isConstX x||isConstX y) (cmpI T)
 | some (.struct _)|some (.array ..)=>if T.eqGuardType T.depth t then .bad else match flatTy T 40 t with|some sh=>.agg sh|none=>.bad
 | _=>.bad
def optL (x:Option Operand):List Operand:=match x with|some x=>[x]|none=>[]
def reps (z:List AV):Nat->List AV
 | 0=>[]
 | n+1=>z++reps z n
def extN (N:FuncId->Option Ext) (f:FuncId):Option Ext:=if Nat.blt f 1000000 then N f else none
def compOp (T:TI) (N:FuncId->Option Ext) (o:Oper):Option (OC × List Operand) :=
 match o.op with
 | .move x|.assign x=>some (.mov,[x])
 | .pick c a b=>some (.pick,[c,a,b])
 | .alloc e=>match TI.zero T e with|some z=>if z.noTup then some (.alloc z.cells e,[]) else none|none=>none
 | .box e x=>some (.box e,[x])
 | .build t ps=>match TI.zero T t,TI.und T t with
  | some z,some (.struct fs)=>match placesS T fs ps.toList with
   | some pl=>if (fs.toList.all fun f=>(T.info? f.type).isSome)&&z.noTup then some (.build z.cells pl,ps.toList.map (·.2)) else none
   | none=>none
  | some z,some (.array _ e)=>match TI.size T e with
   | some s=>if z.noTup then some (.build z.cells (placesA s ps.toList),ps.toList.map (·.2)) else none
   | none=>none
  | _,_=>none
 | .buildSlice t n ps=>match TI.und T t with
  | some (.slice e)=>match TI.size T e,TI.zero T e with
   | some s,some z=>if z.cells.length=s/\0 < s/\n*s<=16777216/\z.noTup=true then some (.bslice (reps z.cells n) e n (placesA s ps.toList),ps.toList.map (·.2)) else none
   | _,_=>none
  | _=>none
 | .load t a=>match TI.isAgg T t,TI.size T t with
  | some true,some s=>some (.loadA s,[a])
  | some false,_=>some (.loadC,[a])
  | _,_=>none
 | .store t a x=>match TI.size T t with|some s=>some (.store s,[a,x])|none=>none
 | .nilCheck x=>some (.nilchk,[x])
 | .binOp op t x y _=>match op,TI.und T t with
  | .shl,some (.int _)|.shr,some (.int _)=>some (.shift op,[x,y])
  | .eql,some d=>some (.eql false (ekOf T t x y),[x,y])
  | .neq,some d=>some (.eql true (ekOf T t x y),[x,y])
  | .lss,some (.int _)|.leq,some (.int _)|.gtr,some (.int _)|.geq,some (.int _)=>some (.icmp op,[x,y])
  | .add,some (.int _)=>some (.add,[x,y])
  | .sub,some (.int _)=>some (.sub,[x,y])
  | .mul,some (.int _)=>some (.mul,[x,y])
  | .quo,some (.int _)=>some (.quo,[x,y])
  | .rem,some (.int _)=>some (.rem,[x,y])
  | .and,some (.int _)|.or,some (.int _)|.xor,some (.int _)|.andNot,some (.int _)=>some (.bits op,[x,y])
  | .add,some .string=>some (.concat,[x,y])
  | .lss,some .string|.leq,some .string|.gtr,some .string|.geq,some .string=>some (.scmp op,[x,y])
  | _,_=>none
 | .unOp .not _ x=>some (.not,[x])
 | .unOp .neg _ x=>some (.neg,[x])
 | .unOp .xor _ x=>some (.inv,[x])
 | .convert s t x=>match TI.und T s,TI.und T t with
  | some (.int _),some (.int k)=>some (.convInt k,[x])
  | some .string,some .string=>some (.sliceStr false false,[x])
  | some (.pointer e),some .unsafePointer=>match TI.size T e with|some (_+1)=>some (.toUns,[x])|_=>none
  | some .unsafePointer,some (.pointer u)=>match TI.size T u with|some s=>some (.fromUns u s,[x])|none=>none
  | some .string,some (.slice e)=>match TI.und T e with|some (.int .u8)=>some (.convSB e,[x])|_=>none
  | some (.slice e),some .string=>match TI.und T e with|some (.int .u8)=>some (.convBS,[x])|_=>none
  | _,_=>none
 | .makeInterface t x=>match TI.und T t with
  | some (.interface _)=>none
  | some _=>some (.mkIfc t,[x])
  | none=>none
 | .makeFunc (.func f) a b=>some (.mkFn f a.size,a.toList++b.toList)
 | .makeMap _ none=>some (.mkMap,[])
 | .makeSlice t l c=>match TI.und T t with
  | some (.slice e)=>match TI.zero T e,T.info? e with
   | some z,some i=>if 0 < i.size/\z.cells.length=i.size/\z.noTup=true then some (.mkSlice e z.cells i.bytes,[l,c]) else none
   | _,_=>none
  | _=>none
 | .slice t x lo hi mx =>
  let xs:=x::(optL mx++optL hi++optL lo)
  if mx.isSome=true/\hi.isSome=false then none else match TI.und T t with
  | some .string=>if mx.isSome then none else some (.sliceStr lo.isSome hi.isSome,xs)
  | some (.slice e)=>match TI.size T e with|some s=>some (.sliceSl s lo.isSome hi.isSome mx.isSome,xs)|none=>none
  | some (.array n e)=>match TI.size T e with|some s=>some (.sliceArr n s lo.isSome hi.isSome mx.isSome,xs)|none=>none
  | some (.pointer a)=>match TI.und T a with
   | some (.array n e)=>match TI.size T e with|some s=>some (.sliceArr n s lo.isSome hi.isSome mx.isSome,xs)|none=>none
   | _=>none
  | _=>none
 | .fieldAddr t x f=>match TI.und T t with
  | some (.struct fs)=>match fs[f]? with
   | some f=>match TI.size T f.type with
    | some s=>if s=0 then none else some (.fieldA f.offset,[x])
    | none=>none
   | none=>none
  | _=>none
 | .field t x f=>match TI.und T t with
  | some (.struct fs)=>match fs[f]? with
   | some f=>match TI.size T f.type,TI.isAgg T f.type with
    | some s,some g=>some (.field f.offset s g,[x])
    | _,_=>none
   | none=>none
  | _=>none
 | .indexAddr t x i=>match TI.und T t with
  | some (.array n e)=>match TI.size T e with|some s=>some (.idxArrA n s,[x,i])|none=>none
  | some (.slice e)=>match TI.size T e with|some s=>some (.idxSlA s,[x,i])|none=>none
  | _=>none
 | .index t x i=>match TI.und T t with
  | some (.array n e)=>match TI.size T e,TI.isAgg T e with|some s,some g=>some (.idxArr n s g,[x,i])|_,_=>none
  | some .string=>some (.idxStr,[x,i])
  | _=>none
 | .lookup t m k ok=>match TI.und T t with
  | some (.map kt e)=>match TI.zero T e with
   | some z=>match flatTy T 40 kt,TI.isAgg T kt with
    | some sh,some g=>some (.lookup sh g z ok,[m,k])
    | _,_=>none
   | none=>none
  | _=>none
 | .mapUpdate t m k v|.insert t m k v=>match TI.und T t with
  | some (.map kt _)=>match flatTy T 40 kt,TI.isAgg T kt with
   | some sh,some g=>some (.mapUpd sh g,[m,k,v])
   | _,_=>none
  | _=>none
 | .range t x=>match TI.und T t with
  | some (.map _ _)=>some (.rangeMap,[x])
  | _=>none
 | .next x false=>some (.nextMap,[x])
 | .entry x=>some (.entry,[x])
 | .extract x i=>some (.extract i,[x])
 | .typeAssert x _ t true=>match TI.und T t,TI.zero T t with
  | some (.interface _),_=>none
  | some _,some z=>some (.assert t z,[x])
  | _,_=>none
 | .panic x=>some (.panic,[x])
 | .defer c=>match c.callee with
  | .value f=>some (.defer,f::c.args.toList)
  | _=>none
 | .call c=>match c.callee with
  | .value (.func f)=>match extN N f with
   | some e=>some (.ext e,c.args.toList)
   | none=>some (.call f,c.args.toList)
  | .value f=>some (.callv,f::c.args.toList)
  | .invoke r m=>some (.invoke m,r::c.args.toList)
  | .builtin b=>match b,c.args.toList,c.argTypes.toList with
   | .len,[x],[t]=>match TI.und T t with
    | some .string=>some (.lenStr,[x])
    | some (.slice _)=>some (.lenSl,[x])
    | some (.map ..)=>some (.lenMap,[x])
    | some (.array n _)=>some (.mov,[.const (.int .i64 n)])
    | _=>none
   | .append,[s,x],[t,u]=>match TI.und T t,TI.und T u with
    | some (.slice e),some d=>match T.info? e,TI.zero T e,d with
     | _,_,.int _=>none
     | some i,some z,_=>if z.cells.length=i.size/\z.noTup=true/\i.bytes<=1048576 then some (.append e i.size,[s,x]) else none
     | _,_,_=>none
    | _,_=>none
   | .copy,[d,s],[t,u]=>match TI.und T t,TI.und T u with
    | some (.slice e),some .string=>if TI.size T e=some 1 then some (.copyS,[d,s]) else none
    | _,_=>none
   | .cap,[x],[t]=>match TI.und T t with
    | some (.slice _)=>some (.cap,[x])
    | _=>none
   | .min,[x,y],_=>some (.minInt,[x,y])
   | .max,[x,y],_=>some (.maxInt,[x,y])
   | .unsafeSliceData,[x],_=>some (.usld,[x])
   | .recover,[],_=>some (.recover,[])
   | .unsafeString,[x,y],[t,_]=>match TI.und T t with
    | some (.pointer e)=>match TI.size T e with|some 1=>some (.ustr e,[x,y])|_=>none
    | _=>none
   | _,_,_=>none
 | _=>none
def tpath (nt:Nat) (t:Tmp):Option Path:=if t < nt then some (pathOf depth t) else none
def compO (T:TI) (N:FuncId->Option Ext) (nt:Nat) (ops:Array Oper) (o:Oper):COp :=
 match compOp T N o with
 | none=>⟨none,none,[],.bad⟩
 | some (oc,xs)=>match cxs N xs with
  | none=>⟨none,none,[],.bad⟩
  | some xs=>match o.dst,o.guard with
   | none,none=>⟨none,none,xs,oc⟩
   | some d,none=>match tpath nt d with|some p=>⟨some p,none,xs,oc⟩|none=>⟨none,none,[],.bad⟩
   | d,some (j,b)=>match (ops[j]?).bind (·.dst) with
    | some g=>match tpath nt g,d with
     | some g,none=>⟨none,some (g,b),xs,oc⟩
     | some g,some d=>match tpath nt d with|some p=>⟨some p,some (g,b),xs,oc⟩|none=>⟨none,none,[],.bad⟩
     | none,_=>⟨none,none,[],.bad⟩
    | none=>⟨none,none,[],.bad⟩
inductive QK where|pure|read|make|eff
 deriving DecidableEq
def quiet (k:OC):QK:=match k with
 | .mov|.pick|.build ..|.nilchk|.add|.sub|.mul|.quo|.rem|.bits _|.shift _|.icmp _|.concat|.scmp _|.eql ..|.not|.neg|.inv|.convInt _|.mkIfc _|.mkFn ..|.sliceStr ..|.sliceArr ..|.fieldA _|.field ..|.idxArrA ..|.idxSlA ..|.idxStr|.idxArr ..
 | .extract _|.assert ..|.cap|.minInt|.maxInt|.usld|.lenStr|.lenSl=>.pure
 | .loadC|.loadA _|.lookup ..|.lenMap|.sliceSl ..|.convBS|.entry=>.read
 | .alloc ..|.box _|.bslice ..|.mkMap|.mkSlice ..=>.make
 | _=>.eff
def maskOf (acc:List Nat) (o:Oper):Nat:=o.after.toList.foldl (fun s e=>if Region.binds .any e then Nat.lor (Nat.lor s (Nat.pow 2 e.on)) (acc.getD e.on 0) else s) 0
def befores:List Oper->List Nat->List Nat
 | [],acc=>acc
 | o::os,acc=>befores os (acc++[maskOf acc o])
def isEff (qs:List QK) (i:Nat):Bool:=match qs[i]? with|some .pure|some .read|some .make=>false|_=>true
def isRead (qs:List QK) (i:Nat):Bool:=match qs[i]? with|some .read=>true|_=>false
def isPure (qs:List QK) (i:Nat):Bool:=match qs[i]? with|some .pure=>true|_=>false
def eager (qs:List QK) (bs:List Nat) (n:Nat):Nat->Nat->List Nat->List Nat
 | 0,_,acc=>acc.reverse
 | f+1,done,acc =>
  let ready:=(List.range n).filter fun i=>!Nat.testBit done i&&Nat.beq (Nat.land (bs.getD i 0) done) (bs.getD i 0)
  match ready.find? (fun i=>!isEff qs i) with
  | some i=>eager qs bs n f (Nat.lor done (Nat.pow 2 i)) (i::acc)
  | none=>match ready with
   | i::_=>eager qs bs n f (Nat.lor done (Nat.pow 2 i)) (i::acc)
   | []=>acc.reverse
def badOp:COp:=⟨none,none,[],.bad⟩
def again (cs:List COp) (qs:List QK) (bs:List Nat) (i:Nat) (before:List Nat):List COp :=
 if isPure qs i||isRead qs i then [] else (before.filter fun j=>isRead qs j&&(!isEff qs i||!Nat.testBit (bs.getD i 0) j)).map fun j=>cs.getD j badOp
def dsteps (cs:List COp) (qs:List QK) (bs:List Nat):List Nat->List Nat->List DStep
 | [],_=>[]
 | i::rest,before=>{ op:=cs.getD i badOp,recheck:=again cs qs bs i before }::dsteps cs qs bs rest (i::before)
def Path.beq:Path->Path->Bool
 | .e,.e=>true
 | .a p,.a q=>p.beq q
 | .b p,.b q=>p.beq q
 | .c p,.c q=>p.beq q
 | .d p,.d q=>p.beq q
 | _,_=>false
def usesP (c:COp) (p:Path):Bool :=
 (c.xs.any fun x=>match x with|.r q=>q.beq p|.c _=>false)||(match c.guard with|some (q,_)=>q.beq p|none=>false)
def dstIs (c:COp) (p:Path):Bool:=match c.dst with|some q=>q.beq p|none=>false
def usedBy (mask:Nat) (p:Path) (self:Nat):List COp->Nat->Bool
 | [],_=>false
 | c::cs,i=>(usesP c p&&(Nat.testBit mask i||Nat.beq i self))||usedBy mask p self cs (i+1)
def kindOf (bs:List Nat) (all:List COp) (j:Nat) (d:COp):QK:=match d.dst with
 | some p=>if usedBy (bs.getD j 0) p j all 0 then .eff else quiet d.k
 | none=>quiet d.k
def kinds (bs:List Nat) (all:List COp):List COp->Nat->List QK
 | [],_=>[]
 | d::ds,j=>kindOf bs all j d::kinds bs all ds (j+1)
def pairOk (qs:List QK) (bs:List Nat) (i:Nat) (c:COp) (j:Nat) (d:COp):Bool:=match d.dst with
 | none=>true
 | some p=>(!usesP c p||(Nat.testBit (bs.getD i 0) j||(isEff qs j&&(Nat.testBit (bs.getD j 0) i||Nat.beq i j))))&&(Nat.beq i j||!dstIs c p)
def rowOk (qs:List QK) (bs:List Nat) (i:Nat) (c:COp):List COp->Nat->Bool
 | [],_=>true
 | d::ds,j=>pairOk qs bs i c j d&&rowOk qs bs i c ds (j+1)
def ssaOk (qs:List QK) (bs:List Nat) (all:List COp):List COp->Nat->Bool
 | [],_=>true
 | c::cs,i=>rowOk qs bs i c all 0&&ssaOk qs bs all cs (i+1)
def edgesOk:List Oper->Nat->Bool
 | [],_=>true
 | o::os,i=>(o.after.toList.all fun e=>!Region.binds .any e||Nat.blt e.on i)&&edgesOk os (i+1)
def ordOk (qs:List QK) (bs:List Nat) (n:Nat):List Nat->Nat->Bool
 | [],done=>Nat.beq done (Nat.sub (Nat.pow 2 n) 1)
 | i::rest,done=>Nat.blt i n&&(!Nat.testBit done i&&(Nat.beq (Nat.land (bs.getD i 0) done) (bs.getD i 0)&&((!isEff qs i||rest.all fun j=>Nat.testBit (bs.getD j 0) i)&&ordOk qs bs n rest (Nat.lor done (Nat.pow 2 i)))))
def notBad (c:COp):Bool:=match c.k with|.bad|.defer|.panic|.recover=>false|_=>true
def drawOk (ops:Array Oper) (cs:List COp) (qs:List QK) (bs order:List Nat):Bool :=
 cs.all notBad&&(edgesOk ops.toList 0&&(ssaOk qs bs cs cs 0&&ordOk qs bs ops.size order 0))
def drawOf (ops:Array Oper) (cs:List COp) (qs:List QK) (bs order:List Nat):List DStep :=
 if drawOk ops cs qs bs order then dsteps cs qs bs order [] else [⟨badOp,[]⟩]
def compDraw (T:TI) (N:FuncId->Option Ext) (nt:Nat) (ops:Array Oper):List DStep :=
 drawOf ops (ops.toList.map (compO T N nt ops)) (kinds (befores ops.toList []) (ops.toList.map (compO T N nt ops)) (ops.toList.map (compO T N nt ops)) 0) (befores ops.toList [])
  (eager (kinds (befores ops.toList []) (ops.toList.map (compO T N nt ops)) (ops.toList.map (compO T N nt ops)) 0) (befores ops.toList []) ops.size ops.size 0 [])
def tpaths (nt:Nat):List Tmp->Option (List Path)
 | []=>some []
 | t::ts=>match tpath nt t,tpaths nt ts with
  | some p,some ps=>some (p::ps)
  | _,_=>none
def compC (T:TI) (N:FuncId->Option Ext) (nt:Nat):Code->CC
 | .skip=>.skip
 | .region _ ops false=>.reg (ops.toList.map (compO T N nt ops))
 | .region _ ops true=>.draw (compDraw T N nt ops)
 | .seq a b=>.seq (compC T N nt a) (compC T N nt b)
 | .cond c a b=>match cx N c with|some x=>.cond x (compC T N nt a) (compC T N nt b)|none=>.bad
 | .block id c=>.block id (compC T N nt c)
 | .loop c=>.loop (compC T N nt c)
 | .rangeFunc f ps a b=>match cx N f,tpaths nt ps.toList with|some x,some ps=>.rangeFunc x ps (compC T N nt a) (compC T N nt b)|_,_=>.bad
 | .exit id=>.exit id
 | .ret=>.ret
 | _=>.bad
def compR (T:TI) (nt:Nat):List ResultVar->Option (List CR)
 | []=>some []
 | r::rs=>match compR T nt rs with
  | none=>none
  | some out=>match r with
   | .tmp t=>match tpath nt t with|some p=>some (.tmp p::out)|none=>none
   | .cell a t=>match tpath nt a,TI.isAgg T t,TI.size T t with
    | some p,some true,some s=>some (.cellA s p::out)
    | some p,some false,_=>some (.cellC p::out)
    | _,_,_=>none
def firstPaths (n:Nat):List Path:=(List.range n).map (pathOf depth)
def compF (T:TI) (N:FuncId->Option Ext) (f:Func):Option CF :=
 match f.body,compR T f.ntmps f.results.toList with
 | some body,some rs=>if f.ntmps<=256/\f.params.size+f.nfree<=f.ntmps then some ⟨firstPaths (f.params.size+f.nfree),rs,compC T N f.ntmps body⟩ else none
 | _,_=>none
def compM (T:TI) (t:TypeId) (name:String):Option FuncId :=
 match T.info? t with
 | some i=>match i.methods.find? (·.name == name) with
  | some m=>match m.func,m.path.isEmpty,TI.und T t with
   | some (f,false),true,some (.pointer _)=>none
   | some (f,false),true,some _=>some f
   | _,_,_=>none
  | none=>none
 | none=>none
theorem force_eq (n:Nat) (k:Nat->Bool):force n k=k n:=by cases n<;>rfl
theorem forceI_eq (n:Int) (k:Int->Bool):forceI n k=k n:=by cases n<;>simp [forceI,force_eq]
theorem forceB_eq (b:Bool) (k:Bool->Bool):forceB b k=k b:=by cases b<;>rfl
theorem guardB_iff {b k:Bool}:guardB b k=true ↔ b=true/\k=true:=by cases b<;>simp [guardB]
section
variable {α:Type}
theorem dropK_eq (i:Nat) (l:List α) (k:List α->Bool):dropK i l k=k (l.drop i):=by
 induction i generalizing l with
 | zero=>rfl
 | succ i ih=>cases l with
  | nil=>simp [dropK]
  | cons x xs=>exact (ih xs).trans (by simp)
theorem takeK_iff (i:Nat) (l:List α) (k:List α->Bool):takeK i l k=true ↔ i<=l.length/\k (l.take i)=true:=by
 induction i generalizing l k with
 | zero=>exact⟨fun h=>⟨Nat.zero_le _,h⟩,fun h=>h.2⟩
 | succ i ih=>cases l with
  | nil=>simp [takeK]
  | cons x xs =>
   refine (ih xs fun ys=>k (x::ys)).trans ?_
   simp
theorem appK_eq (xs ys:List α) (k:List α->Bool):appK xs ys k=k (xs++ys):=by
 induction xs generalizing k with
 | nil=>rfl
 | cons x xs ih=>exact (ih fun zs=>k (x::zs)).trans (by simp)
theorem nthK_iff (i:Nat) (l:List α) (k:α->Bool):nthK i l k=true ↔ ∃ x,l[i]?=some x/\k x=true:=by
 induction i generalizing l with
 | zero=>cases l with
  | nil=>exact⟨fun h=>Bool.noConfusion (h:false=true),fun⟨_,h,_⟩=>by simp at h⟩
  | cons x xs=>exact⟨fun h=>⟨x,rfl,h⟩,fun⟨_,h,hk⟩=>by simp at h;subst h;exact hk⟩
 | succ i ih=>cases l with
  | nil=>simp [nthK]
  | cons x xs=>exact (ih xs).trans (by simp)
theorem lenK_eq (l:List α) (k:Nat->Bool):lenK l k=k l.length:=by
 induction l generalizing k with
 | nil=>rfl
 | cons x xs ih=>exact (ih fun n=>force (Nat.succ n) k).trans (by simp [force_eq])
theorem overK_iff (new vs:List α) (k:List α->Bool):overK new vs k=true ↔ new.length<=vs.length/\k (new++vs.drop new.length)=true:=by
 induction new generalizing vs k with
 | nil=>simp [overK]
 | cons y ys ih=>cases vs with
  | nil=>simp [overK]
  | cons x xs =>
   refine (ih xs fun zs=>k (y::zs)).trans ?_
   simp
def splice (off:Nat) (new vs:List α):List α:=vs.take off++(new++vs.drop (off+new.length))
theorem spliceK_iff (off:Nat) (new vs:List α) (k:List α->Bool):spliceK off new vs k=true ↔ off+new.length<=vs.length/\k (splice off new vs)=true:=by
 induction off generalizing vs k with
 | zero=>refine (overK_iff new vs k).trans ?_;simp [splice]
 | succ i ih=>cases vs with
  | nil=>simp [spliceK]
  | cons x xs =>
   refine (ih xs fun ys=>k (x::ys)).trans ?_
   simp only [splice,List.take_succ_cons,List.length_cons,List.cons_append,show i+1+new.length=(i+new.length)+1 from by omega,List.drop_succ_cons]
   constructor<;>rintro⟨a,b⟩<;>exact⟨by omega,b⟩
theorem splice_length {off:Nat} {new vs:List α} (h:off+new.length<=vs.length):(splice off new vs).length=vs.length:=by
 simp [splice];omega
theorem splice_get {off:Nat} {new vs:List α} (h:off+new.length<=vs.length) (i:Nat) :
  (splice off new vs)[i]?=if off<=i/\i < off+new.length then new[i - off]? else vs[i]?:=by
 unfold splice
 by_cases h1:i < off
 ·rw [List.getElem?_append_left (by simp;omega),List.getElem?_take_of_lt h1,if_neg (by omega)]
 ·rw [List.getElem?_append_right (by simp;omega)]
  have e:(vs.take off).length=off:=by simp;omega
  rw [e]
  by_cases h2:i - off < new.length
  ·rw [List.getElem?_append_left h2,if_pos (by omega)]
  ·rw [List.getElem?_append_right (by omega),List.getElem?_drop,if_neg (by omega)]
   congr 1;omega
theorem allK_iff (l:List α) (f:α->Bool):allK l f=true ↔ ∀ x ∈ l,f x=true:=by
 induction l with
 | nil=>simp [allK]
 | cons x l ih =>
  have:allK (x::l) f=guardB (f x) (allK l f):=rfl
  rw [this,guardB_iff,ih]
  simp
def rep (z:List α):Nat->List α
 | 0=>[]
 | n+1=>z++rep z n
theorem repK_eq (z:List α) (i:Nat) (k:List α->Bool):repK z i k=k (rep z i):=by
 induction i generalizing k with
 | zero=>rfl
 | succ i ih=>exact (ih fun l=>appK z l k).trans (by simp [appK_eq,rep])
end
def setP:Path->AV->Tr->Tr
 | .e,v,_=>.leaf v
 | .a p,v,t=>match t with|.node a b c d=>.node (setP p v a) b c d|_=>.node (setP p v .nil) .nil .nil .nil
 | .b p,v,t=>match t with|.node a b c d=>.node a (setP p v b) c d|_=>.node .nil (setP p v .nil) .nil .nil
 | .c p,v,t=>match t with|.node a b c d=>.node a b (setP p v c) d|_=>.node .nil .nil (setP p v .nil) .nil
 | .d p,v,t=>match t with|.node a b c d=>.node a b c (setP p v d)|_=>.node .nil .nil .nil (setP p v .nil)
theorem setPK_eq (p:Path) (v:AV) (t:Tr) (k:Tr->Bool):setPK p v t k=k (setP p v t):=by
 induction p generalizing t k with
 | e=>rfl
 | a p ih=>cases t with
  | nil=>exact ih .nil _
  | leaf x=>exact ih .nil _
  | node a b c d=>exact ih a _
 | b p ih=>cases t with
  | nil=>exact ih .nil _
  | leaf x=>exact ih .nil _
  | node a b c d=>exact ih b _
 | c p ih=>cases t with
  | nil=>exact ih .nil _
  | leaf x=>exact ih .nil _
  | node a b c d=>exact ih c _
 | d p ih=>cases t with
  | nil=>exact ih .nil _
  | leaf x=>exact ih .nil _
  | node a b c d=>exact ih d _
theorem getP_nil (p:Path):getP p .nil=.nil:=by
 induction p with
 | e=>rfl
 | a p ih=>exact ih
 | b p ih=>exact ih
 | c p ih=>exact ih
 | d p ih=>exact ih
theorem leafK_iff {t:Tr} {k:AV->Bool}:leafK t k=true ↔ ∃ v,t=.leaf v/\k v=true:=by
 cases t<;>simp [leafK]
noncomputable def reg (t:Tr) (i:Nat):Option AV:=match getP (pathOf depth i) t with|.leaf v=>some v|_=>none
def Path.len:Path->Nat
 | .e=>0
 | .a p|.b p|.c p|.d p=>p.len+1
theorem getP_setP_same (p:Path) (v:AV) (t:Tr):getP p (setP p v t)=.leaf v:=by
 induction p generalizing t with
 | e=>rfl
 | a p ih=>cases t<;>exact ih _
 | b p ih=>cases t<;>exact ih _
 | c p ih=>cases t<;>exact ih _
 | d p ih=>cases t<;>exact ih _
theorem getP_setP_ne (p q:Path) (v:AV) (t:Tr) (hl:p.len=q.len) (hne:p≠q):getP q (setP p v t)=getP q t:=by
 induction p generalizing q t with
 | e=>cases q<;>simp_all [Path.len]
 | a p ih =>
  cases q with
  | e=>simp [Path.len] at hl
  | a q =>
   have h1:p.len=q.len:=by simpa [Path.len] using hl
   have h2:p≠q:=fun h=>hne (by rw [h])
   cases t with
   | nil=>exact (ih q .nil h1 h2)
   | leaf x=>exact (ih q .nil h1 h2)
   | node a b c d=>exact ih q a h1 h2
  | b q=>cases t<;>rfl
  | c q=>cases t<;>rfl
  | d q=>cases t<;>rfl
 | b p ih =>
  cases q with
  | e=>simp [Path.len] at hl
  | b q =>
   have h1:p.len=q.len:=by simpa [Path.len] using hl
   have h2:p≠q:=fun h=>hne (by rw [h])
   cases t with
   | nil=>exact (ih q .nil h1 h2)
   | leaf x=>exact (ih q .nil h1 h2)
   | node a b c d=>exact ih q b h1 h2
  | a q=>cases t<;>rfl
  | c q=>cases t<;>rfl
  | d q=>cases t<;>rfl
 | c p ih =>
  cases q with
  | e=>simp [Path.len] at hl
  | c q =>
   have h1:p.len=q.len:=by simpa [Path.len] using hl
   have h2:p≠q:=fun h=>hne (by rw [h])
   cases t with
   | nil=>exact (ih q .nil h1 h2)
   | leaf x=>exact (ih q .nil h1 h2)
   | node a b c d=>exact ih q c h1 h2
  | a q=>cases t<;>rfl
  | b q=>cases t<;>rfl
  | d q=>cases t<;>rfl
 | d p ih =>
  cases q with
  | e=>simp [Path.len] at hl
  | d q =>
   have h1:p.len=q.len:=by simpa [Path.len] using hl
   have h2:p≠q:=fun h=>hne (by rw [h])
   cases t with
   | nil=>exact (ih q .nil h1 h2)
   | leaf x=>exact (ih q .nil h1 h2)
   | node a b c d=>exact ih q d h1 h2
  | a q=>cases t<;>rfl
  | b q=>cases t<;>rfl
  | c q=>cases t<;>rfl
theorem pathOf_len (d n:Nat):(pathOf d n).len=d:=by
 induction d generalizing n with
 | zero=>rfl
 | succ d ih =>
  unfold pathOf
  split<;>simp [Path.len,ih]
theorem pathOf_inj (d:Nat) {m n:Nat} (hm:m < 4 ^ d) (hn:n < 4 ^ d) (h:pathOf d m=pathOf d n):m=n:=by
 induction d generalizing m n with
 | zero=>simp at hm hn;omega
 | succ d ih =>
  have hm':m / 4 < 4 ^ d:=by rw [Nat.pow_succ] at hm;omega
  have hn':n / 4 < 4 ^ d:=by rw [Nat.pow_succ] at hn;omega
  unfold pathOf at h
  have a4:m % 4 < 4:=Nat.mod_lt _ (by omega)
  have b4:n % 4 < 4:=Nat.mod_lt _ (by omega)
  have key:m % 4=n % 4/\pathOf d (m / 4)=pathOf d (n / 4):=by
   rcases (show m % 4=0\/m % 4=1\/m % 4=2\/m % 4=3 by omega) with e|e|e|e <;>
    rcases (show n % 4=0\/n % 4=1\/n % 4=2\/n % 4=3 by omega) with f|f|f|f <;>
    simp [e,f] at h ⊢<;>exact h
  have:=ih hm' hn' key.2
  omega
theorem reg_set (t:Tr) (i j:Nat) (v:AV) (hi:i < 256) (hj:j < 256):reg (setP (pathOf depth i) v t) j=if j=i then some v else reg t j:=by
 unfold reg
 by_cases h:j=i
 ·subst h;rw [getP_setP_same];simp
 ·rw [getP_setP_ne _ _ _ _ (by simp [pathOf_len]) (fun e=>h (pathOf_inj depth (by simpa [depth] using hj) (by simpa [depth] using hi) e.symm))]
  simp [h]
theorem reg_nil (i:Nat):reg .nil i=none:=by simp [reg,getP_nil]
def hset:Nat->Nat->AB->HT->HT
 | 0,_,v,_=>.leaf v
 | d+1,i,v,t=>if even i then (match t with|.node l r=>.node (hset d (half i) v l) r|_=>.node (hset d (half i) v .nil) .nil)
   else (match t with|.node l r=>.node l (hset d (half i) v r)|_=>.node .nil (hset d (half i) v .nil))
theorem hsetK_eq (d i:Nat) (v:AB) (t:HT) (k:HT->Bool):hsetK d i v t k=k (hset d i v t):=by
 induction d generalizing i t k with
 | zero=>rfl
 | succ d ih =>
  unfold hset
  cases he:even i with
  | true =>
   have:hsetK (d+1) i v t k=Bool.rec (motive:=fun _=>Bool)
    (HT.rec (motive:=fun _=>Bool) (hsetK d (half i) v .nil fun x=>k (.node .nil x)) (fun _=>hsetK d (half i) v .nil fun x=>k (.node .nil x)) (fun l r _ _=>hsetK d (half i) v r fun x=>k (.node l x)) t)
    (HT.rec (motive:=fun _=>Bool) (hsetK d (half i) v .nil fun x=>k (.node x .nil)) (fun _=>hsetK d (half i) v .nil fun x=>k (.node x .nil)) (fun l r _ _=>hsetK d (half i) v l fun x=>k (.node x r)) t)
    (even i):=rfl
   rw [this,he]
   cases t<;>exact ih _ _ _
  | false =>
   have:hsetK (d+1) i v t k=Bool.rec (motive:=fun _=>Bool)
    (HT.rec (motive:=fun _=>Bool) (hsetK d (half i) v .nil fun x=>k (.node .nil x)) (fun _=>hsetK d (half i) v .nil fun x=>k (.node .nil x)) (fun l r _ _=>hsetK d (half i) v r fun x=>k (.node l x)) t)
    (HT.rec (motive:=fun _=>Bool) (hsetK d (half i) v .nil fun x=>k (.node x .nil)) (fun _=>hsetK d (half i) v .nil fun x=>k (.node x .nil)) (fun l r _ _=>hsetK d (half i) v l fun x=>k (.node x r)) t)
    (even i):=rfl
   rw [this,he]
   cases t<;>exact ih _ _ _
theorem even_iff (i:Nat):even i=true ↔ i % 2=0:=by
 have h:Nat.land i 1=i % 2:=Nat.and_one_is_mod i
 unfold even
 rw [h,Nat.beq_eq]
theorem half_eq (i:Nat):half i=i / 2:=by
 show i >>> 1=i / 2
 simp [Nat.shiftRight_succ]
theorem hget_succ (d i:Nat) (t:HT):hget (d+1) i t=if even i then hget d (half i) t.lft else hget d (half i) t.rgt:=by
 have:hget (d+1) i t=Bool.rec (motive:=fun _=>HT) (hget d (half i) t.rgt) (hget d (half i) t.lft) (even i):=rfl
 rw [this];cases even i<;>rfl
theorem hget_hset (d i j:Nat) (v:AB) (t:HT) (hi:i < 2 ^ d) (hj:j < 2 ^ d):hget d j (hset d i v t)=if j=i then .leaf v else hget d j t:=by
 induction d generalizing i j t with
 | zero =>
  have:j=i:=by simp at hi hj;omega
  subst this
  rw [if_pos rfl];rfl
 | succ d ih =>
  have hi':half i < 2 ^ d:=by rw [half_eq];rw [Nat.pow_succ] at hi;omega
  have hj':half j < 2 ^ d:=by rw [half_eq];rw [Nat.pow_succ] at hj;omega
  rw [hget_succ,hget_succ]
  have pi:=even_iff i
  have pj:=even_iff j
  have ei:=half_eq i
  have ej:=half_eq j
  unfold hset
  cases hei:even i<;>cases hej:even j
  ·have key:(half j=half i) ↔ j=i:=by
    rw [hei] at pi;rw [hej] at pj;simp at pi pj;omega
   cases t<;>simp [HT.rgt,ih _ _ _ hi' hj',key]
  ·have key:j≠i:=by
    rw [hei] at pi;rw [hej] at pj;simp at pi pj;omega
   cases t<;>simp [HT.lft,key]
  ·have key:j≠i:=by
    rw [hei] at pi;rw [hej] at pj;simp at pi pj;omega
   cases t<;>simp [HT.rgt,key]
  ·have key:(half j=half i) ↔ j=i:=by
    rw [hei] at pi;rw [hej] at pj;simp at pi pj;omega
   cases t<;>simp [HT.lft,ih _ _ _ hi' hj',key]
noncomputable def hb (h:Hp) (a:Nat):Option AB:=if a < htop then (match hget hdepth a h.t with|.leaf b=>some b|_=>none) else h.f a
def hput (a:Nat) (b:AB) (h:Hp):Hp:=if a < htop then ⟨hset hdepth a b h.t,h.f⟩ else ⟨h.t,Hp.fput h.f a b⟩
theorem blt_htop (a:Nat):Nat.blt a htop=decide (a < htop):=by
 rw [Bool.eq_iff_iff];simp [Nat.blt,Nat.lt_iff_add_one_le]
theorem hb_hput {a a':Nat} (b:AB) (h:Hp) (ha:True) (ha':True):hb (hput a b h) a'=if a'=a then some b else hb h a':=by
 unfold hb hput
 by_cases h1:a < htop
 ·rw [if_pos h1]
  by_cases h2:a' < htop
  ·rw [if_pos h2,if_pos h2,hget_hset _ _ _ _ _ (by simpa [hdepth,htop] using h1) (by simpa [hdepth,htop] using h2)]
   by_cases e:a'=a<;>simp [e]
  ·rw [if_neg h2,if_neg h2,if_neg (by omega)]
 ·rw [if_neg h1]
  by_cases h2:a' < htop
  ·rw [if_pos h2,if_pos h2,if_neg (by omega)]
  ·rw [if_neg h2,if_neg h2]
   rfl
theorem putK_eq (a:Nat) (b:AB) (h:Hp) (k:Hp->Bool):putK a b h k=k (hput a b h):=by
 unfold putK hput
 rw [blt_htop]
 by_cases h1:a < htop
 ·rw [if_pos h1,decide_eq_true h1]
  exact hsetK_eq _ _ _ _ _
 ·rw [if_neg h1,decide_eq_false h1]
theorem blkK_iff {h:Hp} {a:Nat} {k:AB->Bool}:blkK h a k=true ↔ ∃ b,hb h a=some b/\k b=true:=by
 unfold blkK hb
 rw [blt_htop]
 by_cases h1:a < htop
 ·rw [if_pos h1,decide_eq_true h1]
  cases hget hdepth a h.t<;>simp
 ·rw [if_neg h1,decide_eq_false h1]
  cases h.f a<;>simp
theorem newK_iff {b:AB} {h:Hp} {n:Nat} {k:Nat->Hp->Nat->Bool}:newK b h n k=true ↔ True/\k n (hput n b h) (n+1)=true:=by
 unfold newK
 rw [putK_eq,force_eq]
 simp
theorem ifBool_iff {v:AV} {k:Bool->Bool}:ifBool v k=true ↔ ∃ b,v=.bool b/\k b=true:=by
 constructor
 ·intro h;cases v<;>first|exact⟨_,rfl,h⟩|exact Bool.noConfusion (h:false=true)
 ·rintro⟨a,rfl,h⟩;exact h
theorem ifInt_iff {v:AV} {k:IntKind->Int->Bool}:ifInt v k=true ↔ ∃ a b,v=.int a b/\k a b=true:=by
 constructor
 ·intro h;cases v<;>first|exact⟨_,_,rfl,h⟩|exact Bool.noConfusion (h:false=true)
 ·rintro⟨a,b,rfl,h⟩;exact h
theorem ifStr_iff {v:AV} {k:Nat->Nat->Bool}:ifStr v k=true ↔ ∃ a b,v=.str a b/\k a b=true:=by
 constructor
 ·intro h;cases v<;>first|exact⟨_,_,rfl,h⟩|exact Bool.noConfusion (h:false=true)
 ·rintro⟨a,b,rfl,h⟩;exact h
theorem ifPtr_iff {v:AV} {k:Nat->Nat->Bool}:ifPtr v k=true ↔ ∃ a b,v=.ptr a b/\k a b=true:=by
 constructor
 ·intro h;cases v<;>first|exact⟨_,_,rfl,h⟩|exact Bool.noConfusion (h:false=true)
 ·rintro⟨a,b,rfl,h⟩;exact h
theorem ifSl_iff {v:AV} {k0:Bool} {k1 k2:Nat->Nat->Nat->Nat->Bool}:ifSl v k0 k1 k2=true ↔
  (v=.nils/\k0=true)\/(∃ a o l c,v=.slc a o l c/\k1 a o l c=true)\/(∃ a o l c,v=.gsl a o l c/\k2 a o l c=true):=by
 constructor
 ·intro h;cases v<;>first|exact .inl ⟨rfl,h⟩|exact .inr (.inl ⟨_,_,_,_,rfl,h⟩)|exact .inr (.inr ⟨_,_,_,_,rfl,h⟩)|exact Bool.noConfusion (h:false=true)
 ·rintro (⟨rfl,h⟩ |⟨_,_,_,_,rfl,h⟩ |⟨_,_,_,_,rfl,h⟩)<;>exact h
theorem ifMap_iff {v:AV} {k0:Bool} {k:Nat->Bool}:ifMap v k0 k=true ↔ (v=.nilm/\k0=true)\/(∃ a,v=.map a/\k a=true):=by
 constructor
 ·intro h;cases v<;>first|exact .inl ⟨rfl,h⟩|exact .inr ⟨_,rfl,h⟩|exact Bool.noConfusion (h:false=true)
 ·rintro (⟨rfl,h⟩ |⟨_,rfl,h⟩)<;>exact h
theorem ifFn_iff {v:AV} {k:FuncId->List AV->List AV->Bool} {ky:Nat->Bool}:ifFn v k ky=true ↔ (∃ f a b,v=.fn f a b/\k f a b=true)\/(∃ l,v=.yld l/\ky l=true):=by
 constructor
 ·intro h;cases v<;>first|exact .inl ⟨_,_,_,rfl,h⟩|exact .inr ⟨_,rfl,h⟩|exact Bool.noConfusion (h:false=true)
 ·rintro (⟨_,_,_,rfl,h⟩ |⟨_,rfl,h⟩)<;>exact h
theorem ifIfc_iff {v:AV} {k:TypeId->AV->Bool}:ifIfc v k=true ↔ ∃ a b,v=.ifc a b/\k a b=true:=by
 constructor
 ·intro h;cases v<;>first|exact⟨_,_,rfl,h⟩|exact Bool.noConfusion (h:false=true)
 ·rintro⟨a,b,rfl,h⟩;exact h
theorem ifAgg_iff {v:AV} {k:List AV->Bool}:ifAgg v k=true ↔ ∃ a,v=.agg a/\k a=true:=by
 constructor
 ·intro h;cases v<;>first|exact⟨_,rfl,h⟩|exact Bool.noConfusion (h:false=true)
 ·rintro⟨a,rfl,h⟩;exact h
theorem ifTup_iff {v:AV} {k:List AV->Bool}:ifTup v k=true ↔ ∃ a,v=.tup a/\k a=true:=by
 constructor
 ·intro h;cases v<;>first|exact⟨_,rfl,h⟩|exact Bool.noConfusion (h:false=true)
 ·rintro⟨a,rfl,h⟩;exact h
theorem cellsK_iff {v:AV} {k:List AV->Bool}:cellsK v k=true ↔ (∀ vs,v≠.tup vs)/\k v.cells=true:=by
 cases v<;>first|exact⟨fun h=>⟨fun _=>by simp,h⟩,fun h=>h.2⟩|exact⟨fun h=>Bool.noConfusion (h:false=true),fun h=>absurd rfl (h.1 _)⟩
theorem natI_iff {n:Int} {k:Nat->Bool}:natI n k=true ↔ ∃ m:Nat,n=m/\k m=true:=by
 cases n with
 | ofNat m=>exact⟨fun h=>⟨m,rfl,h⟩,fun⟨x,e,h⟩=>by
  have:x=m:=by simp at e;omega
  subst this;exact h⟩
 | negSucc m=>exact⟨fun h=>Bool.noConfusion (h:false=true),fun⟨x,e,h⟩=>by omega⟩
theorem ifNat_iff {v:AV} {k:Nat->Bool}:ifNat v k=true ↔ ∃ kd,∃ m:Nat,v=.int kd m/\k m=true:=by
 unfold ifNat
 rw [ifInt_iff]
 constructor
 ·rintro⟨a,b,rfl,h⟩
  obtain⟨m,rfl,h⟩:=natI_iff.1 h
  exact⟨a,m,rfl,h⟩
 ·rintro⟨a,m,rfl,h⟩
  exact⟨a,m,rfl,natI_iff.2 ⟨m,rfl,h⟩⟩
theorem kindEq_iff {a b:IntKind}:kindEq a b=true ↔ a=b:=by cases a<;>cases b<;>simp [kindEq]<;>decide
theorem un1_iff {f:AV->Bool} {vs:List AV}:un1 f vs=true ↔ ∃ a,vs=[a]/\f a=true:=by
 rcases vs with _ |⟨a,_ |⟨b,r⟩⟩<;>simp [un1]
theorem un2_iff {f:AV->AV->Bool} {vs:List AV}:un2 f vs=true ↔ ∃ a b,vs=[a,b]/\f a b=true:=by
 constructor
 ·intro h
  rcases vs with _ |⟨a,_ |⟨b,_ |⟨c,r⟩⟩⟩<;>first|exact⟨_,_,rfl,h⟩|exact Bool.noConfusion (h:false=true)
 ·rintro⟨_,_,rfl,h⟩;exact h
theorem un3_iff {f:AV->AV->AV->Bool} {vs:List AV}:un3 f vs=true ↔ ∃ a b c,vs=[a,b,c]/\f a b c=true:=by
 constructor
 ·intro h
  rcases vs with _ |⟨a,_ |⟨b,_ |⟨c,_ |⟨d,r⟩⟩⟩⟩<;>first|exact⟨_,_,_,rfl,h⟩|exact Bool.noConfusion (h:false=true)
 ·rintro⟨_,_,_,rfl,h⟩;exact h
theorem one_iff {l:List AV} {k:AV->Bool}:one l k=true ↔ ∃ a,l=[a]/\k a=true:=by
 rcases l with _ |⟨a,_ |⟨b,r⟩⟩<;>simp [one]
theorem ifFam_iff {b:AB} {k:Nat->Nat->Bool}:ifFam b k=true ↔ ∃ lo la,b=.fam lo la/\k lo la=true:=by
 constructor
 ·intro h;cases b<;>first|exact⟨_,_,rfl,h⟩|exact Bool.noConfusion (h:false=true)
 ·rintro⟨a,b,rfl,h⟩;exact h
theorem ifCells_iff {b:AB} {k1:List AV->TypeId->Bool->Bool} {k2:List AV->TypeId->Nat->Nat->Bool}:ifCells b k1 k2=true ↔
  (∃ vs e ro,b=.cell vs e ro/\k1 vs e ro=true)\/(∃ vs e f z,b=.row vs e f z/\k2 vs e f z=true):=by
 constructor
 ·intro h;cases b<;>first|exact .inl ⟨_,_,_,rfl,h⟩|exact .inr ⟨_,_,_,_,rfl,h⟩|exact Bool.noConfusion (h:false=true)
 ·rintro (⟨_,_,_,rfl,h⟩ |⟨_,_,_,_,rfl,h⟩)<;>exact h
theorem ifMapB_iff {b:AB} {k:List (AV × AV × Nat)->Nat->Bool}:ifMapB b k=true ↔ ∃ es c,b=.map es c/\k es c=true:=by
 constructor
 ·intro h;cases b<;>first|exact⟨_,_,rfl,h⟩|exact Bool.noConfusion (h:false=true)
 ·rintro⟨a,b,rfl,h⟩;exact h
theorem ifMiter_iff {b:AB} {k:Option Nat->Nat->List Nat->Nat->Bool}:ifMiter b k=true ↔ ∃ m s se l,b=.miter m s se l/\k m s se l=true:=by
 constructor
 ·intro h;cases b<;>first|exact⟨_,_,_,_,rfl,h⟩|exact Bool.noConfusion (h:false=true)
 ·rintro⟨a,b,c,d,rfl,h⟩;exact h
theorem ifLoop_iff {b:AB} {k:LoopState->Option CC->FuncId->Tr->List Path->CC->CC->Nat->Bool}:ifLoop b k=true ↔
  ∃ st p fn r ps as bd d,b=.loop st p fn r ps as bd d/\k st p fn r ps as bd d=true:=by
 constructor
 ·intro h;cases b<;>first|exact⟨_,_,_,_,_,_,_,_,rfl,h⟩|exact Bool.noConfusion (h:false=true)
 ·rintro⟨_,_,_,_,_,_,_,_,rfl,h⟩;exact h
theorem ifDfr_iff {b:AB} {k:Bool->Bool}:ifDfr b k=true ↔ ∃ o,b=.dfr o/\k o=true:=by
 constructor
 ·intro h;cases b<;>first|exact⟨_,rfl,h⟩|exact Bool.noConfusion (h:false=true)
 ·rintro⟨a,rfl,h⟩;exact h
theorem rd_r {p:Path} {t:Tr} {k:AV->Bool}:rd (.r p) t k=leafK (getP p t) k:=rfl
theorem rd_c {v:AV} {t:Tr} {k:AV->Bool}:rd (.c v) t k=k v:=rfl
noncomputable def CX.val (x:CX) (t:Tr):Option AV:=match x with
 | .r p=>match getP p t with|.leaf v=>some v|_=>none
 | .c v=>some v
theorem rd_iff {x:CX} {t:Tr} {k:AV->Bool}:rd x t k=true ↔ ∃ v,x.val t=some v/\k v=true:=by
 cases x with
 | r p=>rw [rd_r,leafK_iff];simp only [CX.val];cases getP p t<;>simp
 | c v=>simp [rd_c,CX.val]
noncomputable def vals (xs:List CX) (t:Tr):Option (List AV):=match xs with
 | []=>some []
 | x::xs=>match x.val t,vals xs t with
  | some v,some vs=>some (v::vs)
  | _,_=>none
theorem rds_iff {xs:List CX} {t:Tr} {k:List AV->Bool}:rds xs t k=true ↔ ∃ vs,vals xs t=some vs/\k vs=true:=by
 induction xs generalizing k with
 | nil=>simp [vals,rds]
 | cons x xs ih =>
  have:rds (x::xs) t k=rd x t fun v=>rds xs t fun vs=>k (v::vs):=rfl
  rw [this,rd_iff]
  simp only [ih,vals]
  cases x.val t with
  | none=>simp
  | some v=>cases vals xs t<;>simp
structure Pl where
 blk:Nat
 off:Nat
 size:Nat
abbrev Phi:=Nat->Option Pl
mutual
def VRel (φ:Phi):AV->Value->Prop
 | .bool b,v=>v=.bool b
 | .int k n,v=>v=.int k n
 | .str l c,v=>c < 256 ^ l/\v=.string ⟨(bytesOf l c).toArray⟩
 | .ptr a o,v=>∃ p,φ a=some p/\v=.pointer (some ⟨p.blk,p.off+o,none⟩)
 | .nilp,v=>v=.pointer none
 | .slc a o l c,v=>∃ p,φ a=some p/\v=.slice (some ⟨p.blk,p.off+o,none⟩) l c/\l<=c
 | .gsl a o l e,v=>(∃ p c,φ a=some p/\v=.slice (some ⟨p.blk,p.off+o,none⟩) l c/\p.off+o+c*e=p.size/\l<=c)\/(e=0/\l=0/\∃ x c,v=.slice (some x) 0 c)
 | .nils,v=>v=.slice none 0 0
 | .map a,v=>∃ p,φ a=some p/\v=.map (some p.blk)
 | .nilm,v=>v=.map none
 | .fn f a b,v=>∃ x y,v=.func (.func f) x y/\VRels φ a x.toList/\VRels φ b y.toList
 | .yld l,v=>∃ p,φ l=some p/\v=.func (.yield p.blk) #[] #[]
 | .nilf,v=>v=.nilFunc
 | .ifc t x,v=>∃ y,v=.iface t y/\VRel φ x y
 | .nili,v=>v=.nilIface
 | .agg cs,v=>∃ x,v=.agg x/\VRels φ cs x.toList/\cs.all AV.scalar=true
 | .tup cs,v=>∃ x,v=.tuple x/\VRels φ cs x.toList
def VRels (φ:Phi):List AV->List Value->Prop
 | [],vs=>vs=[]
 | a::as,vs=>∃ v r,vs=v::r/\VRel φ a v/\VRels φ as r
end
def Phi.le (φ φ':Phi):Prop:=∀ a p,φ a=some p->φ' a=some p
theorem Phi.le_refl (φ:Phi):φ.le φ:=fun _ _ h=>h
theorem Phi.le_trans {φ φ' φ'':Phi} (h:φ.le φ') (h':φ'.le φ''):φ.le φ'':=fun a p e=>h' a p (h a p e)
mutual
theorem VRel.mono {φ φ':Phi} (h:φ.le φ'):(v:AV)->(c:Value)->VRel φ v c->VRel φ' v c
 | .bool b,c,r=>by simpa [VRel] using r
 | .int k n,c,r=>by simpa [VRel] using r
 | .str l x,c,r=>by simpa [VRel] using r
 | .ptr a o,c,r=>by
  simp only [VRel] at r ⊢
  obtain⟨p,hp,e⟩:=r
  exact⟨p,h _ _ hp,e⟩
 | .nilp,c,r=>by simpa [VRel] using r
 | .slc a o l x,c,r=>by
  simp only [VRel] at r ⊢
  obtain⟨p,hp,e⟩:=r
  exact⟨p,h _ _ hp,e⟩
 | .gsl a o l x,c,r=>by
  simp only [VRel] at r ⊢
  rcases r with ⟨p,y,hp,e⟩|r
  ·exact .inl ⟨p,y,h _ _ hp,e⟩
  ·exact .inr r
 | .nils,c,r=>by simpa [VRel] using r
 | .map a,c,r=>by
  simp only [VRel] at r ⊢
  obtain⟨p,hp,e⟩:=r
  exact⟨p,h _ _ hp,e⟩
 | .nilm,c,r=>by simpa [VRel] using r
 | .fn f a b,c,r=>by
  simp only [VRel] at r ⊢
  obtain⟨x,y,e,r1,r2⟩:=r
  exact⟨x,y,e,VRels.mono h a _ r1,VRels.mono h b _ r2⟩
 | .yld l,c,r=>by
  simp only [VRel] at r ⊢
  obtain⟨p,hp,e⟩:=r
  exact⟨p,h _ _ hp,e⟩
 | .nilf,c,r=>by simpa [VRel] using r
 | .ifc t x,c,r=>by
  simp only [VRel] at r ⊢
  obtain⟨y,e,r1⟩:=r
  exact⟨y,e,VRel.mono h x _ r1⟩
 | .nili,c,r=>by simpa [VRel] using r
 | .agg cs,c,r=>by
  simp only [VRel] at r ⊢
  obtain⟨y,e,r1,r2⟩:=r
  exact⟨y,e,VRels.mono h cs _ r1,r2⟩
 | .tup cs,c,r=>by
  simp only [VRel] at r ⊢
  obtain⟨y,e,r1⟩:=r
  exact⟨y,e,VRels.mono h cs _ r1⟩
theorem VRels.mono {φ φ':Phi} (h:φ.le φ'):(vs:List AV)->(cs:List Value)->VRels φ vs cs->VRels φ' vs cs
 | [],cs,r=>by simpa [VRels] using r
 | v::vs,cs,r=>by
  simp only [VRels] at r ⊢
  obtain⟨c,cs',e,r1,r2⟩:=r
  exact⟨c,cs',e,VRel.mono h v _ r1,VRels.mono h vs _ r2⟩
end
theorem VRels.nil {φ:Phi}:VRels φ [] []:=by simp [VRels]
theorem VRels.nil_iff {φ:Phi} {cs:List Value}:VRels φ [] cs ↔ cs=[]:=by simp [VRels]
theorem VRels.cons {φ:Phi} {v:AV} {vs:List AV} {c:Value} {cs:List Value} (h:VRel φ v c) (h':VRels φ vs cs):VRels φ (v::vs) (c::cs):=by
 simp only [VRels];exact⟨c,cs,rfl,h,h'⟩
theorem VRels.cons_iff {φ:Phi} {v:AV} {vs:List AV} {cs:List Value}:VRels φ (v::vs) cs ↔ ∃ c r,cs=c::r/\VRel φ v c/\VRels φ vs r:=by simp [VRels]
theorem VRels.cons_cons {φ:Phi} {v:AV} {vs:List AV} {c:Value} {cs:List Value}:VRels φ (v::vs) (c::cs) ↔ VRel φ v c/\VRels φ vs cs:=by
 rw [VRels.cons_iff]
 constructor
 ·rintro⟨_,_,e,h⟩;cases e;exact h
 ·exact fun h=>⟨_,_,rfl,h⟩
theorem VRels.one {φ:Phi} {v:AV} {cs:List Value}:VRels φ [v] cs ↔ ∃ c,cs=[c]/\VRel φ v c:=by
 simp only [VRels]
 constructor
 ·rintro⟨c,_,rfl,h,rfl⟩;exact⟨c,rfl,h⟩
 ·rintro⟨c,rfl,h⟩;exact⟨c,_,rfl,h,rfl⟩
theorem VRels.two {φ:Phi} {v u:AV} {cs:List Value}:VRels φ [v,u] cs ↔ ∃ c d,cs=[c,d]/\VRel φ v c/\VRel φ u d:=by
 simp only [VRels]
 constructor
 ·rintro⟨c,_,rfl,h,d,_,rfl,h',rfl⟩;exact⟨c,d,rfl,h,h'⟩
 ·rintro⟨c,d,rfl,h,h'⟩;exact⟨c,_,rfl,h,d,_,rfl,h',rfl⟩
theorem VRels.three {φ:Phi} {v u x:AV} {cs:List Value}:VRels φ [v,u,x] cs ↔ ∃ c d e,cs=[c,d,e]/\VRel φ v c/\VRel φ u d/\VRel φ x e:=by
 simp only [VRels]
 constructor
 ·rintro⟨c,_,rfl,h,d,_,rfl,h',e,_,rfl,h'',rfl⟩;exact⟨c,d,e,rfl,h,h',h''⟩
 ·rintro⟨c,d,e,rfl,h,h',h''⟩;exact⟨c,_,rfl,h,d,_,rfl,h',e,_,rfl,h'',rfl⟩
theorem VRels.length {φ:Phi} {vs:List AV} {cs:List Value} (h:VRels φ vs cs):vs.length=cs.length:=by
 induction vs generalizing cs with
 | nil=>rw [VRels.nil_iff.1 h];rfl
 | cons v vs ih=>obtain⟨c,r,rfl,_,h⟩:=VRels.cons_iff.1 h;simp [ih h]
theorem VRels.get {φ:Phi} {vs:List AV} {cs:List Value} (h:VRels φ vs cs) {i:Nat} {v:AV} (hv:vs[i]?=some v):∃ c,cs[i]?=some c/\VRel φ v c:=by
 induction vs generalizing cs i with
 | nil=>simp at hv
 | cons x xs ih =>
  obtain⟨c,r,rfl,h1,h2⟩:=VRels.cons_iff.1 h
  cases i with
  | zero=>simp at hv;subst hv;exact⟨c,by simp,h1⟩
  | succ i=>simpa using ih h2 (by simpa using hv)
theorem VRels.of_get {φ:Phi} {vs:List AV} {cs:List Value} (hl:vs.length=cs.length) (h:∀ (i:Nat) (v:AV),vs[i]?=some v->∃ c,cs[i]?=some c/\VRel φ v c):VRels φ vs cs:=by
 induction vs generalizing cs with
 | nil=>cases cs<;>simp_all [VRels]
 | cons x xs ih =>
  cases cs with
  | nil=>simp at hl
  | cons c cs =>
   obtain⟨c',e,hx⟩:=h 0 x (by simp)
   simp at e;subst e
   exact VRels.cons hx (ih (by simpa using hl) fun i v hv=>by simpa using h (i+1) v (by simpa using hv))
theorem VRels.append {φ:Phi} {vs us:List AV} {cs ds:List Value} (h:VRels φ vs cs) (h':VRels φ us ds):VRels φ (vs++us) (cs++ds):=by
 induction vs generalizing cs with
 | nil=>rw [VRels.nil_iff.1 h];exact h'
 | cons v vs ih=>obtain⟨c,r,rfl,h1,h2⟩:=VRels.cons_iff.1 h;exact VRels.cons h1 (ih h2)
theorem VRels.take {φ:Phi} {vs:List AV} {cs:List Value} (h:VRels φ vs cs) (n:Nat):VRels φ (vs.take n) (cs.take n):=by
 induction vs generalizing cs n with
 | nil=>rw [VRels.nil_iff.1 h];simp [VRels]
 | cons v vs ih =>
  obtain⟨c,r,rfl,h1,h2⟩:=VRels.cons_iff.1 h
  cases n with
  | zero=>simp [VRels]
  | succ n=>exact VRels.cons h1 (ih h2 n)
theorem VRels.drop {φ:Phi} {vs:List AV} {cs:List Value} (h:VRels φ vs cs) (n:Nat):VRels φ (vs.drop n) (cs.drop n):=by
 induction vs generalizing cs n with
 | nil=>rw [VRels.nil_iff.1 h];simp [VRels]
 | cons v vs ih =>
  cases n with
  | zero=>exact h
  | succ n=>obtain⟨c,r,rfl,h1,h2⟩:=VRels.cons_iff.1 h;exact ih h2 n
theorem VRel.cells {φ:Phi} {v:AV} {c:Value} (h:VRel φ v c):VRels φ v.cells c.cells.toList:=by
 cases v<;>simp only [VRel] at h
 case agg cs=>obtain⟨x,rfl,h,_⟩:=h;exact h
 all_goals (first |(subst h;simp [AV.cells,Value.cells,VRels,VRel])|skip)
 case str l x=>obtain⟨h,rfl⟩:=h;simp [AV.cells,Value.cells,VRels,VRel,h]
 case ptr a o=>obtain⟨p,hp,rfl⟩:=h;simp [AV.cells,Value.cells,VRels,VRel,hp]
 case slc a o l x=>obtain⟨p,hp,rfl,hl⟩:=h;simp [AV.cells,Value.cells,VRels,VRel,hp,hl]
 case gsl a o l x =>
  rcases h with ⟨p,y,hp,rfl,h1,h2⟩ |⟨rfl,rfl,z,c,rfl⟩
  ·exact VRels.cons (by simp only [VRel];exact .inl ⟨p,y,hp,rfl,h1,h2⟩) VRels.nil
  ·exact VRels.cons (by simp only [VRel];exact .inr ⟨trivial,trivial,z,c,rfl⟩) VRels.nil
 case map a=>obtain⟨p,hp,rfl⟩:=h;simp [AV.cells,Value.cells,VRels,VRel,hp]
 case fn f a b=>obtain⟨x,y,rfl,h1,h2⟩:=h;exact VRels.cons (by simp only [VRel];exact⟨x,y,rfl,h1,h2⟩) VRels.nil
 case yld l=>obtain⟨p,hp,rfl⟩:=h;simp [AV.cells,Value.cells,VRels,VRel,hp]
 case ifc t x=>obtain⟨y,rfl,h⟩:=h;simp [AV.cells,Value.cells,VRels,VRel,h]
 case tup cs=>obtain⟨x,rfl,h⟩:=h;simp [AV.cells,Value.cells,VRels,VRel,h]
theorem AV.cells_scalar {φ:Phi} {v:AV} {c:Value} (h:VRel φ v c) (ht:∀ vs,v≠.tup vs):v.cells.all AV.scalar=true:=by
 cases v<;>first|rfl|skip
 case agg cs=>simp only [VRel] at h;obtain⟨_,_,_,h⟩:=h;exact h
 case tup cs=>exact absurd rfl (ht cs)
theorem VRel.oneCell {φ:Phi} {v:AV} {c:Value} (h:VRel φ v c) (hs:v.scalar=true):c.oneCell'=true:=by
 cases v<;>simp [AV.scalar] at hs<;>simp only [VRel] at h
 all_goals (first |(subst h;rfl)|skip)
 case str=>obtain⟨_,rfl⟩:=h;rfl
 case ptr=>obtain⟨_,_,rfl⟩:=h;rfl
 case slc=>obtain⟨_,_,rfl,_⟩:=h;rfl
 case gsl=>rcases h with ⟨_,_,_,rfl,_⟩ |⟨_,_,_,_,rfl⟩<;>rfl
 case map=>obtain⟨_,_,rfl⟩:=h;rfl
 case fn=>obtain⟨_,_,rfl,_⟩:=h;rfl
 case yld=>obtain⟨_,_,rfl⟩:=h;rfl
 case ifc=>obtain⟨_,rfl,_⟩:=h;rfl
theorem strOf_rel {φ:Phi} (bs:List UInt8):VRel φ (strOf bs) (.string ⟨bs.toArray⟩):=by
 have key:∀ bs:List UInt8,(bs.foldr (fun b acc=>b.toNat+256*acc) 0) < 256 ^ bs.length/\bytesOf bs.length (bs.foldr (fun b acc=>b.toNat+256*acc) 0)=bs:=by
  intro bs
  induction bs with
  | nil=>simp [bytesOf]
  | cons b bs ih =>
   obtain⟨h1,h2⟩:=ih
   have hb:=b.toNat_lt
   refine⟨?_,?_⟩
   ·simp only [List.foldr_cons,List.length_cons,Nat.pow_succ];omega
   ·simp only [List.foldr_cons,List.length_cons,bytesOf]
    rw [show (b.toNat+256*(List.foldr (fun b acc=>b.toNat+256*acc) 0 bs)) % 256=b.toNat by omega,
     show (b.toNat+256*(List.foldr (fun b acc=>b.toNat+256*acc) 0 bs)) / 256=List.foldr (fun b acc=>b.toNat+256*acc) 0 bs by omega,h2]
    simp
 obtain⟨h1,h2⟩:=key bs
 simp only [strOf,VRel,h2]
 exact⟨h1,trivial⟩
mutual
theorem ofValue_rel {φ:Phi}:(c:Value)->(v:AV)->ofValue c=some v->VRel φ v c
 | .bool b,v,h=>by simp [ofValue] at h;subst h;simp [VRel]
 | .int k n,v,h=>by simp [ofValue] at h;subst h;simp [VRel]
 | .float ..,v,h=>by simp [ofValue] at h
 | .complex ..,v,h=>by simp [ofValue] at h
 | .string s,v,h=>by simp [ofValue] at h;subst h;exact strOf_rel s.data.toList
 | .pointer none,v,h=>by simp [ofValue] at h;subst h;simp [VRel]
 | .pointer (some a),v,h=>by simp [ofValue] at h
 | .slice a l c,v,h=>by
  unfold ofValue at h
  split at h<;>simp_all
  subst h;simp [VRel]
 | .map none,v,h=>by simp [ofValue] at h;subst h;simp [VRel]
 | .map (some a),v,h=>by simp [ofValue] at h
 | .chan a,v,h=>by simp [ofValue] at h
 | .func fn a b,v,h=>by
  cases fn<;>simp [ofValue] at h
  split at h<;>simp at h
  subst h
  rename_i f _ _ a' b' h1 h2
  simp only [VRel]
  exact⟨a,b,rfl,ofValues_rel a.toList _ h1,ofValues_rel b.toList _ h2⟩
 | .nilFunc,v,h=>by simp [ofValue] at h;subst h;simp [VRel]
 | .iface t x,v,h=>by
  simp [ofValue] at h
  split at h<;>simp at h
  subst h
  rename_i y hy
  simp only [VRel]
  exact⟨x,rfl,ofValue_rel x _ hy⟩
 | .nilIface,v,h=>by simp [ofValue] at h;subst h;simp [VRel]
 | .agg cs,v,h=>by
  unfold ofValue at h
  split at h
  ·rename_i y hy
   split at h<;>simp at h
   rename_i hs
   subst h
   simp only [VRel]
   exact⟨cs,rfl,ofValues_rel cs.toList _ hy,hs⟩
  ·simp at h
 | .tuple cs,v,h=>by
  simp [ofValue] at h
  split at h<;>simp at h
  subst h
  rename_i y hy
  simp only [VRel]
  exact⟨cs,rfl,ofValues_rel cs.toList _ hy⟩
theorem ofValues_rel {φ:Phi}:(cs:List Value)->(vs:List AV)->ofValues cs=some vs->VRels φ vs cs
 | [],vs,h=>by simp [ofValues] at h;subst h;simp [VRels]
 | c::cs,vs,h=>by
  simp [ofValues] at h
  split at h<;>simp at h
  subst h
  rename_i v vs' h1 h2
  exact VRels.cons (ofValue_rel c _ h1) (ofValues_rel cs _ h2)
end
inductive OpIs (P:Program) (N:FuncId->Option Ext):Op->OC->List Operand->Prop
 | move (x):OpIs P N (.move x) .mov [x]
 | assign (x):OpIs P N (.assign x) .mov [x]
 | pick (c a b):OpIs P N (.pick c a b) .pick [c,a,b]
 | alloc (e z) (hz:TI.zero P e=some z) (hn:z.noTup=true):OpIs P N (.alloc e) (.alloc z.cells e) []
 | box (e x):OpIs P N (.box e x) (.box e) [x]
 | buildS (t ps z fs pl) (hz:TI.zero P t=some z) (ht:P.underlying t=some (.struct fs)) (hp:placesS P fs ps.toList=some pl) (hn:((fs.toList.all fun f=>(P.info? f.type).isSome)&&z.noTup)=true):OpIs P N (.build t ps) (.build z.cells pl) (ps.toList.map (·.2))
 | buildA (t ps z n e s) (hz:TI.zero P t=some z) (ht:P.underlying t=some (.array n e)) (hs:TI.size P e=some s) (hn:z.noTup=true):OpIs P N (.build t ps) (.build z.cells (placesA s ps.toList)) (ps.toList.map (·.2))
 | buildSlice (t n ps e s z) (ht:P.underlying t=some (.slice e)) (hs:TI.size P e=some s) (hz:TI.zero P e=some z) (h1:z.cells.length=s) (h2:0 < s) (h3:n*s<=16777216) (hn:z.noTup=true) :
   OpIs P N (.buildSlice t n ps) (.bslice (reps z.cells n) e n (placesA s ps.toList)) (ps.toList.map (·.2))
 | loadA (t a s) (hg:TI.isAgg P t=some true) (hs:TI.size P t=some s):OpIs P N (.load t a) (.loadA s) [a]
 | loadC (t a) (hg:TI.isAgg P t=some false):OpIs P N (.load t a) .loadC [a]
 | store (t a x s) (hs:TI.size P t=some s):OpIs P N (.store t a x) (.store s) [a,x]
 | nilCheck (x):OpIs P N (.nilCheck x) .nilchk [x]
 | shift (op t x y u k) (ht:P.underlying t=some (.int k)) (ho:op=.shl\/op=.shr):OpIs P N (.binOp op t x y u) (.shift op) [x,y]
 | eql (t x y u d) (ht:P.underlying t=some d):OpIs P N (.binOp .eql t x y u) (.eql false (ekOf P t x y)) [x,y]
 | neq (t x y u d) (ht:P.underlying t=some d):OpIs P N (.binOp .neq t x y u) (.eql true (ekOf P t x y)) [x,y]
 | icmp (op t x y u) (ho:op=.lss\/op=.leq\/op=.gtr\/op=.geq):OpIs P N (.binOp op t x y u) (.icmp op) [x,y]
 | add (t x y u):OpIs P N (.binOp .add t x y u) .add [x,y]
 | sub (t x y u):OpIs P N (.binOp .sub t x y u) .sub [x,y]
 | mul (t x y u):OpIs P N (.binOp .mul t x y u) .mul [x,y]
 | quo (t x y u):OpIs P N (.binOp .quo t x y u) .quo [x,y]
 | rem (t x y u):OpIs P N (.binOp .rem t x y u) .rem [x,y]
 | bits (op t x y u) (ho:op=.and\/op=.or\/op=.xor\/op=.andNot):OpIs P N (.binOp op t x y u) (.bits op) [x,y]
 | concat (t x y u):OpIs P N (.binOp .add t x y u) .concat [x,y]
 | scmp (op t x y u) (ho:op=.lss\/op=.leq\/op=.gtr\/op=.geq):OpIs P N (.binOp op t x y u) (.scmp op) [x,y]
 | not (t x):OpIs P N (.unOp .not t x) .not [x]
 | neg (t x):OpIs P N (.unOp .neg t x) .neg [x]
 | inv (t x):OpIs P N (.unOp .xor t x) .inv [x]
 | convInt (s t x j k) (hs:P.underlying s=some (.int j)) (ht:P.underlying t=some (.int k)):OpIs P N (.convert s t x) (.convInt k) [x]
 | convSS (s t x) (hs:P.underlying s=some .string) (ht:P.underlying t=some .string):OpIs P N (.convert s t x) (.sliceStr false false) [x]
 | toUns (s t x e m) (hs:P.underlying s=some (.pointer e)) (ht:P.underlying t=some .unsafePointer) (he:TI.size P e=some (m+1)):OpIs P N (.convert s t x) .toUns [x]
 | fromUns (s t x u m) (hs:P.underlying s=some .unsafePointer) (ht:P.underlying t=some (.pointer u)) (hu:TI.size P u=some m):OpIs P N (.convert s t x) (.fromUns u m) [x]
 | convSB (s t x e) (hs:P.underlying s=some .string) (ht:P.underlying t=some (.slice e)) (he:P.underlying e=some (.int .u8)):OpIs P N (.convert s t x) (.convSB e) [x]
 | convBS (s t x e) (hs:P.underlying s=some (.slice e)) (ht:P.underlying t=some .string) (he:P.underlying e=some (.int .u8)):OpIs P N (.convert s t x) .convBS [x]
 | mkIfc (t x d) (ht:P.underlying t=some d) (hd:∀ ms,d≠.interface ms):OpIs P N (.makeInterface t x) (.mkIfc t) [x]
 | mkFn (f a b):OpIs P N (.makeFunc (.func f) a b) (.mkFn f a.size) (a.toList++b.toList)
 | mkMap (t):OpIs P N (.makeMap t none) .mkMap []
 | mkSlice (t l c e z i) (ht:P.underlying t=some (.slice e)) (hz:TI.zero P e=some z) (hi:P.info? e=some i) (h1:0 < i.size) (h2:z.cells.length=i.size) (hn:z.noTup=true):OpIs P N (.makeSlice t l c) (.mkSlice e z.cells i.bytes) [l,c]
 | sliceStr (t x lo hi) (ht:P.underlying t=some .string):OpIs P N (.slice t x lo hi none) (.sliceStr lo.isSome hi.isSome) (x::(optL hi++optL lo))
 | sliceSl (t x lo hi mx e s) (ht:P.underlying t=some (.slice e)) (hs:TI.size P e=some s) (hm:¬ (mx.isSome=true/\hi.isSome=false)):OpIs P N (.slice t x lo hi mx) (.sliceSl s lo.isSome hi.isSome mx.isSome) (x::(optL mx++optL hi++optL lo))
 | sliceArr (t x lo hi mx n e s) (ht:P.underlying t=some (.array n e)) (hs:TI.size P e=some s) (hm:¬ (mx.isSome=true/\hi.isSome=false)):OpIs P N (.slice t x lo hi mx) (.sliceArr n s lo.isSome hi.isSome mx.isSome) (x::(optL mx++optL hi++optL lo))
 | slicePArr (t x lo hi mx a n e s) (ht:P.underlying t=some (.pointer a)) (ha:P.underlying a=some (.array n e)) (hs:TI.size P e=some s) (hm:¬ (mx.isSome=true/\hi.isSome=false)):OpIs P N (.slice t x lo hi mx) (.sliceArr n s lo.isSome hi.isSome mx.isSome) (x::(optL mx++optL hi++optL lo))
 | fieldA (t x i fs f s) (ht:P.underlying t=some (.struct fs)) (hf:fs[i]?=some f) (hs:TI.size P f.type=some s) (h0:s≠0):OpIs P N (.fieldAddr t x i) (.fieldA f.offset) [x]
 | field (t x i fs f s g) (ht:P.underlying t=some (.struct fs)) (hf:fs[i]?=some f) (hs:TI.size P f.type=some s) (hg:TI.isAgg P f.type=some g):OpIs P N (.field t x i) (.field f.offset s g) [x]
 | idxArrA (t x i n e s) (ht:P.underlying t=some (.array n e)) (hs:TI.size P e=some s):OpIs P N (.indexAddr t x i) (.idxArrA n s) [x,i]
 | idxSlA (t x i e s) (ht:P.underlying t=some (.slice e)) (hs:TI.size P e=some s):OpIs P N (.indexAddr t x i) (.idxSlA s) [x,i]
 | idxArr (t x i n e s g) (ht:P.underlying t=some (.array n e)) (hs:TI.size P e=some s) (hg:TI.isAgg P e=some g):OpIs P N (.index t x i) (.idxArr n s g) [x,i]
 | idxStr (t x i) (ht:P.underlying t=some .string):OpIs P N (.index t x i) .idxStr [x,i]
 | lookup (t m k ok kt e z sh g) (ht:P.underlying t=some (.map kt e)) (hz:TI.zero P e=some z) (hf:flatTy P 40 kt=some sh) (hg:TI.isAgg P kt=some g):OpIs P N (.lookup t m k ok) (.lookup sh g z ok) [m,k]
 | mapUpd (t m k v kt e sh g) (ht:P.underlying t=some (.map kt e)) (hf:flatTy P 40 kt=some sh) (hg:TI.isAgg P kt=some g):OpIs P N (.mapUpdate t m k v) (.mapUpd sh g) [m,k,v]
 | insert (t m k v kt e sh g) (ht:P.underlying t=some (.map kt e)) (hf:flatTy P 40 kt=some sh) (hg:TI.isAgg P kt=some g):OpIs P N (.insert t m k v) (.mapUpd sh g) [m,k,v]
 | range (t x k e) (ht:P.underlying t=some (.map k e)):OpIs P N (.range t x) .rangeMap [x]
 | next (x):OpIs P N (.next x false) .nextMap [x]
 | entry (x):OpIs P N (.entry x) .entry [x]
 | extract (x i):OpIs P N (.extract x i) (.extract i) [x]
 | assert (x s t d z) (ht:P.underlying t=some d) (hd:∀ ms,d≠.interface ms) (hz:TI.zero P t=some z):OpIs P N (.typeAssert x s t true) (.assert t z) [x]
 | panic (x):OpIs P N (.panic x) .panic [x]
 | defer (c f) (hc:c.callee=.value f):OpIs P N (.defer c) .defer (f::c.args.toList)
 | recover (c) (hc:c.callee=.builtin .recover) (ha:c.args.toList=[]):OpIs P N (.call c) .recover []
 | ext (c f e) (hc:c.callee=.value (.func f)) (hn:extN N f=some e):OpIs P N (.call c) (.ext e) c.args.toList
 | call (c f) (hc:c.callee=.value (.func f)) (hn:extN N f=none):OpIs P N (.call c) (.call f) c.args.toList
 | callv (c f) (hc:c.callee=.value f) (hf:∀ g,f≠.func g):OpIs P N (.call c) .callv (f::c.args.toList)
 | invoke (c r m) (hc:c.callee=.invoke r m):OpIs P N (.call c) (.invoke m) (r::c.args.toList)
 | lenStr (c x t) (hc:c.callee=.builtin .len) (ha:c.args.toList=[x]) (hat:c.argTypes.toList=[t]) (ht:P.underlying t=some .string):OpIs P N (.call c) .lenStr [x]
 | lenSl (c x t e) (hc:c.callee=.builtin .len) (ha:c.args.toList=[x]) (hat:c.argTypes.toList=[t]) (ht:P.underlying t=some (.slice e)):OpIs P N (.call c) .lenSl [x]
 | lenMap (c x t k e) (hc:c.callee=.builtin .len) (ha:c.args.toList=[x]) (hat:c.argTypes.toList=[t]) (ht:P.underlying t=some (.map k e)):OpIs P N (.call c) .lenMap [x]
 | lenArr (c x t n e) (hc:c.callee=.builtin .len) (ha:c.args.toList=[x]) (hat:c.argTypes.toList=[t]) (ht:P.underlying t=some (.array n e)):OpIs P N (.call c) .mov [.const (.int .i64 n)]
 | copyS (c d s t u e) (hc:c.callee=.builtin .copy) (ha:c.args.toList=[d,s]) (hat:c.argTypes.toList=[t,u]) (ht:P.underlying t=some (.slice e)) (hu:P.underlying u=some .string) (hs:TI.size P e=some 1):OpIs P N (.call c) .copyS [d,s]
 | append (c s x t u e d i z) (hc:c.callee=.builtin .append) (ha:c.args.toList=[s,x]) (hat:c.argTypes.toList=[t,u]) (ht:P.underlying t=some (.slice e)) (hu:P.underlying u=some d) (hd:∀ k,d≠.int k) (hi:P.info? e=some i) (hz:TI.zero P e=some z) (h1:z.cells.length=i.size/\z.noTup=true/\i.bytes<=1048576):OpIs P N (.call c) (.append e i.size) [s,x]
 | cap (c x t e) (hc:c.callee=.builtin .cap) (ha:c.args.toList=[x]) (hat:c.argTypes.toList=[t]) (ht:P.underlying t=some (.slice e)):OpIs P N (.call c) .cap [x]
 | min (c x y) (hc:c.callee=.builtin .min) (ha:c.args.toList=[x,y]):OpIs P N (.call c) .minInt [x,y]
 | max (c x y) (hc:c.callee=.builtin .max) (ha:c.args.toList=[x,y]):OpIs P N (.call c) .maxInt [x,y]
 | usld (c x) (hc:c.callee=.builtin .unsafeSliceData) (ha:c.args.toList=[x]):OpIs P N (.call c) .usld [x]
 | ustr (c x y t u e) (hc:c.callee=.builtin .unsafeString) (ha:c.args.toList=[x,y]) (hat:c.argTypes.toList=[t,u]) (ht:P.underlying t=some (.pointer e)) (he:TI.size P e=some 1):OpIs P N (.call c) (.ustr e) [x,y]
set_option maxHeartbeats 4000000 in
theorem compOp_is {P:Program} {N:FuncId->Option Ext} {o:Oper} {oc:OC} {xs:List Operand} (h:compOp P N o=some (oc,xs)):OpIs P N o.op oc xs:=by
 unfold compOp at h
 generalize o.op=op at h ⊢
 cases op<;>(try simp only at h)
 case makeFunc fn a b=>cases fn<;>(try simp only at h)<;>first |(simp at h;done) |(simp only [Option.some.injEq,Prod.mk.injEq] at h;obtain⟨rfl,rfl⟩:=h;exact .mkFn _ _ _)
 case makeMap t r=>cases r<;>(try simp only at h)<;>first |(simp at h;done) |(simp only [Option.some.injEq,Prod.mk.injEq] at h;obtain⟨rfl,rfl⟩:=h;exact .mkMap _)
 case unOp u t x=>cases u<;>(try simp only at h)<;>first |(simp at h;done) |(simp only [Option.some.injEq,Prod.mk.injEq] at h;obtain⟨rfl,rfl⟩:=h;constructor)
 case typeAssert x s t b =>
  cases b with
  | false=>simp at h
  | true =>
   simp only at h
   split at h
   ·simp at h
   ·rename_i d z hd h1 h2
    simp only [Option.some.injEq,Prod.mk.injEq] at h;obtain⟨rfl,rfl⟩:=h
    exact .assert _ _ _ _ _ h1 (fun ms e=>hd ms e) h2
   ·simp at h
 case defer c =>
  rcases c with ⟨callee,args,argTypes⟩
  cases callee<;>simp only at h<;>first |(simp at h;done) |(simp only [Option.some.injEq,Prod.mk.injEq] at h;obtain⟨rfl,rfl⟩:=h;exact .defer ⟨_,args,argTypes⟩ _ rfl)
 case next x b=>cases b<;>(try simp only at h)<;>first |(simp at h;done) |(simp only [Option.some.injEq,Prod.mk.injEq] at h;obtain⟨rfl,rfl⟩:=h;constructor)
 case binOp op t x y u =>
  cases op<;>(try simp only at h)<;>(repeat' (split at h))<;>first
   | contradiction
   |(simp at h;done)
   |(simp only [Option.some.injEq,Prod.mk.injEq] at h;obtain⟨rfl,rfl⟩:=h;constructor<;>first|assumption|simp)
 case slice t x lo hi mx =>
  (repeat' (split at h))<;>first
   | contradiction
   |(simp at h;done)
   | skip
  all_goals (simp only [Option.some.injEq,Prod.mk.injEq] at h;obtain⟨rfl,rfl⟩:=h)
  ·rename_i h1 h2
   obtain rfl:mx=none:=by cases mx<;>simp_all
   exact .sliceStr _ _ _ _ (by assumption)
  ·constructor<;>assumption
  ·constructor<;>assumption
  ·exact .slicePArr _ _ _ _ _ _ _ _ _ (by assumption) (by assumption) (by assumption) (by assumption)
 case call c =>
  rcases c with ⟨callee,args,argTypes⟩
  simp only at h
  cases callee with
  | value f =>
   cases f<;>(try simp only at h)
   case func f =>
    split at h<;>(simp only [Option.some.injEq,Prod.mk.injEq] at h;obtain⟨rfl,rfl⟩:=h)
    ·exact .ext _ _ _ rfl (by assumption)
    ·exact .call _ _ rfl (by assumption)
   all_goals (simp only [Option.some.injEq,Prod.mk.injEq] at h;obtain⟨rfl,rfl⟩:=h;exact .callv ⟨_,args,argTypes⟩ _ rfl (by simp))
  | invoke r m=>simp only [Option.some.injEq,Prod.mk.injEq] at h;obtain⟨rfl,rfl⟩:=h;exact .invoke ⟨_,args,argTypes⟩ _ _ rfl
  | builtin b =>
   simp only at h
   cases b<;>(try simp only at h)<;>(repeat' (split at h))<;>first
    | contradiction
    |(simp at h;done)
    | skip
   all_goals (simp only [Option.some.injEq,Prod.mk.injEq] at h;obtain⟨rfl,rfl⟩:=h)
   all_goals first
   |exact .append ⟨_,args,argTypes⟩ _ _ _ _ _ _ _ _ rfl (by assumption) (by assumption) (by assumption) (by assumption) (by assumption) (by assumption) (by assumption) (by assumption)
   |exact .copyS ⟨_,args,argTypes⟩ _ _ _ _ _ rfl (by assumption) (by assumption) (by assumption) (by assumption) (by assumption)
   |exact .cap ⟨_,args,argTypes⟩ _ _ _ rfl (by assumption) (by assumption) (by assumption)
   |exact .lenStr ⟨_,args,argTypes⟩ _ _ rfl (by assumption) (by assumption) (by assumption)
   |exact .lenSl ⟨_,args,argTypes⟩ _ _ _ rfl (by assumption) (by assumption) (by assumption)
   |exact .lenMap ⟨_,args,argTypes⟩ _ _ _ _ rfl (by assumption) (by assumption) (by assumption)
   |exact .lenArr ⟨_,args,argTypes⟩ _ _ _ _ rfl (by assumption) (by assumption) (by assumption)
   |exact .max ⟨_,args,argTypes⟩ _ _ rfl (by assumption)
   |exact .min ⟨_,args,argTypes⟩ _ _ rfl (by assumption)
   |exact .usld ⟨_,args,argTypes⟩ _ rfl (by assumption)
   |exact .recover ⟨_,args,argTypes⟩ rfl (by assumption)
   |exact .ustr ⟨_,args,argTypes⟩ _ _ _ _ _ rfl (by assumption) (by assumption) (by assumption) (by assumption)
 all_goals (repeat' (split at h))
 all_goals first
  | contradiction
  |(simp at h;done)
  |(simp only [Option.some.injEq,Prod.mk.injEq] at h;obtain⟨rfl,rfl⟩:=h;constructor<;>first|assumption|simp_all)
  | skip
 simp only [Option.some.injEq,Prod.mk.injEq] at h;obtain⟨rfl,rfl⟩:=h
 exact .buildA _ _ _ _ _ _ (by assumption) (by assumption) (by assumption) (by assumption)
def PureTo (P:Program) (o:Oper) (oc:OC) (xs:List Operand) (vs:List AV):Prop :=
 ∃ v,(∀ h n K,execV oc vs h n K=K.v v h n) /\
  ∀ (φ:Phi) (ρ:Operand->Value) (w:World),(∀ v,ρ (.const v)=v)->VRels φ vs (xs.map ρ)->∃ c,(execOp ρ o).run P w=.ok (.value c) w/\VRel φ v c
section
variable {P:Program} {o:Oper} {vs:List AV} {h:Hp} {n:Nat} {K:KS}
theorem int_rel {φ:Phi} {k:IntKind} {z:Int} {c:Value}:VRel φ (.int k z) c ↔ c=.int k z:=by simp [VRel]
theorem bool_rel {φ:Phi} {b:Bool} {c:Value}:VRel φ (.bool b) c ↔ c=.bool b:=by simp [VRel]
theorem ints_iff {f:IntKind->Int->Int->Bool} {vs:List AV}:ints f vs=true ↔ ∃ k x y,vs=[.int k x,.int k y]/\f k x y=true:=by
 unfold ints
 rw [un2_iff]
 constructor
 ·rintro⟨a,b,rfl,h1⟩
  obtain⟨k,x,rfl,h2⟩:=ifInt_iff.1 h1
  obtain⟨j,y,rfl,h3⟩:=ifInt_iff.1 h2
  obtain⟨e,h4⟩:=guardB_iff.1 h3
  rw [kindEq_iff] at e
  subst e
  exact⟨k,x,y,rfl,h4⟩
 ·rintro⟨k,x,y,rfl,h⟩
  exact⟨_,_,rfl,ifInt_iff.2 ⟨_,_,rfl,ifInt_iff.2 ⟨_,_,rfl,guardB_iff.2 ⟨kindEq_iff.2 rfl,h⟩⟩⟩⟩
theorem ints_eq (f:IntKind->Int->Int->Bool) (k:IntKind) (x y:Int):ints f [.int k x,.int k y]=f k x y:=by
 show guardB (kindEq k k) (f k x y)=_
 rw [kindEq_iff.2 rfl];rfl
theorem rel2 {φ:Phi} {ρ:Operand->Value} {x y:Operand} {a b:AV} (h:VRels φ [a,b] ([x,y].map ρ)):VRel φ a (ρ x)/\VRel φ b (ρ y):=by
 obtain⟨c,d,e,r1,r2⟩:=VRels.two.1 h
 simp at e;obtain⟨rfl,rfl⟩:=e
 exact⟨r1,r2⟩
theorem rel1 {φ:Phi} {ρ:Operand->Value} {x:Operand} {a:AV} (h:VRels φ [a] ([x].map ρ)):VRel φ a (ρ x):=by
 obtain⟨c,e,r1⟩:=VRels.one.1 h
 simp at e;subst e
 exact r1
theorem rel3 {φ:Phi} {ρ:Operand->Value} {x y z:Operand} {a b c:AV} (h:VRels φ [a,b,c] ([x,y,z].map ρ)):VRel φ a (ρ x)/\VRel φ b (ρ y)/\VRel φ c (ρ z):=by
 obtain⟨c,d,f,e,r1,r2,r3⟩:=VRels.three.1 h
 simp at e;obtain⟨rfl,rfl,rfl⟩:=e
 exact⟨r1,r2,r3⟩
theorem mov_pure {x:Operand} (hx:execV .mov vs h n K=true) (ho:∀ (ρ:Operand->Value) (w:World),(∀ v,ρ (.const v)=v)->(execOp ρ o).run P w=.ok (.value (ρ x)) w):PureTo P o .mov [x] vs:=by
 obtain⟨a,rfl,_⟩:=un1_iff.1 (hx:un1 _ vs=true)
 exact⟨a,fun _ _ _=>rfl,fun φ ρ w hρ hr=>⟨_,ho ρ w hρ,rel1 hr⟩⟩
theorem pick_pure {c a b:Operand} (hop:o.op=.pick c a b) (hx:execV .pick vs h n K=true):PureTo P o .pick [c,a,b] vs:=by
 obtain⟨x,y,z,rfl,hx⟩:=un3_iff.1 (hx:un3 _ vs=true)
 obtain⟨t,rfl,hx⟩:=ifBool_iff.1 hx
 refine⟨if t then y else z,fun h n K=>?_,fun φ ρ w _ hr=>?_⟩
 ·cases t<;>rfl
 ·obtain⟨r1,r2,r3⟩:=rel3 hr
  rw [bool_rel] at r1
  refine⟨if t then ρ a else ρ b,?_,?_⟩
  ·simp [execOp,hop,r1,asBool]
  ·cases t<;>simpa using (by assumption)
theorem arith_pure {oc:OC} {x y:Operand} {f:IntKind->Int->Int->Option Int} (hoc:∀ h n K,execV oc vs h n K=ints (fun k a b=>optI (f k a b) fun z=>K.v (.int k z) h n) vs)
  (hx:execV oc vs h n K=true) (ho:∀ (ρ:Operand->Value) (w:World) k a b z,ρ x=.int k a->ρ y=.int k b->f k a b=some z->(execOp ρ o).run P w=.ok (.value (.int k z)) w):PureTo P o oc [x,y] vs:=by
 rw [hoc] at hx
 obtain⟨k,a,b,rfl,hx1⟩:=ints_iff.1 hx
 cases hf:f k a b with
 | none=>rw [hf] at hx1;exact Bool.noConfusion (hx1:false=true)
 | some z =>
  refine⟨.int k z,fun h n K=>?_,fun φ ρ w _ hr=>?_⟩
  ·rw [hoc,ints_eq,hf];exact forceI_eq z fun z=>K.v (.int k z) h n
  ·obtain⟨r1,r2⟩:=rel2 hr
   rw [int_rel] at r1 r2
   exact⟨_,ho ρ w k a b z r1 r2 hf,by simp [VRel]⟩
theorem eqGuard_run {op:BinOp} {t:TypeId} {x y:Operand} {a b:Value} (w:World) (h:op≠.eql) (h':op≠.neq):(eqGuard op t x y a b).run P w=.ok () w:=by
 cases op<;>first|contradiction|simp [eqGuard]
theorem binop_run {op:BinOp} {t u:TypeId} {x y:Operand} {ρ:Operand->Value} {w:World} {c:Value} (hop:o.op=.binOp op t x y u) (hg:(eqGuard op t x y (ρ x) (ρ y)).run P w=.ok () w)
  (hb:(binOp op t (ρ x) (ρ y)).run P w=.ok c w):(execOp ρ o).run P w=.ok (.value c) w:=by
 simp [execOp,hop,hg,hb]
theorem binInt_run {op:BinOp} {t:TypeId} {k:IntKind} {a b:Int} (h:op≠.shl) (h':op≠.shr) :
  binOp op t (.int k a) (.int k b)=match op with
   | .add|.sub|.mul=>Op.intArith op k a b
   | .quo|.rem=>Op.intDiv op k a b
   | .and|.or|.xor|.andNot=>Op.intBits op k a b
   | _=>Op.intCmp op a b:=by
 cases op<;>first|contradiction|simp [binOp]
theorem add_pure {t u:TypeId} {x y:Operand} (hop:o.op=.binOp .add t x y u) (hx:execV .add vs h n K=true):PureTo P o .add [x,y] vs :=
 arith_pure (f:=fun k a b=>some (k.wrap (a+b))) (fun _ _ _=>rfl) hx fun ρ w k a b z h1 h2 h3=>binop_run hop (eqGuard_run w (by simp) (by simp)) (by
  rw [h1,h2,binInt_run (by simp) (by simp)];simp at h3;simp [Op.intArith,h3])
theorem sub_pure {t u:TypeId} {x y:Operand} (hop:o.op=.binOp .sub t x y u) (hx:execV .sub vs h n K=true):PureTo P o .sub [x,y] vs :=
 arith_pure (f:=fun k a b=>some (k.wrap (a - b))) (fun _ _ _=>rfl) hx fun ρ w k a b z h1 h2 h3=>binop_run hop (eqGuard_run w (by simp) (by simp)) (by
  rw [h1,h2,binInt_run (by simp) (by simp)];simp at h3;simp [Op.intArith,h3])
theorem mul_pure {t u:TypeId} {x y:Operand} (hop:o.op=.binOp .mul t x y u) (hx:execV .mul vs h n K=true):PureTo P o .mul [x,y] vs :=
 arith_pure (f:=fun k a b=>some (k.wrap (a*b))) (fun _ _ _=>rfl) hx fun ρ w k a b z h1 h2 h3=>binop_run hop (eqGuard_run w (by simp) (by simp)) (by
  rw [h1,h2,binInt_run (by simp) (by simp)];simp at h3;simp [Op.intArith,h3])
theorem isZero_iff {x:Int}:isZero x=true ↔ x=0:=by
 cases x with
 | ofNat m=>cases m with
  | zero=>exact⟨fun _=>rfl,fun _=>rfl⟩
  | succ m =>
   simp only [isZero]
   constructor
   ·exact fun h=>Bool.noConfusion h
   ·intro h
    have:((m+1:Nat):Int)=0:=h
    omega
 | negSucc m=>simp [isZero]
theorem quo_pure {t u:TypeId} {x y:Operand} (hop:o.op=.binOp .quo t x y u) (hx:execV .quo vs h n K=true):PureTo P o .quo [x,y] vs :=
 arith_pure (f:=fun k a b=>if isZero b then none else some (k.wrap (a.tdiv b))) (fun h n K=>by
   show ints _ vs=_
   congr 1;funext k a b;cases isZero b<;>rfl) hx fun ρ w k a b z h1 h2 h3=>binop_run hop (eqGuard_run w (by simp) (by simp)) (by
  rw [h1,h2,binInt_run (by simp) (by simp)]
  by_cases hb:b=0
  ·simp [isZero_iff.2 hb] at h3
  ·have:isZero b=false:=by rw [Bool.eq_false_iff];exact fun e=>hb (isZero_iff.1 e)
   simp [this] at h3
   simp [Op.intDiv,hb,h3])
theorem rem_pure {t u:TypeId} {x y:Operand} (hop:o.op=.binOp .rem t x y u) (hx:execV .rem vs h n K=true):PureTo P o .rem [x,y] vs :=
 arith_pure (f:=fun k a b=>if isZero b then none else some (a.tmod b)) (fun h n K=>by
   show ints _ vs=_
   congr 1;funext k a b;cases isZero b<;>rfl) hx fun ρ w k a b z h1 h2 h3=>binop_run hop (eqGuard_run w (by simp) (by simp)) (by
  rw [h1,h2,binInt_run (by simp) (by simp)]
  by_cases hb:b=0
  ·simp [isZero_iff.2 hb] at h3
  ·have:isZero b=false:=by rw [Bool.eq_false_iff];exact fun e=>hb (isZero_iff.1 e)
   simp [this] at h3
   simp [Op.intDiv,hb,h3])
theorem bits_pure {t u:TypeId} {op:BinOp} {x y:Operand} (hop:o.op=.binOp op t x y u) (ho:op=.and\/op=.or\/op=.xor\/op=.andNot) (hx:execV (.bits op) vs h n K=true):PureTo P o (.bits op) [x,y] vs :=
 arith_pure (f:=fun k a b=>pureInt (Op.intBits op k a b) k) (fun _ _ _=>rfl) hx fun ρ w k a b z h1 h2 h3=>binop_run hop (eqGuard_run w (by rcases ho with rfl|rfl|rfl|rfl<;>simp) (by rcases ho with rfl|rfl|rfl|rfl<;>simp)) (by
  rw [h1,h2,binInt_run (by rcases ho with rfl|rfl|rfl|rfl<;>simp) (by rcases ho with rfl|rfl|rfl|rfl<;>simp)]
  rcases ho with rfl|rfl|rfl|rfl<;>simp [Op.intBits,pureInt,pure] at h3 ⊢<;>simp [h3])
theorem icmp_pure {t u:TypeId} {op:BinOp} {x y:Operand} (hop:o.op=.binOp op t x y u) (ho:op=.lss\/op=.leq\/op=.gtr\/op=.geq) (hx:execV (.icmp op) vs h n K=true):PureTo P o (.icmp op) [x,y] vs:=by
 obtain⟨k,a,b,rfl,hx1⟩:=ints_iff.1 (hx:ints _ vs=true)
 cases hf:pureBool (Op.intCmp op a b) with
 | none=>rw [hf] at hx1;exact Bool.noConfusion (hx1:false=true)
 | some z =>
  refine⟨.bool z,fun h n K=>?_,fun φ ρ w _ hr=>?_⟩
  ·show ints (fun k x y=>optB (pureBool (Op.intCmp op x y)) fun z=>K.v (.bool z) h n) [.int k a,.int k b]=_
   rw [ints_eq,hf];exact forceB_eq z fun z=>K.v (.bool z) h n
  ·obtain⟨r1,r2⟩:=rel2 hr
   rw [int_rel] at r1 r2
   refine⟨.bool z,binop_run hop (eqGuard_run w (by rcases ho with rfl|rfl|rfl|rfl<;>simp) (by rcases ho with rfl|rfl|rfl|rfl<;>simp)) ?_,by simp [VRel]⟩
   rw [r1,r2,binInt_run (by rcases ho with rfl|rfl|rfl|rfl<;>simp) (by rcases ho with rfl|rfl|rfl|rfl<;>simp)]
   rcases ho with rfl|rfl|rfl|rfl<;>simp [Op.intCmp,pureBool,pure] at hf ⊢<;>simp [hf]
theorem shift_pure {t u:TypeId} {op:BinOp} {x y:Operand} (hop:o.op=.binOp op t x y u) (ho:op=.shl\/op=.shr) (hx:execV (.shift op) vs h n K=true):PureTo P o (.shift op) [x,y] vs:=by
 obtain⟨a,b,rfl,hx1⟩:=un2_iff.1 (hx:un2 _ vs=true)
 obtain⟨k,a,rfl,hx2⟩:=ifInt_iff.1 hx1
 obtain⟨j,b,rfl,hx3⟩:=ifInt_iff.1 hx2
 obtain⟨m,rfl,hx4⟩:=natI_iff.1 hx3
 cases hf:pureInt (Op.shift op k a j m) k with
 | none=>rw [show (Int.ofNat m)=(m:Int) from rfl,hf] at hx4;exact Bool.noConfusion (hx4:false=true)
 | some z =>
  refine⟨.int k z,fun h n K=>?_,fun φ ρ w _ hr=>?_⟩
  ·show optI (pureInt (Op.shift op k a j (Int.ofNat m)) k) (fun z=>K.v (.int k z) h n)=_
   rw [show (Int.ofNat m)=(m:Int) from rfl,hf];exact forceI_eq z fun z=>K.v (.int k z) h n
  ·obtain⟨r1,r2⟩:=rel2 hr
   rw [int_rel] at r1 r2
   refine⟨.int k z,binop_run hop (eqGuard_run w (by rcases ho with rfl|rfl<;>simp) (by rcases ho with rfl|rfl<;>simp)) ?_,by simp [VRel]⟩
   rw [r1,r2]
   have e:binOp op t (.int k a) (.int j m)=Op.shift op k a j m:=by rcases ho with rfl|rfl<;>rfl
   rw [e]
   have hm:¬ ((m:Int) < 0):=by omega
   rcases ho with rfl|rfl<;>simp [Op.shift,pureInt,pure,hm] at hf ⊢<;>exact hf
theorem not_pure {t:TypeId} {x:Operand} (hop:o.op=.unOp .not t x) (hx:execV .not vs h n K=true):PureTo P o .not [x] vs:=by
 obtain⟨a,rfl,hx1⟩:=un1_iff.1 (hx:un1 _ vs=true)
 obtain⟨b,rfl,hx2⟩:=ifBool_iff.1 hx1
 refine⟨.bool !b,fun h n K=>forceB_eq (!b) fun b=>K.v (.bool b) h n,fun φ ρ w _ hr=>?_⟩
 have r:=rel1 hr
 rw [bool_rel] at r
 exact⟨.bool !b,by simp [execOp,hop,r,Op.unary],by simp [VRel]⟩
theorem neg_pure {t:TypeId} {x:Operand} (hop:o.op=.unOp .neg t x) (hx:execV .neg vs h n K=true):PureTo P o .neg [x] vs:=by
 obtain⟨a,rfl,hx1⟩:=un1_iff.1 (hx:un1 _ vs=true)
 obtain⟨k,z,rfl,hx2⟩:=ifInt_iff.1 hx1
 refine⟨.int k (k.wrap (0 - z)),fun h n K=>forceI_eq (k.wrap (0 - z)) fun z=>K.v (.int k z) h n,fun φ ρ w _ hr=>?_⟩
 have r:=rel1 hr
 rw [int_rel] at r
 exact⟨.int k (k.wrap (0 - z)),by simp [execOp,hop,r,Op.unary,Op.intArith],by simp [VRel]⟩
theorem inv_pure {t:TypeId} {x:Operand} (hop:o.op=.unOp .xor t x) (hx:execV .inv vs h n K=true):PureTo P o .inv [x] vs:=by
 obtain⟨a,rfl,hx1⟩:=un1_iff.1 (hx:un1 _ vs=true)
 obtain⟨k,z,rfl,hx2⟩:=ifInt_iff.1 hx1
 cases hf:pureInt (Op.intBits .xor k (if k.signed then -1 else k.max) z) k with
 | none=>rw [hf] at hx2;exact Bool.noConfusion (hx2:false=true)
 | some y =>
  refine⟨.int k y,fun h n K=>?_,fun φ ρ w _ hr=>?_⟩
  ·show optI (pureInt (Op.intBits .xor k (if k.signed then -1 else k.max) z) k) (fun z=>K.v (.int k z) h n)=_
   rw [hf];exact forceI_eq y fun z=>K.v (.int k z) h n
  ·have r:=rel1 hr
   rw [int_rel] at r
   refine⟨.int k y,?_,by simp [VRel]⟩
   simp [Op.intBits,pureInt,pure] at hf
   simp [execOp,hop,r,Op.unary,Op.intBits,hf]
theorem convInt_pure {s t:TypeId} {j k:IntKind} {x:Operand} (hop:o.op=.convert s t x) (hs:P.underlying s=some (.int j)) (ht:P.underlying t=some (.int k)) (hx:execV (.convInt k) vs h n K=true):PureTo P o (.convInt k) [x] vs:=by
 obtain⟨a,rfl,hx1⟩:=un1_iff.1 (hx:un1 _ vs=true)
 obtain⟨j',z,rfl,hx2⟩:=ifInt_iff.1 hx1
 refine⟨.int k (k.wrap z),fun h n K=>forceI_eq (k.wrap z) fun z=>K.v (.int k z) h n,fun φ ρ w _ hr=>?_⟩
 have r:=rel1 hr
 rw [int_rel] at r
 exact⟨.int k (k.wrap z),by simp [execOp,hop,r,convert,underlying,hs,ht,Conv.intToInt],by simp [VRel]⟩
theorem mkIfc_pure {t:TypeId} {d:TypeDesc} {x:Operand} (hop:o.op=.makeInterface t x) (ht:P.underlying t=some d) (hd:∀ ms,d≠.interface ms) (hx:execV (.mkIfc t) vs h n K=true):PureTo P o (.mkIfc t) [x] vs:=by
 obtain⟨a,rfl,hx1⟩:=un1_iff.1 (hx:un1 _ vs=true)
 refine⟨.ifc t a,fun h n K=>rfl,fun φ ρ w _ hr=>⟨.iface t (ρ x),?_,by simp only [VRel];exact⟨_,rfl,rel1 hr⟩⟩⟩
 cases d<;>first |(simp [execOp,hop,Instr.makeInterface,underlying,ht];done)|exact absurd rfl (hd _)
theorem nilchk_pure {x:Operand} (hop:o.op=.nilCheck x) (hx:execV .nilchk vs h n K=true):PureTo P o .nilchk [x] vs:=by
 obtain⟨a,rfl,hx1⟩:=un1_iff.1 (hx:un1 _ vs=true)
 refine⟨a,fun h n K=>?_,fun φ ρ w _ hr=>⟨ρ x,?_,rel1 hr⟩⟩
 ·cases a<;>first|rfl|exact Bool.noConfusion (hx1:false=true)
 ·have r:=rel1 hr
  cases a<;>simp only [VRel] at r<;>first|exact Bool.noConfusion (hx1:false=true)|skip
  all_goals (first |(simp [execOp,hop,r];done)|skip)
  case ptr=>obtain⟨_,_,r⟩:=r;simp [execOp,hop,r]
  case slc=>obtain⟨_,_,r,_⟩:=r;simp [execOp,hop,r]
  case gsl=>rcases r with ⟨_,_,_,r,_⟩ |⟨_,_,_,_,r⟩<;>simp [execOp,hop,r]
  case map=>obtain⟨_,_,r⟩:=r;simp [execOp,hop,r]
  case fn=>obtain⟨_,_,r,_⟩:=r;simp [execOp,hop,r]
  case yld=>obtain⟨_,_,r⟩:=r;simp [execOp,hop,r]
  case ifc=>obtain⟨_,r,_⟩:=r;simp [execOp,hop,r]
  case agg=>obtain⟨_,r,_⟩:=r;simp [execOp,hop,r]
  case tup=>obtain⟨_,r,_⟩:=r;simp [execOp,hop,r]
theorem addr_add (b q m:Nat):Addr.add ⟨b,q,none⟩ m=⟨b,q+m,none⟩:=by
 unfold Addr.add;split
 ·simp_all
 ·rfl
theorem fieldA_pure {t:TypeId} {i:Nat} {fs:Array Field} {f:Field} {s:Nat} {x:Operand} (hop:o.op=.fieldAddr t x i) (ht:P.underlying t=some (.struct fs)) (hf:fs[i]?=some f) (hs:TI.size P f.type=some s) (h0:s≠0)
  (hx:execV (.fieldA f.offset) vs h n K=true):PureTo P o (.fieldA f.offset) [x] vs:=by
 obtain⟨a,rfl,hx1⟩:=un1_iff.1 (hx:un1 _ vs=true)
 obtain⟨a,b,rfl,hx2⟩:=ifPtr_iff.1 hx1
 refine⟨.ptr a (b+f.offset),fun h n K=>force_eq (b+f.offset) fun o=>K.v (.ptr a o) h n,fun φ ρ w _ hr=>?_⟩
 have r:=rel1 hr
 simp only [VRel] at r
 obtain⟨p,hp,r⟩:=r
 refine⟨.pointer (some ⟨p.blk,p.off+(b+f.offset),none⟩),?_,by simp only [VRel];exact⟨p,hp,rfl⟩⟩
 obtain⟨i',hi,hs'⟩:∃ i',P.info? f.type=some i'/\i'.size=s:=by simpa [TI.size] using hs
 have h0':i'.size≠0:=by omega
 simp [execOp,hop,Instr.fieldAt,underlying,ht,hf,r,Instr.sureAddr,fieldPlace,sizeOf,typeInfo,hi,h0',addr_add]
 omega
def PartIs (off s:Nat) (g:Bool) (vs:List AV) (v:AV):Prop :=
 (g=true/\v=.agg ((vs.drop off).take s)/\s<=vs.length - off)\/(g=false/\vs[off]?=some v)
theorem partK_val {off s:Nat} {g:Bool} {vs:List AV} {k:AV->Bool} (hk:partK off s g vs k=true):∃ v,(∀ k,partK off s g vs k=k v)/\PartIs off s g vs v:=by
 unfold partK at hk
 rw [dropK_eq,takeK_iff] at hk
 obtain⟨hl,hk⟩:=hk
 simp at hl
 have htk:∀ k:List AV->Bool,takeK s (vs.drop off) k=k ((vs.drop off).take s):=fun k=>by
  rw [Bool.eq_iff_iff,takeK_iff];simp [hl]
 cases g with
 | true=>exact⟨.agg ((vs.drop off).take s),fun k=>by simp [partK,dropK_eq,htk],.inl ⟨rfl,rfl,hl⟩⟩
 | false =>
  obtain⟨v,hv,hk⟩:=one_iff.1 hk
  refine⟨v,fun k=>by simp [partK,dropK_eq,htk,hv];rfl,.inr ⟨rfl,?_⟩⟩
  have:((vs.drop off).take s)[0]?=some v:=by rw [hv];rfl
  rw [List.getElem?_take] at this
  split at this
  ·simpa using this
  ·simp at this
theorem part_run {t:TypeId} {s:Nat} {g:Bool} {cs:Array Value} {off:Nat} {φ:Phi} {vs:List AV} {v:AV} (w:World) (hs:TI.size P t=some s) (hg:TI.isAgg P t=some g) (hr:VRels φ vs cs.toList) (ha:vs.all AV.scalar=true)
  (hv:PartIs off s g vs v):∃ c,(part t cs off).run P w=.ok c w/\VRel φ v c:=by
 obtain⟨i',hi,hs'⟩:∃ i',P.info? t=some i'/\i'.size=s:=by simpa [TI.size] using hs
 simp only [TI.isAgg,Option.map_eq_some_iff] at hg
 obtain⟨d,hd,hg⟩:=hg
 rcases hv with ⟨rfl,rfl,hl⟩ |⟨rfl,hv⟩
 ·refine⟨.agg (cs.extract off (off+s)),?_,?_⟩
  ·have:(isAgg t).run P w=.ok true w:=by
    cases d<;>simp at hg<;>simp [isAgg,underlying,hd]
   simp [part,this,sizeOf,typeInfo,hi,hs']
  ·simp only [VRel]
   refine⟨_,rfl,?_,?_⟩
   ·have:=(hr.drop off).take s
    rw [Array.toList_extract]
    simpa [List.extract_eq_take_drop] using this
   ·rw [List.all_eq_true] at ha ⊢
    exact fun x hx=>ha x (List.mem_of_mem_drop (List.mem_of_mem_take hx))
 ·obtain⟨c,hc,hvc⟩:=hr.get hv
  refine⟨c,?_,hvc⟩
  have:(isAgg t).run P w=.ok false w:=by
   cases d<;>simp at hg<;>simp [isAgg,underlying,hd]
  have hc':cs[off]?=some c:=by simpa using hc
  simp [part,this,hc']
theorem field_pure {t:TypeId} {i:Nat} {fs:Array Field} {f:Field} {s:Nat} {g:Bool} {x:Operand} (hop:o.op=.field t x i) (ht:P.underlying t=some (.struct fs)) (hf:fs[i]?=some f) (hs:TI.size P f.type=some s) (hg:TI.isAgg P f.type=some g)
  (hx:execV (.field f.offset s g) vs h n K=true):PureTo P o (.field f.offset s g) [x] vs:=by
 obtain⟨a,rfl,hx1⟩:=un1_iff.1 (hx:un1 _ vs=true)
 obtain⟨cs,rfl,hx2⟩:=ifAgg_iff.1 hx1
 obtain⟨v,hv,hp⟩:=partK_val hx2
 refine⟨v,fun h n K=>hv _,fun φ ρ w _ hr=>?_⟩
 have r:=rel1 hr
 simp only [VRel] at r
 obtain⟨y,r,r1,r2⟩:=r
 obtain⟨c,hc,hvc⟩:=part_run (P:=P) w hs hg r1 r2 hp
 exact⟨c,by simp [execOp,hop,Instr.field,underlying,ht,hf,r,asAgg,hc],hvc⟩
theorem idxArrA_pure {t e:TypeId} {m s:Nat} {x i:Operand} (hop:o.op=.indexAddr t x i) (ht:P.underlying t=some (.array m e)) (hs:TI.size P e=some s)
  (hx:execV (.idxArrA m s) vs h n K=true):PureTo P o (.idxArrA m s) [x,i] vs:=by
 obtain⟨a,b,rfl,hx1⟩:=un2_iff.1 (hx:un2 _ vs=true)
 obtain⟨a,q,rfl,hx2⟩:=ifPtr_iff.1 hx1
 obtain⟨kd,j,rfl,hx3⟩:=ifNat_iff.1 hx2
 obtain⟨hj,hx4⟩:=guardB_iff.1 hx3
 have hj':j < m:=by simpa [Nat.blt,Nat.lt_iff_add_one_le] using hj
 refine⟨.ptr a (q+j*s),fun h n K=>?_,fun φ ρ w _ hr=>?_⟩
 ·show guardB (Nat.blt j m) (force (q+j*s) fun o=>K.v (.ptr a o) h n)=_
  rw [hj];exact force_eq (q+j*s) fun o=>K.v (.ptr a o) h n
 ·obtain⟨r1,r2⟩:=rel2 hr
  simp only [VRel] at r1 r2
  obtain⟨p,hp,r1⟩:=r1
  obtain⟨i',hi,hs'⟩:∃ i',P.info? e=some i'/\i'.size=s:=by simpa [TI.size] using hs
  refine⟨.pointer (some ⟨p.blk,p.off+(q+j*s),none⟩),?_,by simp only [VRel];exact⟨p,hp,rfl⟩⟩
  simp [execOp,hop,Instr.indexAt,asIntOf,r1,r2,underlying,ht,Instr.sureAddr,hj',sizeOf,typeInfo,hi,hs',addr_add]
  omega
theorem idxSlA_pure {t e:TypeId} {s:Nat} {x i:Operand} (hop:o.op=.indexAddr t x i) (ht:P.underlying t=some (.slice e)) (hs:TI.size P e=some s)
  (hx:execV (.idxSlA s) vs h n K=true):PureTo P o (.idxSlA s) [x,i] vs:=by
 obtain⟨x0,b,rfl,hx1⟩:=un2_iff.1 (hx:un2 _ vs=true)
 have key:∃ a q l j kd,b=.int kd (j:Nat)/\j < l/\((∃ c,x0=.slc a q l c)\/(∃ c,x0=.gsl a q l c)):=by
  rcases ifSl_iff.1 hx1 with ⟨rfl,hf⟩ |⟨a,q,l,c,rfl,hx2⟩ |⟨a,q,l,c,rfl,hx2⟩
  ·exact Bool.noConfusion hf
  ·obtain⟨kd,j,rfl,hx3⟩:=ifNat_iff.1 hx2
   obtain⟨hj,hx4⟩:=guardB_iff.1 hx3
   exact⟨a,q,l,j,kd,rfl,by simpa [Nat.blt,Nat.lt_iff_add_one_le] using hj,.inl ⟨c,rfl⟩⟩
  ·obtain⟨kd,j,rfl,hx3⟩:=ifNat_iff.1 hx2
   obtain⟨hj,hx4⟩:=guardB_iff.1 hx3
   exact⟨a,q,l,j,kd,rfl,by simpa [Nat.blt,Nat.lt_iff_add_one_le] using hj,.inr ⟨c,rfl⟩⟩
 obtain⟨a,q,l,j,kd,rfl,hj,hsl⟩:=key
 have hj':Nat.blt j l=true:=by simpa [Nat.blt,Nat.lt_iff_add_one_le] using hj
 refine⟨.ptr a (q+j*s),fun h n K=>?_,fun φ ρ w _ hr=>?_⟩
 ·rcases hsl with ⟨c,rfl⟩ |⟨c,rfl⟩ <;>
   (show guardB (Nat.blt j l) (force (q+j*s) fun o=>K.v (.ptr a o) h n)=_
    rw [hj'];exact force_eq (q+j*s) fun o=>K.v (.ptr a o) h n)
 ·obtain⟨r1,r2⟩:=rel2 hr
  have r1':∃ p c,φ a=some p/\ρ x=.slice (some ⟨p.blk,p.off+q,none⟩) l c:=by
   rcases hsl with ⟨c,rfl⟩ |⟨c,rfl⟩<;>simp only [VRel] at r1
   ·obtain⟨p,hp,r,_⟩:=r1;exact⟨p,_,hp,r⟩
   ·rcases r1 with ⟨p,c',hp,r,_⟩ |⟨_,rfl,_⟩
    ·exact⟨p,_,hp,r⟩
    ·omega
  obtain⟨p,c,hp,r1⟩:=r1'
  simp only [VRel] at r2
  obtain⟨i',hi,hs'⟩:∃ i',P.info? e=some i'/\i'.size=s:=by simpa [TI.size] using hs
  refine⟨.pointer (some ⟨p.blk,p.off+(q+j*s),none⟩),?_,by simp only [VRel];exact⟨p,hp,rfl⟩⟩
  simp [execOp,hop,Instr.indexAt,asIntOf,r1,r2,underlying,ht,hj,sizeOf,typeInfo,hi,hs',addr_add]
  omega
theorem idxArr_pure {t e:TypeId} {m s:Nat} {g:Bool} {x i:Operand} (hop:o.op=.index t x i) (ht:P.underlying t=some (.array m e)) (hs:TI.size P e=some s) (hg:TI.isAgg P e=some g)
  (hx:execV (.idxArr m s g) vs h n K=true):PureTo P o (.idxArr m s g) [x,i] vs:=by
 obtain⟨a,b,rfl,hx1⟩:=un2_iff.1 (hx:un2 _ vs=true)
 obtain⟨cs,rfl,hx2⟩:=ifAgg_iff.1 hx1
 obtain⟨kd,j,rfl,hx3⟩:=ifNat_iff.1 hx2
 obtain⟨hj,hx4⟩:=guardB_iff.1 hx3
 have hj':j < m:=by simpa [Nat.blt,Nat.lt_iff_add_one_le] using hj
 obtain⟨v,hv,hp⟩:=partK_val hx4
 refine⟨v,fun h n K=>?_,fun φ ρ w _ hr=>?_⟩
 ·show guardB (Nat.blt j m) (partK (Nat.mul j s) s g cs fun v=>K.v v h n)=_
  rw [hj];exact hv _
 ·obtain⟨r1,r2⟩:=rel2 hr
  simp only [VRel] at r1 r2
  obtain⟨y,r1,r3,r4⟩:=r1
  obtain⟨i',hi,hs'⟩:∃ i',P.info? e=some i'/\i'.size=s:=by simpa [TI.size] using hs
  obtain⟨c,hc,hvc⟩:=part_run (P:=P) w hs hg r3 r4 hp
  have hc':(part e y (j*s)).run P w=.ok c w:=hc
  exact⟨c,by simp [execOp,hop,Instr.index,asIntOf,r1,r2,underlying,ht,hj',sizeOf,typeInfo,hi,hs',hc'],hvc⟩
theorem assert_pure {t s:TypeId} {d:TypeDesc} {z:AV} {x:Operand} (hop:o.op=.typeAssert x s t true) (ht:P.underlying t=some d) (hd:∀ ms,d≠.interface ms) (hz:TI.zero P t=some z) (hx:execV (.assert t z) vs h n K=true):PureTo P o (.assert t z) [x] vs:=by
 obtain⟨zc,hzc,hzr⟩:∃ zc,(∀ w,(zeroValue t).run P w=.ok zc w)/\∀ φ,VRel φ z zc:=by
  obtain⟨i,h1,h2⟩:=Option.bind_eq_some_iff.1 hz
  obtain⟨zc,h3,h4⟩:=Option.bind_eq_some_iff.1 h2
  exact⟨zc,fun w=>by simp [zeroValue,typeInfo,h1,h3],fun φ=>ofValue_rel _ _ h4⟩
 have hno:∀ φ,VRel φ (.tup [z,.bool false]) (.tuple #[zc,.bool false]):=fun φ=>by
  simp only [VRel]
  exact⟨_,rfl,VRels.cons (hzr φ) (VRels.cons (by simp [VRel]) (by simp [VRels]))⟩
 obtain⟨v,rfl,hx1⟩:=un1_iff.1 (hx:un1 _ vs=true)
 cases v<;>try exact Bool.noConfusion (hx1:false=true)
 case nili =>
  refine⟨.tup [z,.bool false],fun h n K=>rfl,fun φ ρ w _ hr=>⟨.tuple #[zc,.bool false],?_,hno φ⟩⟩
  have r:=rel1 hr
  simp only [VRel] at r
  cases d<;>first |(simp [execOp,hop,Instr.typeAssert,underlying,ht,r,hzc];done)|exact absurd rfl (hd _)
 case ifc t' y =>
  by_cases e:t'=t
  ·subst e
   refine⟨.tup [y,.bool true],fun h n K=>?_,fun φ ρ w _ hr=>?_⟩
   ·show Bool.rec (motive:=fun _=>Bool) (K.v (.tup [z,.bool false]) h n) (K.v (.tup [y,.bool true]) h n) (Nat.beq t' t')=_
    rw [Nat.beq_refl]
   ·have r:=rel1 hr
    simp only [VRel] at r
    obtain⟨c,r,rc⟩:=r
    refine⟨.tuple #[c,.bool true],?_,?_⟩
    ·cases d<;>first |(simp [execOp,hop,Instr.typeAssert,underlying,ht,r];done)|exact absurd rfl (hd _)
    ·simp only [VRel]
     exact⟨_,rfl,VRels.cons rc (VRels.cons (by simp [VRel]) (by simp [VRels]))⟩
  ·have hb:Nat.beq t' t=false:=by
    cases hb:Nat.beq t' t with
    | false=>rfl
    | true=>exact absurd (Nat.eq_of_beq_eq_true hb) e
   refine⟨.tup [z,.bool false],fun h n K=>?_,fun φ ρ w _ hr=>⟨.tuple #[zc,.bool false],?_,hno φ⟩⟩
   ·show Bool.rec (motive:=fun _=>Bool) (K.v (.tup [z,.bool false]) h n) (K.v (.tup [y,.bool true]) h n) (Nat.beq t' t)=_
    rw [hb]
   ·have r:=rel1 hr
    simp only [VRel] at r
    obtain⟨c,r,rc⟩:=r
    cases d<;>first |(simp [execOp,hop,Instr.typeAssert,underlying,ht,r,e,hzc];done)|exact absurd rfl (hd _)
theorem extract_pure {i:Nat} {x:Operand} (hop:o.op=.extract x i) (hx:execV (.extract i) vs h n K=true):PureTo P o (.extract i) [x] vs:=by
 obtain⟨a,rfl,hx1⟩:=un1_iff.1 (hx:un1 _ vs=true)
 obtain⟨l,rfl,hx2⟩:=ifTup_iff.1 hx1
 obtain⟨v,hv,hx3⟩:=(nthK_iff _ _ _).1 hx2
 refine⟨v,fun h n K=>?_,fun φ ρ w _ hr=>?_⟩
 ·show nthK i l (fun v=>K.v v h n)=_
  rw [Bool.eq_iff_iff,nthK_iff];simp [hv]
 ·have r:=rel1 hr
  simp only [VRel] at r
  obtain⟨y,r,r1⟩:=r
  obtain⟨c,hc,hvc⟩:=r1.get hv
  have hc':y[i]?=some c:=by simpa using hc
  exact⟨c,by simp [execOp,hop,Instr.extract,r,hc'],hvc⟩
theorem mkFn_pure {f:FuncId} {a b:Array Operand} (hop:o.op=.makeFunc (.func f) a b) (hx:execV (.mkFn f a.size) vs h n K=true):PureTo P o (.mkFn f a.size) (a.toList++b.toList) vs:=by
 obtain⟨hl,hx1⟩:=(takeK_iff _ _ _).1 (hx:takeK a.size vs _=true)
 refine⟨.fn f (vs.take a.size) (vs.drop a.size),fun h n K=>?_,fun φ ρ w _ hr=>?_⟩
 ·show takeK a.size vs (fun a'=>dropK a.size vs fun b=>K.v (.fn f a' b) h n)=_
  rw [Bool.eq_iff_iff,takeK_iff,dropK_eq];simp [hl]
 ·refine⟨.func (.func f) (a.map ρ) (b.map ρ),by simp [execOp,hop,Instr.makeFunc],?_⟩
  simp only [VRel]
  refine⟨_,_,rfl,?_,?_⟩
  ·have:=hr.take a.size
   simpa using this
  ·have:=hr.drop a.size
   simpa using this
theorem cap_pure {c:Call} {t e:TypeId} {x:Operand} (hop:o.op=.call c) (hc:c.callee=.builtin .cap) (ha:c.args.toList=[x]) (hat:c.argTypes.toList=[t]) (ht:P.underlying t=some (.slice e))
  (hx:execV .cap vs h n K=true):PureTo P o .cap [x] vs:=by
 obtain⟨a,rfl,hx1⟩:=un1_iff.1 (hx:un1 _ vs=true)
 have ha':c.args=#[x]:=by rw [<- Array.toArray_toList (xs:=c.args),ha]
 have hat':c.argTypes=#[t]:=by rw [<- Array.toArray_toList (xs:=c.argTypes),hat]
 have run:∀ (ρ:Operand->Value) (w:World) a l m,ρ x=.slice a l m->(execOp ρ o).run P w=.ok (.value (.int .i64 m)) w:=fun ρ w a l m e=>by
  simp [execOp,hop,resolve,hc,ha',hat',invoke,builtin,Builtin.cap_,underlying,ht,e,goInt]
 rcases ifSl_iff.1 hx1 with ⟨rfl,hf⟩ |⟨a,q,l,m,rfl,hx2⟩ |⟨a,q,l,m,rfl,hx2⟩
 ·refine⟨.int .i64 0,fun h n K=>rfl,fun φ ρ w _ hr=>⟨.int .i64 0,?_,by simp [VRel]⟩⟩
  have r:=rel1 hr
  simp only [VRel] at r
  exact run ρ w _ _ 0 r
 ·refine⟨.int .i64 m,fun h n K=>rfl,fun φ ρ w _ hr=>⟨.int .i64 m,?_,by simp [VRel]⟩⟩
  have r:=rel1 hr
  simp only [VRel] at r
  obtain⟨p,_,r,_⟩:=r
  exact run ρ w _ _ m r
 ·exact Bool.noConfusion hx2
theorem usld_pure {c:Call} {x:Operand} (hop:o.op=.call c) (hc:c.callee=.builtin .unsafeSliceData) (ha:c.args.toList=[x]) (hx:execV .usld vs h n K=true):PureTo P o .usld [x] vs:=by
 obtain⟨a,rfl,hx1⟩:=un1_iff.1 (hx:un1 _ vs=true)
 have ha':c.args=#[x]:=by rw [<- Array.toArray_toList (xs:=c.args),ha]
 have run:∀ (ρ:Operand->Value) (w:World) a l m,ρ x=.slice (some a) l m->m≠0->(execOp ρ o).run P w=.ok (.value (.pointer (some a))) w:=fun ρ w a l m e hm=>by
  simp [execOp,hop,resolve,hc,ha',invoke,builtin,e,Lib.run_unsafeSliceData_row _ _ _ _ _ _ hm]
 rcases ifSl_iff.1 hx1 with ⟨rfl,hf⟩ |⟨a,q,l,m,rfl,hx2⟩ |⟨a,q,l,m,rfl,hx2⟩
 ·refine⟨.nilp,fun h n K=>rfl,fun φ ρ w _ hr=>⟨.pointer none,?_,by simp [VRel]⟩⟩
  have r:=rel1 hr
  simp only [VRel] at r
  simp [execOp,hop,resolve,hc,ha',invoke,builtin,r,Lib.run_unsafeSliceData_nil]
 ·obtain⟨hm,hx3⟩:=guardB_iff.1 hx2
  have hm':0 < m:=by simpa [Nat.blt,Nat.lt_iff_add_one_le] using hm
  refine⟨.ptr a q,fun h n K=>?_,fun φ ρ w _ hr=>?_⟩
  ·show guardB (Nat.blt 0 m) (K.v (.ptr a q) h n)=_
   rw [hm];rfl
  ·have r:=rel1 hr
   simp only [VRel] at r
   obtain⟨p,hp,r,_⟩:=r
   exact⟨_,run ρ w _ _ m r (by omega),by simp only [VRel];exact⟨p,hp,rfl⟩⟩
 ·obtain⟨hm,hx3⟩:=guardB_iff.1 hx2
  have hm':0 < l:=by simpa [Nat.blt,Nat.lt_iff_add_one_le] using hm
  refine⟨.ptr a q,fun h n K=>?_,fun φ ρ w _ hr=>?_⟩
  ·show guardB (Nat.blt 0 l) (K.v (.ptr a q) h n)=_
   rw [hm];rfl
  ·have r:=rel1 hr
   simp only [VRel] at r
   obtain⟨p,c',hp,r,_,hl⟩ |⟨_,hbad,_⟩:=r
   rotate_left
   ·omega
   exact⟨_,run ρ w _ _ c' r (by omega),by simp only [VRel];exact⟨p,hp,rfl⟩⟩
theorem minmax_pure {oc:OC} {c:Call} {x y:Operand} {f:Int->Int->Int} (hop:o.op=.call c) (ha:c.args.toList=[x,y]) (hoc:∀ h n K,execV oc vs h n K=ints (fun k a b=>forceI (f a b) fun z=>K.v (.int k z) h n) vs)
  (hc:(c.callee=.builtin .min/\f=fun a b=>if b < a then b else a)\/(c.callee=.builtin .max/\f=fun a b=>if b > a then b else a)) (hx:execV oc vs h n K=true):PureTo P o oc [x,y] vs:=by
 have ha':c.args=#[x,y]:=by rw [<- Array.toArray_toList (xs:=c.args),ha]
 refine arith_pure (f:=fun k a b=>some (f a b)) hoc hx fun ρ w k a b z h1 h2 h3=>?_
 simp at h3
 rcases hc with ⟨hc,rfl⟩ |⟨hc,rfl⟩
 ·simp [execOp,hop,resolve,hc,ha',invoke,builtin,Builtin.min_,Builtin.min2,h1,h2,h3]
 ·simp [execOp,hop,resolve,hc,ha',invoke,builtin,Builtin.max_,Builtin.max2,h1,h2,h3]
theorem lenStr_pure {c:Call} {x:Operand} {t:TypeId} (hop:o.op=.call c) (hc:c.callee=.builtin .len) (ha:c.args.toList=[x]) (hat:c.argTypes.toList=[t]) (ht:P.underlying t=some .string)
  (hsz:∀ l c,(⟨(bytesOf l c).toArray⟩:ByteArray).size=l) (hx:execV .lenStr vs h n K=true):PureTo P o .lenStr [x] vs:=by
 obtain⟨a,rfl,hx1⟩:=un1_iff.1 (hx:un1 _ vs=true)
 obtain⟨l,cd,rfl,hx2⟩:=ifStr_iff.1 hx1
 have ha':c.args=#[x]:=by rw [<- Array.toArray_toList (xs:=c.args),ha]
 have hat':c.argTypes=#[t]:=by rw [<- Array.toArray_toList (xs:=c.argTypes),hat]
 refine⟨.int .i64 l,fun h n K=>rfl,fun φ ρ w _ hr=>⟨.int .i64 l,?_,by simp [VRel]⟩⟩
 have r:=rel1 hr
 simp only [VRel] at r
 obtain⟨_,r⟩:=r
 simp [execOp,hop,resolve,hc,ha',hat',invoke,builtin,Builtin.len_,underlying,ht,r,goInt,hsz]
theorem lenSl_pure {c:Call} {x:Operand} {t e:TypeId} (hop:o.op=.call c) (hc:c.callee=.builtin .len) (ha:c.args.toList=[x]) (hat:c.argTypes.toList=[t]) (ht:P.underlying t=some (.slice e)) (hx:execV .lenSl vs h n K=true):PureTo P o .lenSl [x] vs:=by
 obtain⟨a,rfl,hx1⟩:=un1_iff.1 (hx:un1 _ vs=true)
 have ha':c.args=#[x]:=by rw [<- Array.toArray_toList (xs:=c.args),ha]
 have hat':c.argTypes=#[t]:=by rw [<- Array.toArray_toList (xs:=c.argTypes),hat]
 have run:∀ (ρ:Operand->Value) (w:World) a l m,ρ x=.slice a l m->(execOp ρ o).run P w=.ok (.value (.int .i64 l)) w:=fun ρ w a l m e=>by
  simp [execOp,hop,resolve,hc,ha',hat',invoke,builtin,Builtin.len_,underlying,ht,e,goInt]
 rcases ifSl_iff.1 hx1 with ⟨rfl,hf⟩ |⟨a,q,l,m,rfl,hx2⟩ |⟨a,q,l,m,rfl,hx2⟩
 ·refine⟨.int .i64 0,fun h n K=>rfl,fun φ ρ w _ hr=>⟨.int .i64 0,?_,by simp [VRel]⟩⟩
  have r:=rel1 hr
  simp only [VRel] at r
  exact run ρ w _ 0 _ r
 ·refine⟨.int .i64 l,fun h n K=>rfl,fun φ ρ w _ hr=>⟨.int .i64 l,?_,by simp [VRel]⟩⟩
  have r:=rel1 hr
  simp only [VRel] at r
  obtain⟨p,_,r,_⟩:=r
  exact run ρ w _ l _ r
 ·refine⟨.int .i64 l,fun h n K=>rfl,fun φ ρ w _ hr=>⟨.int .i64 l,?_,by simp [VRel]⟩⟩
  have r:=rel1 hr
  simp only [VRel] at r
  rcases r with ⟨p,_,_,r,_⟩ |⟨_,rfl,_,_,r⟩
  ·exact run ρ w _ l _ r
  ·exact run ρ w _ 0 _ r
end
end Go.Ev
