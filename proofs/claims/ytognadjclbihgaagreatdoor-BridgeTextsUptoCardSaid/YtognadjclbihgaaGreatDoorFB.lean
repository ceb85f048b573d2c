/- Contracts: quiltref04.parts, Split, IsText; quiltref12.content, file, home. -/
import Derived.Test.YtognadjclbihgaaGreatDoorE6
import Derived.Test.YtognadjclbihgaaGreatDoorFA
set_option linter.all false
namespace Go.Ev
set_option maxRecDepth 100000
set_option maxHeartbeats 4000000
abbrev strC (bs:List UInt8):List AV:=[strOf bs]
def partsGo (cur:List UInt8):List UInt8->List (List UInt8)
 | []=>[]
 | c::r=>if c=10 then cur::partsGo [] r else partsGo (cur++[c]) r
def partsOf (bs:List UInt8):List (List UInt8):=partsGo [] bs
theorem partsGo_length (bs:List UInt8):∀ cur,(partsGo cur bs).length<=bs.length:=by
 induction bs with
 | nil=>intro cur;simp [partsGo]
 | cons c r ih =>
  intro cur
  simp only [partsGo]
  split
  ·have:=ih [];simp;omega
  ·have:=ih (cur++[c]);simp;omega
def textOk (bs:List UInt8):Bool:=decide (bs.length<=65536)&&((bs.all fun c=>c != 0)&&((bs == []||bs.getLast? == some 10)&&(decide ((partsOf bs).length<=2000)&&(partsOf bs).all fun p=>decide (p.length<=1000))))
def contentE (kind:Int) (data:List UInt8):Int:=if 65536 < data.length then 4 else if kind=1/\textOk data=false then 3 else 0
def fileE (f:PF):Int:=if pathOk f.path=false then 5 else if f.type < 1\/4 < f.type then 8 else if f.mode < 0\/511 < f.mode then 2 else if f.type=4/\(f.mode≠0\/f.data≠[]) then 1 else contentE f.type f.data
def homeE (fs:List PF) (path:List UInt8):Int:=if parentOf path=[] then 0 else match findF fs (parentOf path) with
 | none=>7
 | some f=>if f.type=4 then 0 else 8
set_option maxRecDepth 100000
set_option maxHeartbeats 4000000
def ordBad (fs:List PF) (p:List UInt8):Nat->Bool
 | 0=>false
 | j+1=>match fs[j]? with|some y=>!lessB y.path p|none=>false
def treeAt (fs:List PF) (i:Nat):Int:=match fs[i]? with
 | none=>0
 | some x=>if fileE x≠0 then fileE x else if ordBad fs x.path i=true then 9 else if homeE (fs.take i) x.path≠0 then 7 else 0
def firstE (e:Nat->Int):Nat->Nat->Int
 | 0,_=>0
 | k+1,i=>if e i≠0 then e i else firstE e k (i+1)
def treeE (fs:List PF):Int:=if 200 < fs.length then 4 else firstE (treeAt fs) fs.length 0
abbrev Small (n:Nat):Prop:=n<=4000000000000000000
def PFs (fs:List PF):Prop:=∀ f ∈ fs,Small f.path.length/\Small f.data.length
end Go.Ev
