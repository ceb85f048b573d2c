/- Contracts: quiltref59.has, quiltref12.GreatTree. -/
import Derived.Test.YtognadjclbihgaaGreatDoorE6
import Derived.Test.YtognadjclbihgaaGreatDoorKCodeA
set_option linter.all false
namespace Go.Ev
set_option maxRecDepth 100000
set_option maxHeartbeats 4000000
abbrev intC (i:Int):List AV:=[.int .i64 i]
structure PF where
 path:List UInt8
 type:Int
 mode:Int
 data:List UInt8
abbrev pfC (f:PF):List AV:=[strOf f.path,.int .i64 f.type,.int .i64 f.mode,strOf f.data]
def bulk (fs:List PF):Int:=(fs.map fun f=>(f.data.length+f.path.length:Int)).sum
theorem bulk_snoc (fs:List PF) (f:PF):bulk (fs++[f])=bulk fs+(f.data.length+f.path.length):=by simp [bulk]
def greatTree (fs:List PF):Bool:=decide (12 < fs.length)||decide (4000 < bulk fs)
theorem bulk_append (xs ys:List PF):bulk (xs++ys)=bulk xs+bulk ys:=by simp [bulk]
theorem bulk_nonneg (fs:List PF):0<=bulk fs:=by
 induction fs with
 | nil=>simp [bulk]
 | cons f fs ih=>simp only [bulk,List.map_cons,List.sum_cons] at ih ⊢;omega
theorem bulk_take_le (fs:List PF) (i:Nat):bulk (fs.take i)<=bulk fs:=by
 have:bulk fs=bulk (fs.take i)+bulk (fs.drop i):=by
  conv=>lhs;rw [<- List.take_append_drop i fs]
  exact bulk_append _ _
 have:=bulk_nonneg (fs.drop i)
 omega
theorem greatTree10 {h:Hp} {n:Nat} {v:AV} {fs:List PF} (hs:Sl h n 4 v fs.length (fs.flatMap pfC)) (hl:fs.length<=4000000000000000000) (hb:bulk fs<=4000000000000000000):Fn E 20 [v] h n fun r h' n'=>r=.bool (greatTree fs)/\h'=h/\n'=n:=by
 refine Fn.of code20 (by decide) rfl fun Q cs hq=>?_
 show SW E Q 20 [(r0,v)] _ _ _ _
 have hret:∀ (b:Bool) (R:List (Path × AV)) (todo:List AItem),b=greatTree fs->look R r2=some (.bool b)->SW E Q 20 R (.code .ret::todo) cs h n:=fun b R todo hb hR=>SW.ret code20 ⟨_,hR,hq _ _ _ ⟨by rw [hb];rfl,rfl,rfl⟩⟩
 have loop:∀ (k i:Nat),i+k=fs.length->∀ R,look R r0=some v->look R r3=some (.int .i64 (bulk (fs.take i)))->look R r4=some (.int .i64 i)->SW E Q 20 R [.code c20x6,.inLoop c20x6,.inBlock 0,.code (.seq (.reg c20x7) .ret)] cs h n:=by
  intro k
  induction k with
  | zero =>
   intro i hi R h0 h3 h4
   rw [show i=fs.length by omega,List.take_length] at h3
   refine SW.sub (R':=[(r0,v),(r3,.int .i64 (bulk fs)),(r4,.int .i64 i)]) (by simp [h0,h3,h4]) ?_
   repeat' first|refine SW.a rfl ?_|refine SW.reg ?_|refine SO.nil ?_|refine SO.a rfl ?_|refine SO.lenSl rfl rfl rfl (by assumption) ?_|refine SO.cF rfl (by omega) ?_|refine SO.gtr rfl rfl rfl rfl (fun _=>?_) (fun _=>?_)
   all_goals (refine hret _ _ _ ?_ rfl;unfold greatTree;simp;omega)
  | succ k ih =>
   intro i hi R h0 h3 h4
   have hi':i < fs.length:=by omega
   have e1:bulk (fs.take (i+1))=bulk (fs.take i)+(fs[i].data.length+fs[i].path.length):=by rw [List.take_succ_eq_append_getElem hi',bulk_snoc]
   have e2:=bulk_take_le fs (i+1)
   have e3:=bulk_nonneg (fs.take i)
   refine SW.sub (R':=[(r0,v),(r3,.int .i64 (bulk (fs.take i))),(r4,.int .i64 i)]) (by simp [h0,h3,h4]) ?_
   repeat' first|refine SO.idxOf (fun _=>rfl) rfl rfl rfl rfl hs hi' (fun a o hp=>?_)|refine SO.loadF rfl rfl rfl (by assumption) (Gr.refl _ _) rfl ?_|refine SW.a rfl ?_|refine SW.reg ?_|refine SO.nil ?_|refine SO.nilD ?_|(refine SW.drawO rfl ?_;simp only [List.map_cons,List.map_nil])|refine SO.a rfl ?_|refine SO.lenSl rfl rfl rfl (by assumption) ?_|refine SO.cT rfl (by omega) ?_|refine SO.add rfl rfl rfl rfl (by omega) ?_|fail
   refine SW.again ?_
   refine ih (i+1) (by omega) _ rfl ?_ rfl
   rw [e1,<- Int.add_assoc];rfl
 repeat' first|refine SW.a rfl ?_|refine SW.reg ?_|refine SO.nil ?_|refine SO.a rfl ?_
 refine SW.loop ?_
 exact loop fs.length 0 (by omega) _ rfl rfl rfl
set_option maxRecDepth 100000
set_option maxHeartbeats 4000000
def nameByte (c:UInt8):Bool:=decide (97<=c.toNat/\c.toNat<=122)||decide (65<=c.toNat/\c.toNat<=90)||decide (48<=c.toNat/\c.toNat<=57)||decide (c.toNat=46)||decide (c.toNat=95)||decide (c.toNat=45)
def nameOk (bs:List UInt8):Bool:=bs.all nameByte&&(decide (1<=bs.length)&&(decide (bs.length<=40)&&(bs != [46]&&bs != [46,46])))
set_option maxRecDepth 100000
set_option maxHeartbeats 4000000
def parentGo (bs:List UInt8):Nat->List UInt8
 | 0=>[]
 | i+1=>if bs[i]?=some 47 then bs.take i else parentGo bs i
def parentOf (bs:List UInt8):List UInt8:=parentGo bs bs.length
def segs (cur:List UInt8):List UInt8->List (List UInt8)
 | []=>[cur]
 | c::r=>if c=47 then cur::segs [] r else segs (cur++[c]) r
def pathOk (bs:List UInt8):Bool:=decide (bs.length<=200)&&(segs [] bs).all nameOk
def findF (fs:List PF) (path:List UInt8):Option PF:=fs.find? fun f=>f.path == path
end Go.Ev
