/- What the argument reads as. -/
import Derived.Test.YtognadjclbihgaaGreatDoorFC
import Derived.Test.YtognadjclbihgaaGreatDoorBO
import Derived.Test.YtognadjclbihgaaGreatDoorE7
import Derived.Test.YtognadjclbihgaaGreatDoorRows
import Derived.ChangeOld
import Derived.KernelRfl
set_option linter.all false
namespace Go.Ev
open Go.Proofs Go.Proofs.YtognadjclbihgaaGreatDoor
set_option maxRecDepth 100000
def Arr (w:World) (v:Value) (l:Nat) (vals:List Value):Prop :=
 (v=.slice none 0 0/\l=0/\vals=[])\/(∃ a cap,v=.slice (some a) 0 cap/\l=0/\vals=[]) \/
 (∃ b off cap c e fr,v=.slice (some ⟨b,off,none⟩) l cap/\0 < l/\l<=cap/\w.heap[b]?=some (.cells c e fr)/\off+vals.length<=c.size/\∀ (i:Nat) x,vals[i]?=some x->c[off+i]?=some x)
theorem flat_get {α:Type} {sz:Nat}:∀ (rows:List (List α)),(∀ r ∈ rows,r.length=sz)->∀ (k:Nat) (x:α),rows.flatten[k]?=some x->∃ i j,∃ h:i < rows.length,rows[i][j]?=some x/\j < sz/\k=i*sz+j
 | [],_,k,x,h=>by simp at h
 | r::rows,hr,k,x,h=>by
  rw [List.flatten_cons] at h
  have hl:=hr r (by simp)
  by_cases hk:k < r.length
  ·rw [List.getElem?_append_left hk] at h
   exact⟨0,k,by simp,by simpa using h,by omega,by simp⟩
  ·rw [List.getElem?_append_right (by omega)] at h
   obtain⟨i,j,h1,h2,h3,h4⟩:=flat_get rows (fun r hr'=>hr r (by simp [hr'])) _ x h
   exact⟨i+1,j,by simpa using h1,by simpa using h2,h3,by rw [Nat.succ_mul];omega⟩
theorem flat_len {α:Type} {sz:Nat}:∀ (rows:List (List α)),(∀ r ∈ rows,r.length=sz)->rows.flatten.length=rows.length*sz
 | [],_=>by simp
 | r::rows,hr=>by
  rw [List.flatten_cons,List.length_append,flat_len rows (fun r hr'=>hr r (by simp [hr'])),hr r (by simp),List.length_cons,Nat.succ_mul];omega
theorem bulk_pos {H:Type} (d:DataW H):1<=Rows.uptoBulk d:=by
 cases d with
 | lit l=>cases l<;>simp [Rows.uptoBulk]
 | _=>simp [Rows.uptoBulk]
theorem bulk_len {H:Type}:∀ (ds:List (DataW H)),ds.length<=Rows.uptoBulkAll ds
 | []=>by simp [Rows.uptoBulkAll]
 | d::ds=>by have:=bulk_len ds;have:=bulk_pos d;simp [Rows.uptoBulkAll];omega
theorem bulk_at {H:Type}:∀ (ds:List (DataW H)) (d:DataW H),d ∈ ds->Rows.uptoBulk d<=Rows.uptoBulkAll ds
 | [],d,h=>by simp at h
 | e::ds,d,h=>by
  simp only [Rows.uptoBulkAll]
  rcases List.mem_cons.1 h with rfl|h
  ·omega
  ·have:=bulk_at ds d h;omega
section
variable {H:Type} {enc:TypeId × Value->H} {P:Program} {w:World} {base:Nat} {spare:Nat->Bool} {held:Bool} {fuel:Nat} {t e:TypeId} {cs:List Value} {x:DataW H × List MemPlace}
theorem open_slice {sz:Nat} (ht:P.underlying t=some (.slice e)) (hs:P.cellsOf e=sz) (hz:0 < sz) (h:DataW.trod enc P w base spare held fuel t cs=some x) :
  ∃ (v:Value) (rows:List (List Value)) (ds:List (DataW H)) (m:Nat),cs=[v]/\rows.length=ds.length/\Arr w v rows.length rows.flatten/\(∀ i (h1:i < rows.length) (h2:i < ds.length),rows[i].length=sz/\∃ ps,DataW.trod enc P w base spare held m e rows[i]=some (ds[i],ps))/\Rows.uptoBulkAll ds+1<=Rows.uptoBulk x.1:=by
 rcases DataW.trod_slice ht h with ⟨rfl,rfl⟩ |⟨a,len,cap,elems,rest,m,rfl,rfl,rfl,hb,hl,hc,hel,hcells,_⟩
 ·exact⟨_,[],[],0,rfl,rfl,.inl ⟨rfl,rfl,rfl⟩,fun i h1=>by simp at h1,by simp [Rows.uptoBulk,Rows.uptoBulkAll]⟩
 ·rw [hs] at hcells
  have hrow:∀ i (hi:i < elems.length),∃ ccs,w.cells? base (a.add (i*sz)) sz=some ccs/\DataW.trod enc P w base spare held m e ccs=some elems[i]:=fun i hi=>by
   have:=hcells i (by omega)
   rw [List.getElem?_eq_getElem hi] at this
   exact Option.bind_eq_some_iff.1 this
  have hrl:((List.range len).map fun i=>(w.cells? base (a.add (i*sz)) sz).getD []).length=len:=by simp
  have hat:∀ i (h1:i <((List.range len).map fun i=>(w.cells? base (a.add (i*sz)) sz).getD []).length),w.cells? base (a.add (i*sz)) sz=some (((List.range len).map fun i=>(w.cells? base (a.add (i*sz)) sz).getD [])[i]):=fun i h1=>by
   obtain⟨ccs,h2,_⟩:=hrow i (by rw [hrl] at h1;omega)
   simp [h2]
  generalize hR:((List.range len).map fun i=>(w.cells? base (a.add (i*sz)) sz).getD [])=rows at *
  have hsz:∀ r ∈ rows,r.length=sz:=fun r hr=>by
   obtain⟨i,hi,rfl⟩:=List.getElem_of_mem hr
   exact (World.cells?_some (hat i hi)).2.1
  have hfl:=flat_len rows hsz
  refine⟨_,rows,elems.map (·.1),m,rfl,by simp;omega,?_,fun i h1 h2=>⟨hsz _ (List.getElem_mem h1),?_⟩,by simp [Rows.uptoBulk]⟩
  ·by_cases h0:len=0
   ·subst h0
    have hr0:rows=[]:=List.length_eq_zero_iff.1 hrl
    subst hr0
    exact .inr (.inl ⟨a,cap,rfl,rfl,rfl⟩)
   ·obtain⟨_,h3,h4⟩:=World.cells?_some (hat 0 (by omega))
    have h5:=h4 0 hz
    rw [List.getElem?_eq_getElem (by omega)] at h5
    obtain⟨b,off,spot⟩:=a
    have hspot:spot=none:=by simpa [Addr.add] using World.cell?_spot h5
    subst hspot
    have hcell:∀ k x,rows.flatten[k]?=some x->w.cell? ⟨b,off+k,none⟩=some x:=fun k x hk=>by
     obtain⟨i,j,k1,k2,k3,rfl⟩:=flat_get rows hsz k x hk
     have:=(World.cells?_some (hat i k1)).2.2 j k3
     rw [k2,addr_add,addr_add,Nat.add_assoc] at this
     exact this
    obtain⟨c,e',fr,hbk⟩:∃ c e' fr,w.heap[b]?=some (.cells c e' fr):=by
     unfold World.cell? at h5
     rw [addr_add,addr_add] at h5
     split at h5
     ·rename_i hh;exact⟨_,_,_,hh⟩
     ·simp at h5
    have hcell':∀ k x,rows.flatten[k]?=some x->c[off+k]?=some x:=fun k x hk=>by
     have:=hcell k x hk
     unfold World.cell? at this
     simpa [hbk] using this
    refine .inr (.inr ⟨b,off,cap,c,e',fr,by rw [hrl],by omega,by omega,hbk,?_,hcell'⟩)
    have hpos:0 < rows.flatten.length:=by rw [hfl,hrl];exact Nat.mul_pos (by omega) hz
    have:=hcell' (rows.flatten.length - 1) _ (List.getElem?_eq_getElem (by omega))
    have:=(Array.getElem?_eq_some_iff.1 this).1
    omega
  ·obtain⟨ccs,k1,k2⟩:=hrow i (by simpa using h2)
   have:=hat i h1
   rw [k1] at this
   simp only [Option.some.injEq] at this
   rw [<- this]
   exact⟨elems[i].2,by rw [k2];simp⟩
end
def All2 {α δ:Type} (Q:α->δ->Prop):List α->List δ->Prop
 | [],ds=>ds=[]
 | a::l,ds=>∃ d r,ds=d::r/\Q a d/\All2 Q l r
theorem choose_rows {α β δ:Type} {f:α->β} {Q:α->δ->Prop}:∀ (rows:List β) (ds:List δ),rows.length=ds.length->(∀ i (h1:i < rows.length) (h2:i < ds.length),∃ a,rows[i]=f a/\Q a ds[i])->∃ l,rows=l.map f/\All2 Q l ds
 | [],ds,hl,h=>⟨[],rfl,by cases ds<;>simp_all [All2]⟩
 | r::rows,[],hl,h=>by simp at hl
 | r::rows,d::ds,hl,h=>by
  obtain⟨a,h1,h2⟩:=h 0 (by simp) (by simp)
  obtain⟨l,h3,h4⟩:=choose_rows rows ds (by simpa using hl) (fun i k1 k2=>h (i+1) (by simpa using k1) (by simpa using k2))
  refine⟨a::l,?_,d,ds,rfl,h2,h4⟩
  simp at h1
  simp [h1,h3]
theorem All2.len {α δ:Type} {Q:α->δ->Prop}:∀ {l:List α} {ds:List δ},All2 Q l ds->l.length=ds.length
 | [],ds,h=>by rw [show ds=[] from h];rfl
 | a::l,ds,h=>by obtain⟨d,r,rfl,_,h⟩:=h;simp [All2.len h]
theorem All2.mem {α δ:Type} {Q:α->δ->Prop}:∀ {l:List α} {ds:List δ},All2 Q l ds->∀ a ∈ l,∃ d ∈ ds,Q a d
 | [],ds,h,a,ha=>by simp at ha
 | b::l,ds,h,a,ha=>by
  obtain⟨d,r,rfl,h1,h2⟩:=h
  rcases List.mem_cons.1 ha with rfl|ha
  ·exact⟨d,by simp,h1⟩
  ·obtain⟨d',h3,h4⟩:=All2.mem h2 a ha;exact⟨d',by simp [h3],h4⟩
def fileV (f:PF):List Value:=[.string ⟨f.path.toArray⟩,.int .i64 f.type,.int .i64 f.mode,.string ⟨f.data.toArray⟩]
structure Raw where
 vp:Value
 vf:Value
 s:SN
def snapV (r:Raw):List Value:=[r.vp,.string ⟨r.s.author.toArray⟩,.string ⟨r.s.message.toArray⟩,.int .i64 r.s.time,r.vf]
def intV (i:Int):List Value:=[.int .i64 i]
section
variable {H:Type} {enc:TypeId × Value->H} {w:World} {base:Nat} {spare:Nat->Bool} {held:Bool} {fuel:Nat} {cs:List Value} {x:DataW H × List MemPlace}
theorem cells3:Tryz.prog.cellsOf 3=1:=by kernel_rfl
theorem cells9:Tryz.prog.cellsOf 9=1:=by kernel_rfl
theorem cells34:Tryz.prog.cellsOf 34=1:=by kernel_rfl
theorem cells36:Tryz.prog.cellsOf 36=1:=by kernel_rfl
theorem cells38:Tryz.prog.cellsOf 38=5:=by kernel_rfl
theorem cells68:Tryz.prog.cellsOf 68=4:=by kernel_rfl
theorem map_flatten {α β:Type} (f:α->List β) (l:List α):(l.map f).flatten=l.flatMap f:=by simp [List.flatMap]
theorem open_ints (h:DataW.trod enc Tryz.prog w base spare held fuel 34 cs=some x):∃ v ps,cs=[v]/\Arr w v (List.length ps) (ps.flatMap intV)/\ps.length+1<=Rows.uptoBulk x.1:=by
 obtain⟨v,rows,ds,m,rfl,hl,ha,hr,hb⟩:=open_slice Tryz.underlying34 cells3 (by decide) h
 obtain⟨ps,rfl,h2⟩:=choose_rows (f:=intV) (Q:=fun _ _=>True) rows ds hl (fun i h1 h2=>by
  obtain⟨_,q,h3⟩:=hr i h1 h2
  obtain⟨n,h4,_⟩:=DataW.trod_int Tryz.underlying3 h3
  exact⟨n,h4,trivial⟩)
 have:=bulk_len ds
 have:=h2.len
 refine⟨v,ps,rfl,?_,by omega⟩
 rw [map_flatten,List.length_map] at ha
 exact ha
theorem open_file (h:DataW.trod enc Tryz.prog w base spare held fuel 68 cs=some x):∃ f,cs=fileV f/\f.data.length+f.path.length+1<=Rows.uptoBulk x.1:=by
 obtain⟨xs,n,rfl,rfl,h1,h2,h3⟩:=DataW.trod_struct Tryz.underlying68 h
 rw [cells68] at h1
 match cs,h1 with
 | [a,b,c,d],_ =>
  match xs,h2 with
  | [x0,x1,x2,x3],_ =>
   have k0:DataW.trod enc Tryz.prog w base spare held n 9 (([a,b,c,d].drop 0).take (Tryz.prog.cellsOf 9))=some x0:=h3 0 _ rfl
   have k1:DataW.trod enc Tryz.prog w base spare held n 3 (([a,b,c,d].drop 1).take (Tryz.prog.cellsOf 3))=some x1:=h3 1 _ rfl
   have k2:DataW.trod enc Tryz.prog w base spare held n 3 (([a,b,c,d].drop 2).take (Tryz.prog.cellsOf 3))=some x2:=h3 2 _ rfl
   have k3:DataW.trod enc Tryz.prog w base spare held n 9 (([a,b,c,d].drop 3).take (Tryz.prog.cellsOf 9))=some x3:=h3 3 _ rfl
   rw [cells9] at k0 k3
   rw [cells3] at k1 k2
   obtain⟨s0,e0,rfl,_⟩:=DataW.trod_string Tryz.underlying9 (x:=x0) k0
   obtain⟨n1,e1,rfl,_⟩:=DataW.trod_int Tryz.underlying3 (x:=x1) k1
   obtain⟨n2,e2,rfl,_⟩:=DataW.trod_int Tryz.underlying3 (x:=x2) k2
   obtain⟨s3,e3,rfl,_⟩:=DataW.trod_string Tryz.underlying9 (x:=x3) k3
   simp at e0 e1 e2 e3
   subst e0 e1 e2 e3
   exact⟨⟨s0.data.toList,n1,n2,s3.data.toList⟩,by simp [fileV],by simp [Rows.uptoBulk,Rows.uptoBulkAll];omega⟩
theorem files_bulk:∀ {fs:List PF} {ds:List (DataW H)},All2 (fun (f:PF) d=>f.data.length+f.path.length+1<=Rows.uptoBulk d) fs ds->bulk fs+fs.length<=Rows.uptoBulkAll ds
 | [],ds,h=>by rw [show ds=[] from h];simp [bulk,Rows.uptoBulkAll]
 | f::fs,ds,h=>by
  obtain⟨d,r,rfl,h1,h2⟩:=h
  have:=files_bulk h2
  simp only [bulk,List.map_cons,List.sum_cons,Rows.uptoBulkAll,List.length_cons] at this ⊢
  omega
theorem open_files (h:DataW.trod enc Tryz.prog w base spare held fuel 36 cs=some x):∃ v fs,cs=[v]/\Arr w v (List.length fs) (fs.flatMap fileV)/\bulk fs+fs.length<=Rows.uptoBulk x.1:=by
 obtain⟨v,rows,ds,m,rfl,hl,ha,hr,hb⟩:=open_slice Tryz.underlying36 cells68 (by decide) h
 obtain⟨fs,rfl,h2⟩:=choose_rows (f:=fileV) (Q:=fun (f:PF) (d:DataW H)=>f.data.length+f.path.length+1<=Rows.uptoBulk d) rows ds hl (fun i h1 h2=>by
  obtain⟨_,q,h3⟩:=hr i h1 h2
  exact open_file h3)
 have:=files_bulk h2
 refine⟨v,fs,rfl,?_,by omega⟩
 rw [map_flatten,List.length_map] at ha
 exact ha
structure RawOk (w:World) (r:Raw) (k:Nat):Prop where
 ps:Arr w r.vp r.s.parents.length (r.s.parents.flatMap intV)
 fs:Arr w r.vf r.s.files.length (r.s.files.flatMap fileV)
 parents:r.s.parents.length<=k
 author:r.s.author.length<=k
 message:r.s.message.length<=k
 files:r.s.files.length<=k
 bulk:bulk r.s.files<=k
theorem RawOk.more {w:World} {r:Raw} {k m:Nat} (h:RawOk w r k) (hk:k<=m):RawOk w r m :=
 ⟨h.ps,h.fs,Nat.le_trans h.parents hk,Nat.le_trans h.author hk,Nat.le_trans h.message hk,Nat.le_trans h.files hk,by have:=h.bulk;omega⟩
theorem open_snap (h:DataW.trod enc Tryz.prog w base spare held fuel 38 cs=some x):∃ r,cs=snapV r/\RawOk w r (Rows.uptoBulk x.1):=by
 obtain⟨xs,n,rfl,rfl,h1,h2,h3⟩:=DataW.trod_struct Tryz.underlying38 h
 rw [cells38] at h1
 match cs,h1 with
 | [a,b,c,d,e],_ =>
  match xs,h2 with
  | [x0,x1,x2,x3,x4],_ =>
   have k0:DataW.trod enc Tryz.prog w base spare held n 34 (([a,b,c,d,e].drop 0).take (Tryz.prog.cellsOf 34))=some x0:=h3 0 _ rfl
   have k1:DataW.trod enc Tryz.prog w base spare held n 9 (([a,b,c,d,e].drop 1).take (Tryz.prog.cellsOf 9))=some x1:=h3 1 _ rfl
   have k2:DataW.trod enc Tryz.prog w base spare held n 9 (([a,b,c,d,e].drop 2).take (Tryz.prog.cellsOf 9))=some x2:=h3 2 _ rfl
   have k3:DataW.trod enc Tryz.prog w base spare held n 3 (([a,b,c,d,e].drop 3).take (Tryz.prog.cellsOf 3))=some x3:=h3 3 _ rfl
   have k4:DataW.trod enc Tryz.prog w base spare held n 36 (([a,b,c,d,e].drop 4).take (Tryz.prog.cellsOf 36))=some x4:=h3 4 _ rfl
   rw [cells34] at k0
   rw [cells9] at k1 k2
   rw [cells3] at k3
   rw [cells36] at k4
   obtain⟨vp,ps,e0,a0,b0⟩:=open_ints (x:=x0) k0
   obtain⟨s1,e1,rfl,_⟩:=DataW.trod_string Tryz.underlying9 (x:=x1) k1
   obtain⟨s2,e2,rfl,_⟩:=DataW.trod_string Tryz.underlying9 (x:=x2) k2
   obtain⟨n3,e3,rfl,_⟩:=DataW.trod_int Tryz.underlying3 (x:=x3) k3
   obtain⟨vf,fs,e4,a4,b4⟩:=open_files (x:=x4) k4
   simp at e0 e1 e2 e3 e4
   subst e0 e1 e2 e3 e4
   have hnn:=bulk_nonneg fs
   refine⟨⟨a,e,⟨ps,s1.data.toList,s2.data.toList,n3,fs⟩⟩,by simp [snapV],a0,a4,?_,?_,?_,?_,?_⟩<;>simp [Rows.uptoBulk,Rows.uptoBulkAll]<;>omega
theorem open_arg (h:DataW.trod enc Tryz.prog w base spare held fuel 23 cs=some x):∃ v rs,cs=[v]/\Arr w v (List.length rs) (rs.flatMap snapV)/\rs.length<=Rows.uptoBulk x.1/\∀ r ∈ rs,RawOk w r (Rows.uptoBulk x.1):=by
 obtain⟨v,rows,ds,m,rfl,hl,ha,hr,hb⟩:=open_slice Tryz.underlying23 cells38 (by decide) h
 obtain⟨rs,rfl,h2⟩:=choose_rows (f:=snapV) (Q:=fun (r:Raw) (d:DataW H)=>RawOk w r (Rows.uptoBulk d)) rows ds hl (fun i h1 h2=>by
  obtain⟨_,q,h3⟩:=hr i h1 h2
  exact open_snap h3)
 have:=bulk_len ds
 have:=h2.len
 refine⟨v,rs,rfl,?_,by omega,fun r hr'=>?_⟩
 ·rw [map_flatten,List.length_map] at ha
  exact ha
 ·obtain⟨d,h3,h4⟩:=h2.mem r hr'
  exact h4.more (by have:=bulk_at ds d h3;omega)
end
open Go.Proofs
set_option maxRecDepth 100000
def plOf (w:World) (d:Pl):Value->Pl
 | .slice (some a) (_+1) _=>match w.heap[a.block]? with|some (.cells c _ _)=>⟨a.block,a.off,c.size⟩|_=>d
 | _=>d
def avOf (id:Nat):Value->AV
 | .slice (some _) 0 _=>.gsl 0 0 0 0
 | .slice (some _) (l+1) c=>.slc id 0 (l+1) c
 | _=>.nils
theorem avOf_scalar (id:Nat) (v:Value):(avOf id v).scalar=true:=by
 unfold avOf
 split<;>rfl
theorem Arr.av {w:World} {v:Value} {l:Nat} {vals:List Value} (h:Arr w v l vals) {φ:Phi} {d:Pl} {id:Nat} (hφ:0 < l->φ id=some (plOf w d v)):VRel φ (avOf id v) v:=by
 rcases h with ⟨rfl,rfl,rfl⟩ |⟨a,cap,rfl,rfl,rfl⟩ |⟨b,off,cap,c,e,fr,rfl,h0,h1,h2,h3,h4⟩
 ·simp [avOf,VRel]
 ·show VRel φ (.gsl 0 0 0 0) _
  simp only [VRel]
  exact .inr ⟨trivial,trivial,a,cap,rfl⟩
 ·obtain⟨l,rfl⟩:∃ k,l=k+1:=⟨l - 1,by omega⟩
  have:=hφ (by omega)
  simp only [plOf,h2] at this
  show VRel φ (.slc id 0 (l+1) cap) _
  simp only [VRel]
  exact⟨_,this,rfl,h1⟩
theorem Arr.sl {w:World} {v:Value} {l:Nat} {vals:List Value} (h:Arr w v l vals) {g:Hp} {n id esz:Nat} {cells:List AV} (hc:cells.length=l*esz) (h0:hb g 0=some (.inp [])) (h1:hb g id=some (.inp cells)) (hn:0 < n) (hid:id < n):Sl g n esz (avOf id v) l cells:=by
 rcases h with ⟨rfl,rfl,rfl⟩ |⟨a,cap,rfl,rfl,rfl⟩ |⟨b,off,cap,c,e,fr,rfl,k0,k1,k2,k3,k4⟩
 ·exact⟨hc,.inl ⟨rfl,rfl⟩⟩
 ·have hnil:cells=[]:=List.length_eq_zero_iff.1 (by simpa using hc)
  exact⟨hc,.inr ⟨0,0,0,[],.inr ⟨rfl,.inr ⟨rfl,rfl⟩⟩,⟨hn,.inr (.inr h0)⟩,by simp,by simp [hnil]⟩⟩
 ·obtain⟨l,rfl⟩:∃ k,l=k+1:=⟨l - 1,by omega⟩
  exact⟨hc,.inr ⟨id,0,cap,cells,.inl ⟨rfl,k1⟩,⟨hid,.inr (.inr h1)⟩,by omega,by rw [List.drop_zero,<- hc,List.take_length]⟩⟩
theorem Arr.blk {w:World} {v:Value} {l:Nat} {vals:List Value} (h:Arr w v l vals) {φ:Phi} {d:Pl} {cells:List AV} (hd:∃ c e fr,w.heap[d.blk]?=some (.cells c e fr)/\c.size=d.size/\d.off<=d.size) (hr:VRels φ cells vals) (hsc:∀ x ∈ cells,AV.scalar x=true) :
  ∃ c e fr,w.heap[(plOf w d v).blk]?=some (.cells c e fr)/\c.size=(plOf w d v).size/\(plOf w d v).off+cells.length<=(plOf w d v).size/\CRel φ cells (plOf w d v).off c:=by
 have hlen:=hr.length
 have hnone:plOf w d v=d->vals=[]->∃ c e fr,w.heap[(plOf w d v).blk]?=some (.cells c e fr)/\c.size=(plOf w d v).size/\(plOf w d v).off+cells.length<=(plOf w d v).size/\CRel φ cells (plOf w d v).off c:=fun e1 e2=>by
  subst e2
  have hnil:cells=[]:=List.length_eq_zero_iff.1 (by simpa using hlen)
  obtain⟨c,e,fr,h1,h2,h3⟩:=hd
  rw [e1]
  exact⟨c,e,fr,h1,h2,by rw [hnil];simpa using h3,fun i x hx=>by rw [hnil] at hx;simp at hx⟩
 rcases h with ⟨rfl,rfl,rfl⟩ |⟨a,cap,rfl,rfl,rfl⟩ |⟨b,off,cap,c,e,fr,rfl,k0,k1,k2,k3,k4⟩
 ·exact hnone rfl rfl
 ·exact hnone rfl rfl
 ·obtain⟨l,rfl⟩:∃ k,l=k+1:=⟨l - 1,by omega⟩
  have hp:plOf w d (.slice (some ⟨b,off,none⟩) (l+1) cap)=⟨b,off,c.size⟩:=by simp [plOf,k2]
  rw [hp]
  refine⟨c,e,fr,k2,rfl,by show off+cells.length<=c.size;omega,fun i x hx=>⟨hsc x (List.mem_of_getElem? hx),?_⟩⟩
  obtain⟨y,h5,h6⟩:=hr.get hx
  exact⟨y,k4 i y h5,h6⟩
theorem vrels_flat {φ:Phi} {α β:Type} {f:α->List AV} {g:β->List Value}:∀ (ks:List α) (bs:List β),ks.length=bs.length->(∀ i (h1:i < ks.length) (h2:i < bs.length),VRels φ (f ks[i]) (g bs[i]))->VRels φ (ks.flatMap f) (bs.flatMap g)
 | [],[],_,_=>VRels.nil
 | [],b::bs,h,_=>by simp at h
 | a::ks,[],h,_=>by simp at h
 | a::ks,b::bs,h,hh=>by
  rw [List.flatMap_cons,List.flatMap_cons]
  exact VRels.append (hh 0 (by simp) (by simp)) (vrels_flat ks bs (by simpa using h) fun i h1 h2=>hh (i+1) (by simpa using h1) (by simpa using h2))
def snapOf (i:Nat) (r:Raw):SnapR:=⟨avOf (5+2*i) r.vp,avOf (6+2*i) r.vf,r.s⟩
theorem start2 {w:World} (hG:Globs w) {v:Value} {raws:List Raw} (ha:Arr w v raws.length (raws.flatMap snapV)) (hr:∀ r ∈ raws,RawOk w r 1048576) (hl:raws.length<=1048576) :
  ∃ (φ:Phi) (h:Hp) (n:Nat) (av:AV) (rs:List SnapR),Now w w φ h n/\Err h n/\Pow h n/\VRel φ av v/\Sn h n av rs:=by
 obtain⟨⟨ec,ee,ef,et,eb,eo,ec',ee',ef',g1,g2,g3,g4⟩,⟨tab,te,tf,ht,htab⟩⟩:=hG
 have hc0:0 < ec.size:=(Array.getElem?_eq_some_iff.1 g2).1
 have hts:20<=tab.size:=by
  have:=(Array.getElem?_eq_some_iff.1 (htab 19 (by omega))).1
  omega
 let d:Pl:=⟨3,0,tab.size⟩
 have hd:∃ c e fr,w.heap[d.blk]?=some (.cells c e fr)/\c.size=d.size/\d.off<=d.size:=⟨tab,te,tf,ht,rfl,Nat.zero_le _⟩
 let rs:List SnapR:=raws.mapIdx snapOf
 let n:Nat:=5+2*raws.length
 let pl:Nat->Pl:=fun a=>if a<=1 then ⟨eb,eo,ec'.size⟩ else if a=2 then ⟨2,0,ec.size⟩ else if a=3 then d else if a=4 then plOf w d v else match raws[(a - 5) / 2]? with|some r=>if (a - 5) % 2=0 then plOf w d r.vp else plOf w d r.vf|none=>d
 let F:Nat->List AV:=fun a=>if a<=1 then [] else if a=2 then [.ifc et (.ptr 1 0)] else if a=3 then powC else if a=4 then rs.flatMap srC else match raws[(a - 5) / 2]? with|some r=>if (a - 5) % 2=0 then r.s.parents.flatMap intC else r.s.files.flatMap pfC|none=>[]
 have hrl:rs.length=raws.length:=by simp [rs]
 have hrs:∀ i (h1:i < rs.length) (h2:i < raws.length),rs[i]=snapOf i raws[i]:=fun i h1 h2=>by simp [rs]
 have q1:∀ i,(5+2*i - 5) / 2=i/\(5+2*i - 5) % 2=0:=fun i=>by omega
 have q2:∀ i,(6+2*i - 5) / 2=i/\(6+2*i - 5) % 2=1:=fun i=>by omega
 have plp:∀ i (h:i < raws.length),pl (5+2*i)=plOf w d raws[i].vp:=fun i h=>by
  simp only [pl]
  rw [if_neg (by omega),if_neg (by omega),if_neg (by omega),if_neg (by omega),(q1 i).1,List.getElem?_eq_getElem h]
  simp
 have plf:∀ i (h:i < raws.length),pl (6+2*i)=plOf w d raws[i].vf:=fun i h=>by
  simp only [pl]
  rw [if_neg (by omega),if_neg (by omega),if_neg (by omega),if_neg (by omega),(q2 i).1,List.getElem?_eq_getElem h]
  simp only [(q2 i).2]
  simp
 have Fp:∀ i (h:i < raws.length),F (5+2*i)=raws[i].s.parents.flatMap intC:=fun i h=>by
  simp only [F]
  rw [if_neg (by omega),if_neg (by omega),if_neg (by omega),if_neg (by omega),(q1 i).1,List.getElem?_eq_getElem h]
  simp
 have Ff:∀ i (h:i < raws.length),F (6+2*i)=raws[i].s.files.flatMap pfC:=fun i h=>by
  simp only [F]
  rw [if_neg (by omega),if_neg (by omega),if_neg (by omega),if_neg (by omega),(q2 i).1,List.getElem?_eq_getElem h]
  simp only [(q2 i).2]
  simp
 have hphi:∀ a,1<=a->a < n->inpPhi pl n a=some (pl a):=fun a h1 h2=>inpPhi_at h1 h2
 have hints:∀ ps:List Int,VRels (inpPhi pl n) (ps.flatMap intC) (ps.flatMap intV):=fun ps=>vrels_flat ps ps rfl fun i _ _=>VRels.cons (by simp [VRel]) VRels.nil
 have hfiles:∀ fs:List PF,VRels (inpPhi pl n) (fs.flatMap pfC) (fs.flatMap fileV):=fun fs=>vrels_flat fs fs rfl fun i _ _=>VRels.cons (strOf_rel _) (VRels.cons (by simp [VRel]) (VRels.cons (by simp [VRel]) (VRels.cons (strOf_rel _) VRels.nil)))
 have hsnaps:VRels (inpPhi pl n) (rs.flatMap srC) (raws.flatMap snapV):=vrels_flat rs raws hrl fun i h1 h2=>by
  rw [hrs i h1 h2]
  have hok:=hr _ (List.getElem_mem h2)
  have e1:VRel (inpPhi pl n) (avOf (5+2*i) raws[i].vp) raws[i].vp:=hok.ps.av (d:=d) fun _=>by rw [hphi _ (by omega) (by simp only [n];omega),plp i h2]
  have e2:VRel (inpPhi pl n) (avOf (6+2*i) raws[i].vf) raws[i].vf:=hok.fs.av (d:=d) fun _=>by rw [hphi _ (by omega) (by simp only [n];omega),plf i h2]
  exact VRels.cons e1 (VRels.cons (strOf_rel _) (VRels.cons (strOf_rel _) (VRels.cons (by simp [snapOf,VRel]) (VRels.cons e2 VRels.nil))))
 have hF:∀ a,1<=a->a < n->∃ c e fr,w.heap[(pl a).blk]?=some (.cells c e fr)/\c.size=(pl a).size/\(pl a).off+(F a).length<=(pl a).size/\CRel (inpPhi pl n) (F a) (pl a).off c:=by
  intro a h1 h2
  rcases Nat.lt_or_ge a 5 with h3|h3
  ·have:a=1\/a=2\/a=3\/a=4:=by omega
   rcases this with rfl|rfl|rfl|rfl
   ·exact⟨ec',ee',ef',g3,rfl,g4,fun i x hx=>by simp [F] at hx⟩
   ·refine⟨ec,ee,ef,g1,rfl,by show 0+1<=ec.size;omega,fun i x hx=>?_⟩
    have hx':([.ifc et (.ptr 1 0)]:List AV)[i]?=some x:=hx
    match i,hx' with
    | 0,hx' =>
     simp only [List.getElem?_cons_zero,Option.some.injEq] at hx'
     subst hx'
     refine⟨rfl,_,g2,?_⟩
     simp only [VRel]
     exact⟨_,rfl,_,hphi 1 (by omega) (by simp only [n];omega),rfl⟩
    | i+1,hx'=>simp at hx'
   ·refine⟨tab,te,tf,ht,rfl,?_,fun i x hx=>?_⟩
    ·show 0+powC.length<=tab.size
     have:powC.length=20:=by simp [powC]
     omega
    ·have hx':powC[i]?=some x:=hx
     have hi:i < 20:=by
      have:=(List.getElem?_eq_some_iff.1 hx').1
      simpa [powC] using this
     rw [powC_at i hi] at hx'
     simp only [Option.some.injEq] at hx'
     subst hx'
     exact⟨rfl,_,by rw [show (pl 3).off+i=i from Nat.zero_add i];exact htab i hi,by simp [VRel]⟩
   ·exact ha.blk (cells:=rs.flatMap srC) hd hsnaps fun x hx=>by
     obtain⟨r,hr1,hr2⟩:=List.mem_flatMap.1 hx
     obtain⟨i,hi,rfl⟩:=List.getElem_of_mem hr1
     rw [hrs i hi (by omega)] at hr2
     simp only [snapOf,List.mem_cons,List.not_mem_nil,or_false] at hr2
     rcases hr2 with rfl|rfl|rfl|rfl|rfl
     ·exact avOf_scalar _ _
     ·rfl
     ·rfl
     ·rfl
     ·exact avOf_scalar _ _
  ·have hi:(a - 5) / 2 < raws.length:=by simp only [n] at h2;omega
   have hok:=hr _ (List.getElem_mem hi)
   have:a=5+2*((a - 5) / 2)\/a=6+2*((a - 5) / 2):=by omega
   generalize (a - 5) / 2=i at *
   rcases this with rfl|rfl
   ·rw [plp i hi,Fp i hi]
    exact hok.ps.blk hd (hints _) fun x hx=>by
     obtain⟨r,hr1,hr2⟩:=List.mem_flatMap.1 hx
     simp only [List.mem_cons,List.not_mem_nil,or_false] at hr2
     subst hr2;rfl
   ·rw [plf i hi,Ff i hi]
    exact hok.fs.blk hd (hfiles _) fun x hx=>by
     obtain⟨r,hr1,hr2⟩:=List.mem_flatMap.1 hx
     simp only [List.mem_cons,List.not_mem_nil,or_false] at hr2
     rcases hr2 with rfl|rfl|rfl|rfl<;>rfl
 obtain⟨h,hw,hat⟩:=w_inp (P:=Tryz.prog) (N:=N2) (w:=w) (n:=n) F pl hF (fun g hg=>by
  have:g=2\/g=3:=by
   by_cases h2:g=2
   ·exact .inl h2
   ·by_cases h3:g=3
    ·exact .inr h3
    ·exfalso
     exact hg (N2_big _ (Nat.le_add_right 1000000 g) (fun e=>h2 (Nat.add_left_cancel (show 1000000+g=1000000+2 from e))) (fun e=>h3 (Nat.add_left_cancel (show 1000000+g=1000000+3 from e))))
  rcases this with rfl|rfl
  ·exact⟨by decide,Nat.lt_of_lt_of_le (show 2 < 5 by decide) (Nat.le_add_right 5 _),ec.size,rfl⟩
  ·exact⟨by decide,Nat.lt_of_lt_of_le (show 3 < 5 by decide) (Nat.le_add_right 5 _),tab.size,rfl⟩)
 have h0:hb h 0=some (.inp []):=hat 0 (by simp only [n];omega)
 have key:∀ r ∈ rs,∃ i,∃ hi:i < raws.length,r=snapOf i raws[i]:=fun r hr=>by
  obtain⟨i,hi,rfl⟩:=List.getElem_of_mem hr
  exact⟨i,by omega,hrs i hi (by omega)⟩
 refine⟨_,h,n,avOf 4 v,rs,hw,⟨et,.ptr 1 0,2,0,_,rfl,⟨by simp only [n];omega,.inr (.inr (hat 2 (by simp only [n];omega)))⟩,by simp [F],by simp [F]⟩,⟨3,0,powC,rfl,⟨by simp only [n];omega,.inr (.inr (hat 3 (by simp only [n];omega)))⟩,by simp,by simp⟩,ha.av (d:=d) fun _=>by rw [hphi 4 (by omega) (by simp only [n];omega)];rfl,⟨?_,?_,?_,?_,by omega⟩⟩
 ·rw [hrl]
  exact ha.sl (by rw [flatMap_length (esz:=5) (fun _=>rfl),hrl]) h0 (hat 4 (by simp only [n];omega)) (by simp only [n];omega) (by simp only [n];omega)
 ·intro r hr'
  obtain⟨i,hi,rfl⟩:=key r hr'
  have:=hat (5+2*i) (by simp only [n];omega)
  rw [Fp i hi] at this
  exact (hr _ (List.getElem_mem hi)).ps.sl (by rw [flatMap_length (esz:=1) (fun _=>rfl)];rfl) h0 this (by simp only [n];omega) (by simp only [n];omega)
 ·intro r hr'
  obtain⟨i,hi,rfl⟩:=key r hr'
  have:=hat (6+2*i) (by simp only [n];omega)
  rw [Ff i hi] at this
  exact (hr _ (List.getElem_mem hi)).fs.sl (by rw [flatMap_length (esz:=4) (fun _=>rfl)];rfl) h0 this (by simp only [n];omega) (by simp only [n];omega)
 ·intro r hr'
  obtain⟨i,hi,rfl⟩:=key r hr'
  have hok:=hr _ (List.getElem_mem hi)
  have k1:=hok.parents
  have k2:=hok.author
  have k3:=hok.message
  have k4:=hok.files
  have k5:=hok.bulk
  exact⟨by show raws[i].s.parents.length<=_;omega,by show raws[i].s.author.length<=_;omega,by show raws[i].s.message.length<=_;omega,by show raws[i].s.files.length<=_;omega,by show bulk raws[i].s.files<=_;omega⟩
end Go.Ev
