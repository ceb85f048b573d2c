/- The plain law of texts: snapshots and histories. -/
import Derived.Test.YtognadjclbihgaaGreatDoorPA
import Derived.Test.YtognadjclbihgaaGreatDoorFE4
set_option linter.all false
namespace Go.Ev
def decX (v:Int):SX:=.atom (decN v.toNat)
def fileSX (f:PF):SX:=.list [.atom f.path,decX f.type,decX f.mode,.atom f.data]
def snapSX (s:SN):SX:=.list [.list (s.parents.map decX),.atom s.author,.atom s.message,decX s.time,.list (s.files.map fileSX)]
theorem encs_map {α:Type} (f:α->SX):∀ xs:List α,SX.encs (xs.map f)=xs.flatMap fun x=>(f x).enc
 | []=>rfl
 | x::xs=>by simp only [List.map_cons,SX.encs,List.flatMap_cons,encs_map f xs]
theorem enc_fileSX (f:PF):(fileSX f).enc=encFile f:=by simp [fileSX,SX.enc,SX.encs,encFile,encL,decX]
theorem enc_snapSX (s:SN):(snapSX s).enc=encSnap s:=by
 have h1:(fun x=>(decX x).enc)=fun p:Int=>encA (decN p.toNat):=by funext x;simp [decX,SX.enc]
 have h2:(fun f=>(fileSX f).enc)=encFile:=by funext f;exact enc_fileSX f
 simp only [snapSX,SX.enc,SX.encs,encs_map,h1,h2,encSnap,encL,decX]
theorem numX_decX {v:Int} (h0:0<=v) (h1:v<=1099511627776):numX (decX v)=some v:=by
 simp only [numX,decX]
 rw [numS_dec _ (by omega)]
 simp;omega
theorem numX_inv {x:SX} {v:Int} (h:numX x=some v) (h0:0<=v):x=decX v:=by
 cases x with
 | atom bs=>simp only [numX] at h;rw [decX,<- (numS_inv h h0).1]
 | list xs=>simp [numX] at h
theorem numsX_map:∀ {ps:List Int},(∀ p ∈ ps,0<=p/\p<=1099511627776)->numsX (ps.map decX)=some ps
 | [],_=>rfl
 | p::ps,h=>by
  simp only [List.map_cons,numsX,numX_decX (h p (by simp)).1 (h p (by simp)).2,numsX_map fun q hq=>h q (List.mem_cons_of_mem _ hq)]
theorem numsX_inv:∀ {xs:List SX} {ps:List Int},numsX xs=some ps->(∀ p ∈ ps,0<=p)->xs=ps.map decX
 | [],ps,h,_=>by simp [numsX] at h;subst h;rfl
 | x::xs,ps,h,h0=>by
  simp only [numsX] at h
  split at h
  ·rename_i n ns h1 h2
   simp at h;subst h
   rw [List.map_cons,<- numX_inv h1 (h0 n (by simp)),<- numsX_inv h2 fun q hq=>h0 q (List.mem_cons_of_mem _ hq)]
  ·simp at h
theorem fileX_sx {f:PF} (h:0<=f.type/\f.type<=1099511627776/\0<=f.mode/\f.mode<=1099511627776):fileX (fileSX f)=some f:=by
 simp only [fileSX,fileX,numX_decX h.1 h.2.1,numX_decX h.2.2.1 h.2.2.2]
theorem fileX_inv {x:SX} {f:PF} (h:fileX x=some f) (h0:0<=f.type/\0<=f.mode):x=fileSX f:=by
 unfold fileX at h
 split at h
 ·rename_i p t m d
  split at h
  ·rename_i t' m' h1 h2
   simp at h;subst h
   rw [fileSX,<- numX_inv h1 h0.1,<- numX_inv h2 h0.2]
  ·simp at h
 ·simp at h
theorem filesX_map:∀ {fs:List PF},(∀ f ∈ fs,0<=f.type/\f.type<=1099511627776/\0<=f.mode/\f.mode<=1099511627776)->filesX (fs.map fileSX)=some fs
 | [],_=>rfl
 | f::fs,h=>by
  simp only [List.map_cons,filesX,fileX_sx (h f (by simp)),filesX_map fun g hg=>h g (List.mem_cons_of_mem _ hg)]
theorem filesX_inv:∀ {xs:List SX} {fs:List PF},filesX xs=some fs->(∀ f ∈ fs,0<=f.type/\0<=f.mode)->xs=fs.map fileSX
 | [],fs,h,_=>by simp [filesX] at h;subst h;rfl
 | x::xs,fs,h,h0=>by
  simp only [filesX] at h
  split at h
  ·rename_i f gs h1 h2
   simp at h;subst h
   rw [List.map_cons,<- fileX_inv h1 (h0 f (by simp)),<- filesX_inv h2 fun q hq=>h0 q (List.mem_cons_of_mem _ hq)]
  ·simp at h
theorem snapX_sx {s:SN} (h:Fine2 s):snapX (snapSX s)=some s:=by
 simp only [snapSX,snapX,numsX_map h.parents,numX_decX h.time.1 h.time.2,filesX_map h.files]
theorem snapX_inv {x:SX} {s:SN} (h:snapX x=some s) (h0:Fine2 s):x=snapSX s:=by
 unfold snapX at h
 split at h
 ·rename_i ps a m t fs
  split at h
  ·rename_i ps' t' fs' h1 h2 h3
   simp at h;subst h
   rw [snapSX,<- numX_inv h2 h0.time.1,<- numsX_inv h1 fun p hp=>(h0.parents p hp).1,<- filesX_inv h3 fun f hf=>⟨(h0.files f hf).1,(h0.files f hf).2.2.1⟩]
  ·simp at h
 ·simp at h
def offs (at_:Nat):List SN->List (Nat × SN)
 | []=>[]
 | s::ss=>(at_,s)::offs (at_+(encSnap s).length) ss
theorem offs_snd:∀ (at_:Nat) (ss:List SN),(offs at_ ss).map (·.2)=ss
 | _,[]=>rfl
 | a,s::ss=>by simp only [offs,List.map_cons,offs_snd]
theorem encSnap_cons (s:SN):∃ l,encSnap s=40::l:=⟨_,rfl⟩
theorem partsS_enc:∀ (ss:List SN) (k at_:Nat),(∀ s ∈ ss,Fine2 s/\SX.fit 12 (snapSX s)/\(snapSX s).nodes<=20000)->(ss.flatMap encSnap).length<=k->partsS k at_ (ss.flatMap encSnap)=.ok (offs at_ ss)
 | [],k,at_,_,_=>by cases k<;>rfl
 | s::ss,k,at_,hs,hk=>by
  obtain⟨h1,h2,h3⟩:=hs s (by simp)
  have hr:=readS_enc 12 (snapSX s) 20000 (ss.flatMap encSnap) h2 h3
  rw [enc_snapSX] at hr
  obtain⟨l,hl⟩:=encSnap_cons s
  cases k with
  | zero=>simp [hl] at hk
  | succ k =>
   have ih:=partsS_enc ss k (at_+(encSnap s).length) (fun t ht=>hs t (List.mem_cons_of_mem _ ht)) (by simp only [List.flatMap_cons,List.length_append,hl,List.length_cons] at hk ⊢;omega)
   have hlen:(encSnap s++ss.flatMap encSnap).length - (ss.flatMap encSnap).length=(encSnap s).length:=by simp
   simp only [List.flatMap_cons]
   rw [hl] at hr hlen ⊢
   simp only [List.cons_append] at hr hlen ⊢
   simp only [partsS,hr,snapX_sx h1,hlen]
   rw [<- hl,ih]
   rfl
theorem partsS_inv:∀ (k at_:Nat) (l:List UInt8) (ps:List (Nat × SN)),partsS k at_ l=.ok ps->(∀ p ∈ ps,Fine2 p.2)->l=(ps.map (·.2)).flatMap encSnap
 | k,at_,[],ps,h,_=>by
  have:ps=[]:=by cases k<;>simp [partsS] at h<;>exact h
  subst this;rfl
 | 0,at_,c::r,ps,h,_=>by simp [partsS] at h
 | k+1,at_,c::r,ps,h,hf=>by
  simp only [partsS] at h
  split at h
  ·simp at h
  ·rename_i x rest left hr
   split at h
   ·simp at h
   ·rename_i s hs
    split at h
    ·simp at h
    ·rename_i l hl
     simp at h;subst h
     have h1:=snapX_inv hs (hf (at_,s) (by simp))
     have h2:=(readS_inv _ _ _ _ _ _ hr).1
     have h3:=partsS_inv k _ rest l hl fun p hp=>hf p (List.mem_cons_of_mem _ hp)
     rw [h2,h1,enc_snapSX,h3]
     simp
def mkR (s:SN):SnapR:=⟨.nils,.nils,s⟩
theorem map_mkR (ss:List SN):(ss.map mkR).map (·.s)=ss:=by simp [mkR,Function.comp_def]
def histS (bs:List UInt8):HR:=match partsS bs.length 0 bs with
 | .err a e=>.err a e
 | .ok l=>if checkE ((l.map (·.2)).map mkR)=0 then .ok (l.map (·.1)) (l.map (·.2)) else .err ((l.map (·.1)).getD (checkI ((l.map (·.2)).map mkR)) 0) (checkE ((l.map (·.2)).map mkR))
theorem enc_atom_len (bs:List UInt8):bs.length+2<=(SX.atom bs).enc.length:=by
 obtain⟨c,l,h,_⟩:=decN_head bs.length
 simp only [SX.enc,encA,h,List.length_append,List.length_cons]
 omega
theorem numX_atom {x:SX} {v:Int} (h:numX x=some v):∃ bs,x=.atom bs/\1<=bs.length:=by
 cases x with
 | list xs=>simp [numX] at h
 | atom bs =>
  refine⟨bs,rfl,?_⟩
  cases bs with
  | cons c l=>simp
  | nil=>simp [numX,numS,canonS,unsign] at h
theorem numX_len {x:SX} {v:Int} (h:numX x=some v):3<=x.enc.length:=by
 obtain⟨bs,rfl,hb⟩:=numX_atom h
 have:=enc_atom_len bs
 omega
theorem numsX_len:∀ {xs:List SX} {ps:List Int},numsX xs=some ps->3*ps.length<=(SX.encs xs).length
 | [],ps,h=>by simp only [numsX,Option.some.injEq] at h;subst h;simp
 | x::xs,ps,h=>by
  simp only [numsX] at h
  split at h
  ·rename_i n ns h1 h2
   simp only [Option.some.injEq] at h
   subst h
   have k1:=numX_len h1
   have k2:=numsX_len h2
   simp only [SX.encs,List.length_append,List.length_cons]
   omega
  ·simp at h
theorem fileX_len {x:SX} {f:PF} (h:fileX x=some f):f.data.length+f.path.length+1<=x.enc.length:=by
 unfold fileX at h
 split at h
 ·split at h
  ·simp only [Option.some.injEq] at h
   subst h
   rename_i p t m d _ _ _ _ _ _
   have h1:=enc_atom_len p
   have h2:=enc_atom_len d
   simp only [SX.enc,SX.encs,List.length_append,List.length_cons,List.length_nil] at h1 h2 ⊢
   omega
  ·simp at h
 ·simp at h
theorem filesX_len:∀ {xs:List SX} {fs:List PF},filesX xs=some fs->fs.length<=(SX.encs xs).length/\bulk fs<=(SX.encs xs).length
 | [],fs,h=>by simp only [filesX,Option.some.injEq] at h;subst h;simp [bulk]
 | x::xs,fs,h=>by
  simp only [filesX] at h
  split at h
  ·rename_i f fs' h1 h2
   simp only [Option.some.injEq] at h
   subst h
   have k1:=fileX_len h1
   obtain⟨k2,k3⟩:=filesX_len h2
   simp only [SX.encs,List.length_append,List.length_cons,bulk,List.map_cons,List.sum_cons] at k3 ⊢
   constructor<;>omega
  ·simp at h
theorem snapX_len {x:SX} {s:SN} (h:snapX x=some s):3*s.parents.length<=x.enc.length/\s.author.length<=x.enc.length/\s.message.length<=x.enc.length/\s.files.length<=x.enc.length/\bulk s.files<=x.enc.length:=by
 unfold snapX at h
 split at h
 ·split at h
  ·rename_i ps a m t fs _ _ _ _ _ _ h1 h2 h3
   simp only [Option.some.injEq] at h
   subst h
   have k1:=numsX_len h1
   obtain⟨k2,k3⟩:=filesX_len h3
   have h4:=enc_atom_len a
   have h5:=enc_atom_len m
   simp only [SX.enc,SX.encs,List.length_append,List.length_cons,List.length_nil] at h4 h5 ⊢
   refine⟨by omega,by omega,by omega,by omega,by omega⟩
  ·simp at h
 ·simp at h
theorem SNok.of {x:SX} {s:SN} (h:snapX x=some s) (hl:x.enc.length<=100000):SNok s:=by
 obtain⟨h1,h2,h3,h4,h5⟩:=snapX_len h
 exact⟨by omega,by omega,by omega,by omega,by omega⟩
def preP (l:List (Nat × SN)):PR->PR
 | .ok l'=>.ok (l++l')
 | .err a e=>.err a e
theorem preP_app (a b:List (Nat × SN)) (r:PR):preP (a++b) r=preP a (preP b r):=by
 cases r<;>simp [preP]
theorem partsS_nil (k p:Nat):partsS k p []=.ok []:=by cases k<;>rfl
theorem partsS_step {k p left:Nat} {l rest:List UInt8} {x:SX} {s:SN} (hl:l≠[]) (h1:readS 12 l 20000=.ok x rest left) (h2:snapX x=some s):partsS (k+1) p l=preP [(p,s)] (partsS k (p+(l.length - rest.length)) rest):=by
 cases l with
 | nil=>exact absurd rfl hl
 | cons c r =>
  rw [partsS,h1]
  dsimp only
  rw [h2]
  dsimp only
  cases partsS k (p+((c::r).length - rest.length)) rest<;>rfl
theorem partsS_err {k p:Nat} {l:List UInt8} {e:Int} (hl:l≠[]) (h1:readS 12 l 20000=.err e):partsS (k+1) p l=.err p e:=by
 cases l with
 | nil=>exact absurd rfl hl
 | cons c r=>rw [partsS,h1]
theorem partsS_bad {k p left:Nat} {l rest:List UInt8} {x:SX} (hl:l≠[]) (h1:readS 12 l 20000=.ok x rest left) (h2:snapX x=none):partsS (k+1) p l=.err p 3:=by
 cases l with
 | nil=>exact absurd rfl hl
 | cons c r=>rw [partsS,h1];dsimp only;rw [h2]
theorem lenS_err:∀ (l:List UInt8) (b:Bool) (m:Nat) (e:Int),lenS b m l=.err e->e≠0
 | [],b,m,e,h=>by simp only [lenS,RN.err.injEq] at h;omega
 | c::r,b,m,e,h=>by
  simp only [lenS] at h
  split at h
  ·simp at h
  ·split at h
   ·simp only [RN.err.injEq] at h;omega
   ·split at h
    ·simp only [RN.err.injEq] at h;omega
    ·exact lenS_err r _ _ _ h
theorem atomS_err {l:List UInt8} {left:Nat} {e:Int} (h:atomS l left=.err e):e≠0:=by
 unfold atomS at h
 split at h
 ·rename_i e' he
  simp only [RX.err.injEq] at h
  rw [<- h];exact lenS_err _ _ _ _ he
 ·split at h
  ·simp only [RX.err.injEq] at h;omega
  ·simp at h
theorem listS_err {f:List UInt8->Nat->RX} (hf:∀ l left e,f l left=.err e->e≠0):∀ (k:Nat) (l:List UInt8) (left:Nat) (e:Int),listS f k l left=.err e->e≠0
 | k,[],left,e,h=>by cases k<;>simp only [listS,RL.err.injEq] at h<;>omega
 | 0,c::r,left,e,h=>by simp only [listS,RL.err.injEq] at h;omega
 | k+1,c::r,left,e,h=>by
  simp only [listS] at h
  split at h
  ·simp at h
  ·split at h
   ·rename_i e' h1
    simp only [RL.err.injEq] at h
    rw [<- h];exact hf _ _ _ h1
   ·split at h
    ·rename_i e' h2
     simp only [RL.err.injEq] at h
     rw [<- h];exact listS_err hf k _ _ _ h2
    ·simp at h
theorem readS_err:∀ (d:Nat) (l:List UInt8) (left:Nat) (e:Int),readS d l left=.err e->e≠0
 | d,[],left,e,h=>by cases d<;>simp only [readS,RX.err.injEq] at h<;>omega
 | 0,c::r,left,e,h=>by simp only [readS,RX.err.injEq] at h;omega
 | d+1,c::r,left,e,h=>by
  simp only [readS] at h
  split at h
  ·simp only [RX.err.injEq] at h;omega
  ·split at h
   ·split at h
    ·rename_i e' h1
     simp only [RX.err.injEq] at h
     rw [<- h];exact listS_err (readS_err d) _ _ _ _ h1
    ·simp at h
   ·exact atomS_err h
theorem checkE_mk (rs:List SnapR):checkE ((rs.map (·.s)).map mkR)=checkE rs:=(check_congr (rs:=(rs.map (·.s)).map mkR) (rs':=rs) (map_mkR _)).1
theorem fits_of {d:Nat}:∀ {xs:List SX},(∀ x ∈ xs,SX.fit d x)->SX.fits d xs
 | [],_=>by simp only [SX.fits]
 | x::xs,h=>by
  simp only [SX.fits]
  exact⟨h x (by simp),fits_of fun y hy=>h y (List.mem_cons_of_mem _ hy)⟩
theorem fit_decX (d:Nat) {v:Int} (h:v<=9000000000000000000):SX.fit (d+1) (decX v):=by
 simp only [decX,SX.fit]
 exact Nat.le_trans (decN_short v.toNat 18 (by omega)) (by decide)
theorem fit_fileX (d:Nat) {f:PF} (h:0<=f.type/\f.type<=9000000000000000000/\0<=f.mode/\f.mode<=9000000000000000000/\f.path.length<=65536/\f.data.length<=65536):SX.fit (d+1+1) (fileSX f):=by
 simp only [fileSX,SX.fit,SX.fits,and_true]
 exact⟨h.2.2.2.2.1,fit_decX _ h.2.1,fit_decX _ h.2.2.2.1,h.2.2.2.2.2⟩
theorem fit_snap {s:SN} (hf:Fine s):SX.fit 12 (snapSX s):=by
 show SX.fit (8+1+1+1+1) (snapSX s)
 simp only [snapSX,SX.fit,SX.fits,and_true]
 refine⟨fits_of fun x hx=>?_,hf.author,hf.message,fit_decX _ hf.time.2,fits_of fun x hx=>?_⟩
 ·obtain⟨p,hp,rfl⟩:=List.mem_map.1 hx
  exact fit_decX _ (hf.parents p hp).2
 ·obtain⟨f,hf',rfl⟩:=List.mem_map.1 hx
  exact fit_fileX _ (hf.files f hf')
theorem nodess_map {α:Type} (g:α->SX) (c:Nat) (h:∀ x,(g x).nodes=c):∀ xs:List α,SX.nodess (xs.map g)=xs.length*c
 | []=>by simp [SX.nodess]
 | x::xs=>by
  simp only [List.map_cons,SX.nodess,h,nodess_map g c h xs,List.length_cons,Nat.succ_mul]
  omega
theorem nodes_decX (v:Int):(decX v).nodes=1:=by simp only [decX,SX.nodes]
theorem nodes_fileX (f:PF):(fileSX f).nodes=5:=by simp only [fileSX,SX.nodes,SX.nodess,nodes_decX]
theorem nodes_snap {s:SN} (hf:Fine s):(snapSX s).nodes<=20000:=by
 have h1:=hf.np
 have h2:=hf.nf
 simp only [snapSX,SX.nodes,SX.nodess,nodess_map decX 1 nodes_decX,nodess_map fileSX 5 nodes_fileX,nodes_decX]
 omega
theorem print_enc {rs:List SnapR} (hc:checkE rs=0):printE rs=(rs.map (·.s)).flatMap encSnap:=by rw [printE,if_pos hc,List.flatMap_map]
theorem hist_print {rs:List SnapR} (hp:Pr0 rs) (hc:checkE rs=0):∃ ats,histS (printE rs)=.ok ats (rs.map (·.s)):=by
 have hb:=fine_both hp hc
 have h1:=print_enc hc
 have h2:=partsS_enc (rs.map (·.s)) (printE rs).length 0 (fun s hs=>by
  obtain⟨r,hr,rfl⟩:=List.mem_map.1 hs
  exact⟨(hb r hr).2,fit_snap (hb r hr).1,nodes_snap (hb r hr).1⟩) (by rw [h1];exact Nat.le_refl _)
 rw [<- h1] at h2
 unfold histS
 rw [h2]
 dsimp only
 rw [offs_snd,checkE_mk,if_pos hc]
 exact⟨_,rfl⟩
theorem parts_sz:∀ (k at_:Nat) (l:List UInt8) (ps:List (Nat × SN)),partsS k at_ l=.ok ps->∀ p ∈ ps,at_<=p.1/\p.1 < at_+l.length/\3*p.2.parents.length<=l.length/\p.2.author.length<=l.length/\p.2.message.length<=l.length/\bulk p.2.files<=l.length
 | k,at_,[],ps,h,p,hp=>by
  have:ps=[]:=by cases k<;>simp only [partsS,PR.ok.injEq] at h<;>exact h.symm
  subst this;simp at hp
 | 0,at_,c::r,ps,h,p,hp=>by simp [partsS] at h
 | k+1,at_,c::r,ps,h,p,hp=>by
  simp only [partsS] at h
  split at h
  ·simp at h
  ·rename_i x rest left hr
   split at h
   ·simp at h
   ·rename_i s hs
    split at h
    ·simp at h
    ·rename_i l hl
     simp only [PR.ok.injEq] at h
     subst h
     have h2:=congrArg List.length (readS_inv _ _ _ _ _ _ hr).1
     rw [List.length_append] at h2
     obtain⟨n1,n2,n3,_,n5⟩:=snapX_len hs
     have hpos:1<=(c::r).length:=by simp
     rcases List.mem_cons.1 hp with rfl|hp
     ·refine⟨Nat.le_refl _,by show at_ < _;omega,by show 3*s.parents.length<=_;omega,by show s.author.length<=_;omega,by show s.message.length<=_;omega,by show bulk s.files<=_;omega⟩
     ·obtain⟨m1,m2,m3,m4,m5,m6⟩:=parts_sz k _ rest l hl p hp
      refine⟨by omega,by omega,by omega,by omega,by omega,by omega⟩
theorem parts_err:∀ (k at_:Nat) (l:List UInt8) (a:Nat) (e:Int),partsS k at_ l=.err a e->at_<=a/\a < at_+l.length/\e≠0
 | k,at_,[],a,e,h=>by cases k<;>simp [partsS] at h
 | 0,at_,c::r,a,e,h=>by
  simp only [partsS,PR.err.injEq] at h
  obtain⟨rfl,rfl⟩:=h
  exact⟨Nat.le_refl _,by simp,by decide⟩
 | k+1,at_,c::r,a,e,h=>by
  simp only [partsS] at h
  split at h
  ·rename_i e' hr
   simp only [PR.err.injEq] at h
   obtain⟨rfl,rfl⟩:=h
   exact⟨Nat.le_refl _,by simp,readS_err _ _ _ _ hr⟩
  ·rename_i x rest left hr
   split at h
   ·simp only [PR.err.injEq] at h
    obtain⟨rfl,rfl⟩:=h
    exact⟨Nat.le_refl _,by simp,by decide⟩
   ·split at h
    ·rename_i a' e' hl
     simp only [PR.err.injEq] at h
     obtain⟨rfl,rfl⟩:=h
     have h2:=congrArg List.length (readS_inv _ _ _ _ _ _ hr).1
     rw [List.length_append] at h2
     obtain⟨m1,m2,m3⟩:=parts_err k _ rest _ _ hl
     exact⟨by omega,by omega,m3⟩
    ·simp at h
theorem hist_err_lt {bs:List UInt8} {a:Nat} {e:Int} (h:histS bs=.err a e):a < bs.length/\e≠0:=by
 unfold histS at h
 split at h
 ·rename_i a' e' hp
  simp only [HR.err.injEq] at h
  obtain⟨rfl,rfl⟩:=h
  have:=parts_err _ _ _ _ _ hp
  exact⟨by omega,this.2.2⟩
 ·rename_i l hp
  split at h
  ·simp at h
  ·rename_i hc
   simp only [HR.err.injEq] at h
   obtain⟨rfl,rfl⟩:=h
   refine⟨?_,hc⟩
   have hlt:=checkI_lt hc
   rw [List.length_map,List.length_map] at hlt
   generalize checkI ((l.map (·.2)).map mkR)=i at hlt ⊢
   have:(l.map (·.1)).getD i 0=l[i].1:=by simp [List.getD,hlt]
   rw [this]
   have:=parts_sz _ _ _ _ hp _ (List.getElem_mem hlt)
   omega
theorem hist_inv {bs:List UInt8} {ats:List Nat} {rs:List SnapR} (h:histS bs=.ok ats (rs.map (·.s))) (hl:bs.length<=3000):checkE rs=0/\Pr rs/\printE rs=bs:=by
 unfold histS at h
 split at h
 ·simp at h
 ·rename_i l hp
  split at h
  ·rename_i hc
   simp only [HR.ok.injEq] at h
   obtain⟨_,h⟩:=h
   rw [h,checkE_mk] at hc
   have hmem:∀ r ∈ rs,∃ p ∈ l,p.2=r.s:=fun r hr=>by
    have:r.s ∈ l.map (·.2):=by rw [h];exact List.mem_map_of_mem hr
    obtain⟨p,h1,h2⟩:=List.mem_map.1 this
    exact⟨p,h1,h2⟩
   have h0:Pr0 rs:=⟨fun r hr=>by
    obtain⟨p,h1,h2⟩:=hmem r hr
    have:=parts_sz _ _ _ _ hp p h1
    rw [h2] at this
    omega⟩
   have hb:=fine_both h0 hc
   have hinv:=partsS_inv _ _ _ _ hp fun p hp'=>by
    have:p.2 ∈ rs.map (·.s):=by rw [<- h];exact List.mem_map_of_mem hp'
    obtain⟨r,h1,h2⟩:=List.mem_map.1 this
    rw [<- h2];exact (hb r h1).2
   rw [h] at hinv
   have hpe:printE rs=bs:=by rw [print_enc hc];exact hinv.symm
   refine⟨hc,⟨h0,fun _=>?_⟩,hpe⟩
   rw [printE,if_pos hc] at hpe
   rw [hpe];omega
  ·simp at h
theorem hist_parents {bs:List UInt8} (hl:bs.length<=3000):∀ L,partsS bs.length 0 bs=.ok L->∀ p ∈ L,p.2.parents.length<=1000:=fun L hL p hp=>by
 have:=parts_sz _ _ _ _ hL p hp
 omega
theorem print_parents {rs:List SnapR} (hp:Pr0 rs) (hc:checkE rs=0):∀ L,partsS (printE rs).length 0 (printE rs)=.ok L->∀ p ∈ L,p.2.parents.length<=1000:=fun L hL p hp'=>by
 obtain⟨ats,h⟩:=hist_print hp hc
 unfold histS at h
 rw [hL] at h
 dsimp only at h
 split at h
 ·simp only [HR.ok.injEq] at h
  have:p.2 ∈ rs.map (·.s):=by rw [<- h.2];exact List.mem_map_of_mem hp'
  obtain⟨r,h1,h2⟩:=List.mem_map.1 this
  rw [<- h2];exact (hp.sz r h1).1
 ·simp at h
end Go.Ev
