/- BridgeTexts: the calls. -/
import Derived.Test.YtognadjclbihgaaGreatDoorT1
import Derived.Test.YtognadjclbihgaaGreatDoorFE5
import Derived.Test.YtognadjclbihgaaGreatDoorFH
import Derived.WalkKit
import Derived.ProofKit
set_option linter.all false
namespace Go.Ev
open Go.Proofs
set_option maxRecDepth 100000
section
variable {w0 w:World} {φ:Phi} {h:Hp} {n:Nat} {v v':AV} {x x':Value} {rs rs':List SnapR}
theorem tcalls9 (hN:Now w0 w φ h n) (hs:Sn h n v rs) (hx:VRel φ v x):Calls Tryz.prog 9 #[x] w fun e w'=>∃ φ',e=.returned (.bool (greatAll rs))/\Now w0 w' φ' h n/\φ.le φ' :=
 (hN.call (great4 hs) (VRels.cons hx VRels.nil)).mono fun e w' ⟨r,c,φ',h',n',⟨hr,hh,hn⟩,hv,he,hle,hw⟩=>by
  subst hr
  rw [hh,hn] at hw
  rw [rel_bool hv] at he
  exact⟨φ',he,hw,hle⟩
theorem Pr0.ps (hp:Pr0 rs):∀ r ∈ rs,r.s.parents.length<=1000:=fun r hr=>(hp.sz r hr).1
theorem tcalls10 (hN:Now w0 w φ h n) (hs:Sn h n v rs) (hx:VRel φ v x) (hpw:Pow h n) (hpr:Pr rs):Calls Tryz.prog 10 #[x] w fun e w'=>∃ φ' h' n',e=.returned (.tuple #[.string ⟨(printE rs).toArray⟩,.int .i64 (checkE rs)])/\Now w0 w' φ' h' n'/\φ.le φ'/\Gr h n h' n' :=
 (hN.call (print6 hpw hs hpr (check8 hs hpr.toPr0.ps)) (VRels.cons hx VRels.nil)).mono fun e w' ⟨r,c,φ',h',n',⟨hr,hg⟩,hv,he,hle,hw⟩=>by
  subst hr
  rw [rel_two hv] at he
  exact⟨φ',h',n',he,hw,hle,hg⟩
theorem tcalls11 (hN:Now w0 w φ h n) (hs:Sn h n v rs) (hx:VRel φ v x) (hpr:Pr rs):Calls Tryz.prog 11 #[x] w fun e w'=>e=.returned (.int .i64 (checkE rs))/\Same w0 w' :=
 (hN.call (check8 hs hpr.toPr0.ps) (VRels.cons hx VRels.nil)).mono fun e w' ⟨r,c,φ',h',n',⟨hr,hg⟩,hv,he,hle,hw⟩=>by
  subst hr
  rw [rel_int hv] at he
  exact⟨he,hw.same⟩
theorem slice_of {esz l:Nat} {cells:List AV} (hs:Sl h n esz v l cells) (hx:VRel φ v x):∃ a c,x=.slice a l c:=by
 obtain⟨_,⟨rfl,rfl⟩ |⟨a,o,c,vs,⟨rfl,_⟩ |⟨rfl,_⟩,_⟩⟩:=hs
 ·simp only [VRel] at hx
  exact⟨_,_,hx⟩
 ·simp only [VRel] at hx
  obtain⟨p,_,rfl,_⟩:=hx
  exact⟨_,_,rfl⟩
 ·simp only [VRel] at hx
  rcases hx with ⟨p,c,_,rfl,_⟩ |⟨_,rfl,y,c,rfl⟩
  ·exact⟨_,_,rfl⟩
  ·exact⟨_,_,rfl⟩
theorem tcalls6 (hN:Now w0 w φ h n) (he:Err h n) (s:ByteArray) (hl:s.data.toList.length<=100000) (hpar:∀ L,partsS s.data.toList.length 0 s.data.toList=.ok L->∀ p ∈ L,p.2.parents.length<=1000):Calls Tryz.prog 6 #[.string s] w fun e w'=>∃ (φ':Phi) (h':Hp) (n':Nat) (v:AV) (sa:Option Addr) (cap:Nat) (rs:List SnapR) (a:Nat) (i:Int),e=.returned (.tuple #[.slice sa rs.length cap,.int .i64 (a:Int),.int .i64 i])/\Now w0 w' φ' h' n'/\φ.le φ'/\Gr h n h' n'/\VRel φ' v (.slice sa rs.length cap)/\Sn h' n' v rs/\HistIs s.data.toList rs a i :=
 (hN.call (parse6 (h:=h) (n:=n) s.data.toList hl hpar he) (VRels.cons (strOf_rel' s) VRels.nil)).mono fun e w' ⟨r,c,φ',h',n',⟨hg,hp⟩,hv,he,hle,hw⟩=>by
  obtain⟨v,rs,a,i,rfl,h1,h2⟩:=hp.q
  obtain⟨x,rfl,hx⟩:=rel_three hv
  obtain⟨sa,cap,rfl⟩:=slice_of h1.sl hx
  exact⟨φ',h',n',v,sa,cap,rs,a,i,he,hw,hle,hg,hx,h1,h2⟩
theorem tcalls8 (hN:Now w0 w φ h n) (hx:VRel φ v x) (hx':VRel φ v' x') (hs:Sn h n v rs) (hs':Sn h n v' rs') (he:rs.map (·.s)=rs'.map (·.s)):Calls Tryz.prog 8 #[x,x'] w fun e w'=>∃ φ' h' n',e=.returned (.bool true)/\Now w0 w' φ' h' n'/\φ.le φ'/\Gr h n h' n' :=
 (hN.call (same8 hs hs' he) (VRels.cons hx (VRels.cons hx' VRels.nil))).mono fun e w' ⟨r,c,φ',h',n',⟨hr,hg⟩,hv,he,hle,hw⟩=>by
  subst hr
  rw [rel_bool hv] at he
  exact⟨φ',h',n',he,hw,hle,hg⟩
theorem HistIs.err {bs:List UInt8} {a:Nat} {i:Int} (hh:HistIs bs rs a i) (hi:i≠0):rs=[]/\a < bs.length:=by
 rcases hh with ⟨h1,h2⟩ |⟨_,_,_,h3⟩
 ·exact⟨h2,(hist_err_lt h1).1⟩
 ·exact absurd h3 hi
theorem HistIs.ok {bs:List UInt8} {a:Nat} {i:Int} (hh:HistIs bs rs a i) (hi:i=0) (hl:bs.length<=3000):checkE rs=0/\Pr rs/\printE rs=bs:=by
 rcases hh with ⟨h1,_⟩ |⟨ats,h1,_,_⟩
 ·exact absurd hi (hist_err_lt h1).2
 ·exact hist_inv h1 hl
theorem HistIs.print {rs':List SnapR} {a:Nat} {i:Int} (hp:Pr0 rs) (hc:checkE rs=0) (hh:HistIs (printE rs) rs' a i):rs.map (·.s)=rs'.map (·.s)/\a=0/\i=0:=by
 obtain⟨ats,h1⟩:=hist_print hp hc
 have:=HistIs.eq (bs:=printE rs) (rs:=rs) (a:=0) (e:=0) (.inr ⟨ats,h1,rfl,rfl⟩) hh
 exact⟨this.1,this.2.1.symm,this.2.2.symm⟩
theorem bytes_back {bs:List UInt8} (s:ByteArray) (h:bs=s.data.toList):(⟨bs.toArray⟩:ByteArray)=s:=by subst h;rfl
end
open Go.Proofs
set_option maxRecDepth 100000
section
variable {w:World} {φ:Phi} {h:Hp} {n:Nat} {av:AV} {v:Value} {rs:List SnapR}
theorem walkGreat (hN:Now w w φ h n) (hx:VRel φ av v) (hs:Sn h n av rs) (hg:greatAll rs=true) (s:ByteArray):Calls Tryz.prog 4 #[v,.string s] w fun e w'=>e=.returned (.bool true)/\Same w w':=by
 go_enter Tryz.func4,Tryz.ntmps4
 go_wp2_with (first |(go_at_call 9;refine (tcalls9 hN hs hx).mono ?_;rintro e w9 ⟨φ9,rfl,hN9,hle9⟩;rw [hg]) |(go_at_call 5;refine (calls5 _).mono ?_;rintro e w5 ⟨rfl,hS5⟩))
 all_goals go_ret
 all_goals exact⟨rfl,hN9.same.trans hS5⟩
theorem walkLong (hN:Now w w φ h n) (hx:VRel φ av v) (hs:Sn h n av rs) (hg:greatAll rs=false) (s:ByteArray) (hl:¬ s.size<=3000):Calls Tryz.prog 4 #[v,.string s] w fun e w'=>e=.returned (.bool true)/\Same w w':=by
 go_enter Tryz.func4,Tryz.ntmps4
 go_wp2_with (first |(go_at_call 9;refine (tcalls9 hN hs hx).mono ?_;rintro e w9 ⟨φ9,rfl,hN9,hle9⟩;rw [hg]) |(go_at_call 5;refine (calls5 _).mono ?_;rintro e w5 ⟨rfl,hS5⟩))
 all_goals go_ret
 all_goals exact⟨rfl,hN9.same.trans hS5⟩
theorem walkBad (hN:Now w w φ h n) (he:Err h n) (hp:Pow h n) (hx:VRel φ av v) (hs:Sn h n av rs) (hg:greatAll rs=false) (hc:checkE rs≠0) (s:ByteArray) (hl:s.size<=3000):Calls Tryz.prog 4 #[v,.string s] w fun e w'=>e=.returned (.bool true)/\Same w w':=by
 have hl1:s.data.toList.length<=3000:=hl
 have hl2:s.data.toList.length<=100000:=Nat.le_trans hl1 (by decide)
 go_enter Tryz.func4,Tryz.ntmps4
 go_wp2_with (first
  |(go_at_call 9;refine (tcalls9 hN hs hx).mono ?_;rintro e w9 ⟨φ9,rfl,hN9,hle9⟩;rw [hg])
  |(go_at_call 10;refine (tcalls10 hN6 hs6 hx6 ((hp.ext hg10).ext hg6) hpr6).mono ?_;rintro e w7 ⟨φ7,h7,n7,rfl,hN7,hle7,hg7⟩;rw [hc6,bytes_back s hpe6])
  |(go_at_call 10;refine (tcalls10 hN9 hs (hx.mono hle9) hp (Pr.of_great hg)).mono ?_;rintro e w10 ⟨φ10,h10,n10,rfl,hN10,hle10,hg10⟩)
  |(go_at_call 6;refine (tcalls6 hN10 (he.ext hg10) s hl2 (hist_parents hl1)).mono ?_;rintro e w6 ⟨φ6,h6,n6,v6,sa6,cap6,rs6,a6,i6,rfl,hN6,hle6,hg6,hx6,hs6,hh6⟩;(by_cases hi:i6=0)<;>first |(obtain⟨hc6,hpr6,hpe6⟩:=hh6.ok hi hl1;subst hi) |(obtain⟨rfl,hlt6⟩:=hh6.err hi))
  |(go_at_call 11;refine (tcalls11 hN7 (hs6.ext hg7) (hx6.mono hle7) hpr6).mono ?_;rintro e w11 ⟨rfl,hS11⟩;rw [hc6])
  |(go_at_call 5;refine (calls5 _).mono ?_;rintro e w5 ⟨rfl,hS5⟩))
 all_goals go_ret
 all_goals first|exact⟨rfl,hS11.trans hS5⟩|exact⟨rfl,hN6.same.trans hS5⟩
theorem walkGood (hN:Now w w φ h n) (he:Err h n) (hp:Pow h n) (hx:VRel φ av v) (hs:Sn h n av rs) (hg:greatAll rs=false) (hc:checkE rs=0) (s:ByteArray) (hl:s.size<=3000):Calls Tryz.prog 4 #[v,.string s] w fun e w'=>e=.returned (.bool true)/\Same w w':=by
 have hl1:s.data.toList.length<=3000:=hl
 have hl2:s.data.toList.length<=100000:=Nat.le_trans hl1 (by decide)
 have hl3:(printE rs).length<=100000:=by rw [printE,if_pos hc];exact (Pr.of_great hg).enc hc
 go_enter Tryz.func4,Tryz.ntmps4
 go_wp2_with (first
  |(go_at_call 9;refine (tcalls9 hN hs hx).mono ?_;rintro e w9 ⟨φ9,rfl,hN9,hle9⟩;rw [hg])
  |(go_at_call 10;refine (tcalls10 hN6 hs6 hx6 ((((hp.ext hg10).ext hgA).ext hg8).ext hg6) hpr6).mono ?_;rintro e w7 ⟨φ7,h7,n7,rfl,hN7,hle7,hg7⟩;rw [hc6,bytes_back s hpe6])
  |(go_at_call 10;refine (tcalls10 hN9 hs (hx.mono hle9) hp (Pr.of_great hg)).mono ?_;rintro e w10 ⟨φ10,h10,n10,rfl,hN10,hle10,hg10⟩;rw [hc])
  |(go_at_call 6;refine (tcalls6 hN8 (((he.ext hg10).ext hgA).ext hg8) s hl2 (hist_parents hl1)).mono ?_;rintro e w6 ⟨φ6,h6,n6,v6,sa6,cap6,rs6,a6,i6,rfl,hN6,hle6,hg6,hx6,hs6,hh6⟩;(by_cases hi:i6=0)<;>first |(obtain⟨hc6,hpr6,hpe6⟩:=hh6.ok hi hl1;subst hi) |(obtain⟨rfl,hlt6⟩:=hh6.err hi))
  |(go_at_call 6;refine (tcalls6 hN10 (he.ext hg10) ⟨(printE rs).toArray⟩ hl3 (print_parents (Pr0.of_great hg) hc)).mono ?_;rintro e wA ⟨φA,hA,nA,vA,saA,capA,rsA,aA,iA,rfl,hNA,hleA,hgA,hxA,hsA,hhA⟩;obtain⟨hmA,rfl,rfl⟩:=HistIs.print (Pr0.of_great hg) hc hhA)
  |(go_at_call 8;refine (tcalls8 hNA ((hx.mono hle9).mono hle10 |>.mono hleA) hxA ((hs.ext hg10).ext hgA) hsA hmA).mono ?_;rintro e w8 ⟨φ8,h8,n8,rfl,hN8,hle8,hg8⟩)
  |(go_at_call 11;refine (tcalls11 hN7 (hs6.ext hg7) (hx6.mono hle7) hpr6).mono ?_;rintro e w11 ⟨rfl,hS11⟩;rw [hc6])
  |(go_at_call 5;refine (calls5 _).mono ?_;rintro e w5 ⟨rfl,hS5⟩))
 all_goals go_ret
 all_goals first|exact⟨rfl,hS11.trans hS5⟩|exact⟨rfl,hN6.same.trans hS5⟩
theorem walk4 (hN:Now w w φ h n) (he:Err h n) (hp:Pow h n) (hx:VRel φ av v) (hs:Sn h n av rs) (s:ByteArray):Calls Tryz.prog 4 #[v,.string s] w fun e w'=>e=.returned (.bool true)/\Same w w':=by
 cases hg:greatAll rs with
 | true=>exact walkGreat hN hx hs hg s
 | false =>
  by_cases hl:s.size<=3000
  ·by_cases hc:checkE rs=0
   ·exact walkGood hN he hp hx hs hg hc s hl
   ·exact walkBad hN he hp hx hs hg hc s hl
  ·exact walkLong hN hx hs hg s hl
end
end Go.Ev
