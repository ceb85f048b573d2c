/- BridgeTexts: closed facts of the row. -/
import Derived.Test.YtognadjclbihgaaGreatDoorG2a
import Derived.Test.YtognadjclbihgaaGreatDoorG2b
import Derived.Test.YtognadjclbihgaaGreatDoorG2c
import Derived.Test.YtognadjclbihgaaGreatDoorG2d
import Derived.Test.YtognadjclbihgaaGreatDoorG2e
import Derived.Test.YtognadjclbihgaaGreatDoorG2f
import Derived.Test.YtognadjclbihgaaGreatDoorFW1
set_option linter.all false
set_option maxRecDepth 100000
set_option maxHeartbeats 8000000
namespace Go.Proofs.YtognadjclbihgaaGreatDoor
theorem vn3':Tryz.pinned.checked.prog.varsNamed 4=["unicode/utf8.first","unicode/utf8.acceptRanges","internal/bytealg.MaxLen","internal/strconv.uint64pow10","math/bits.deBruijn32tab","math/bits.deBruijn64tab","strconv.ErrSyntax","strconv.ErrRange"]:=vn3
theorem ip3':Tryz.pinned.checked.prog.inPlace 4=["internal/bytealg.CountString","internal/bytealg.IndexByteString","internal/bytealg.IndexString","internal/abi.NoEscape","internal/bytealg.Compare","internal/bytealg.abigen_runtime_cmpstring","slices.overlaps[quilt/api.Stored]"]:=ip3
theorem un3':Tryz.pinned.checked.prog.unfollowed 4=true:=un3
theorem re3':Tryz.pinned.checked.prog.recurses 4=true:=re3
theorem lo3:laidOutB Tryz.pinned.checked.prog=true:=by
 show laidOutB Tryz.prog=true
 unfold laidOutB
 simp only [tsz,glo,fuo,Bool.and_true]
 refine List.all_eq_true.2 fun t ht=>?_
 have ht:=List.mem_range.1 ht
 rcases Nat.lt_or_ge t 250 with h|h
 ·exact List.all_eq_true.1 rowA t (List.mem_range.2 h)
 ·rcases Nat.lt_or_ge t 500 with h'|h'
  ·have h2:rowFine Tryz.prog (t - 250+250)=true:=List.all_eq_true.1 rowB (t - 250) (List.mem_range.2 (by omega))
   rwa [Nat.sub_add_cancel h] at h2
  ·have h2:rowFine Tryz.prog (t - 500+500)=true:=List.all_eq_true.1 rowC (t - 500) (List.mem_range.2 (by omega))
   rwa [Nat.sub_add_cancel h'] at h2
theorem mr3:mapsRowed Tryz.pinned.checked.prog=true:=mro
theorem closedFacts:joinedFacts Tryz.pinned.checked.prog 4 Tryz.f4 (Rows.OpenSpec.upto Rows.bridgeTextsSpec).bare Rows.bridgeTextsUptoRow=true:=by
 simp only [joinedFacts,Bool.and_eq_true,lo3,mr3,vn3',ip3',un3',re3']
 repeat' apply And.intro
 all_goals first
 |exact True.intro
  |(as_aux_lemma=>kernel_rfl)
end Go.Proofs.YtognadjclbihgaaGreatDoor
