/- BridgeTexts: the tied card. -/
import Derived.Test.YtognadjclbihgaaGreatDoorFW2
import Derived.Test.YtognadjclbihgaaGreatDoorG3
import Derived.Test.YtognadjclbihgaaGreatDoorTieA
set_option linter.all false
namespace Go.Proofs.YtognadjclbihgaaGreatDoor
theorem pin_first:Tryz.pinned.checked.prog.pinnedFits "unicode/utf8.first" = true:=by kernel_rfl
theorem noOwn:Tryz.pinned.checked.prog.headLifts.contains "ownunsafe" = false:=by kernel_rfl
theorem fits:Tryz.pinned.checked.prog.listedFits [("unicode/utf8.first",Rows.laid_unicode_utf8_first),("unicode/utf8.acceptRanges",Rows.laid_unicode_utf8_acceptRanges),("internal/strconv.uint64pow10",Rows.laid_internal_strconv_uint64pow10),("math/bits.deBruijn32tab",Rows.laid_math_bits_deBruijn32tab),("math/bits.deBruijn64tab",Rows.laid_math_bits_deBruijn64tab),("strconv.ErrSyntax",Rows.laid_strconv_ErrSyntax),("strconv.ErrRange",Rows.laid_strconv_ErrRange)] = true:=by
 unfold Program.listedFits
 rw [noOwn]
 kernel_rfl
theorem row_tie:Rows.bridgeTextsUptoRow.laidByTextAt .later Tryz.pinned [.pinned,.data,.data,.data,.data,.sentinel,.sentinel] true :=
 OpenClaim.laidByTextAt_pinned rfl rfl tie rfl rfl rfl rfl (fun y hy he=>by
  simp only [Rows.bridgeTextsUptoRow,List.zip_cons_cons,List.zip_nil_right,List.mem_cons,List.mem_nil_iff,or_false] at hy
  rcases hy with rfl|rfl|rfl|rfl|rfl|rfl|rfl
  ·exact⟨pin_first,by kernel_rfl⟩
  ·cases he
  ·cases he
  ·cases he
  ·cases he
  ·cases he
  ·cases he) fits
theorem cardFrom (said:Rows.BridgeTextsUptoSaid):Rows.BridgeTextsUptoCardSaid :=
 Claim7.holds_tied_plain_at .later [] _ _ _ _ said (fun _ h=>by cases h) (by as_aux_lemma=>kernel_rfl) (fun _ h=>by cases h) row_tie rfl ⟨rfl,rfl⟩ (by as_aux_lemma=>kernel_rfl) rfl plain goesBy4
end Go.Proofs.YtognadjclbihgaaGreatDoor
