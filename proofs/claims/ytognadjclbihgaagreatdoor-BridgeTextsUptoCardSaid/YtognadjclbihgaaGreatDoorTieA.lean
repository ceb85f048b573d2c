/- the tie's closed facts, one a theorem -/
import Derived.Test.YtognadjclbihgaaGreatDoorRows
import Derived.LaidByTextLater
import Derived.SevenTiedAt
set_option linter.all false
namespace Go.Proofs.YtognadjclbihgaaGreatDoor
open Go
def laidL:List (String × DataW Unit):=[("unicode/utf8.acceptRanges",Rows.laid_unicode_utf8_acceptRanges),("internal/strconv.uint64pow10",Rows.laid_internal_strconv_uint64pow10),("math/bits.deBruijn32tab",Rows.laid_math_bits_deBruijn32tab),("math/bits.deBruijn64tab",Rows.laid_math_bits_deBruijn64tab),("strconv.ErrSyntax",Rows.laid_strconv_ErrSyntax),("strconv.ErrRange",Rows.laid_strconv_ErrRange)]
theorem tf1:Tryz.prog.worded (varsWordLater true)=true:=by kernel_rfl
theorem tf2:Tryz.prog.worded (varsWordLater !true)=false:=by kernel_rfl
theorem tf3:Tryz.prog.worded rootWordLater=true:=by kernel_rfl
theorem tf4:laidL.map (fun x=>Tryz.prog.kindOfLater x.1)=[LaidKind.data,.data,.data,.data,.sentinel,.sentinel].map some:=by kernel_rfl
theorem tf5:(Tryz.prog.funcNamed "gosem.cut.vars").isSome = true:=by kernel_rfl
theorem tf6:varsNamedLaterB Tryz.prog (varsId Tryz.prog) laidL=true:=by kernel_rfl
end Go.Proofs.YtognadjclbihgaaGreatDoor
namespace Go.Proofs.YtognadjclbihgaaGreatDoor
open Go
theorem tf7:∀ os tape,varsDone Tryz.prog 400 (varsId Tryz.prog) os tape=true:=fun _ _=>by kernel_rfl
theorem tf8:∀ os tape,(DataW.laidRun Tryz.prog (varsWorld Tryz.prog 400 (varsId Tryz.prog) os tape).memory 8 (laidL.map (·.1))).map (·.1)=some laidL:=fun _ _=>by kernel_rfl
theorem tf9:∀ os tape,(DataW.laidRun Tryz.prog (varsWorld Tryz.prog 400 (varsId Tryz.prog) os tape).memory 8 (laidL.map (·.1))).map (fun x=>decide x.2.Nodup&&laidRowsB Tryz.prog (varsWorld Tryz.prog 400 (varsId Tryz.prog) os tape).memory x.2)=some true:=fun _ _=>by kernel_rfl
theorem tie:Tryz.prog.laidByTextLater laidL [.data,.data,.data,.data,.sentinel,.sentinel] true:=Program.laidByTextLater_by_run 400 8 tf1 tf2 tf3 tf4 tf5 tf6 tf7 tf8 tf9
end Go.Proofs.YtognadjclbihgaaGreatDoor
