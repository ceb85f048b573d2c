/- The code of adding.check, as the interpreter reads it (printed by a program). -/
import Derived.Test.YtpamccbgifeoaaaGreatDoorKEnv
set_option linter.all false
namespace Go.Ev
open Go.Proofs
set_option maxRecDepth 100000
abbrev c608x0 : List COp := [⟨some r1, none, [.r r0], (.box 390)⟩,⟨some r2, none, [.c (.int .i64 0)], .mov⟩]
abbrev c608x1 : List COp := [⟨some r3, none, [.r r1], (.fieldA 0)⟩,⟨some r4, none, [.r r3], (.fieldA 0)⟩,⟨some r5, none, [.r r4], (.fieldA 0)⟩,⟨some r6, none, [.r r5], .loadC⟩,⟨some r7, none, [.r r6, .c (.int .i64 3)], (.eql false .num)⟩]
abbrev c608x2 : List COp := [⟨some r2, none, [.c (.int .i64 0)], .mov⟩]
abbrev c608x3 : List COp := [⟨some r8, none, [.r r1], (.fieldA 0)⟩,⟨some r9, none, [.r r8], (.loadA 12)⟩,⟨some r10, none, [.r r1], (.fieldA 0)⟩,⟨some r11, none, [.r r10], (.fieldA 0)⟩,⟨some r12, none, [.r r11], (.fieldA 11)⟩,⟨some r13, none, [.r r12], .loadC⟩,⟨some r14, none, [.r r1], (.fieldA 0)⟩,⟨some r15, none, [.r r14], (.fieldA 0)⟩,⟨some r16, none, [.r r15], (.fieldA 9)⟩,⟨some r17, none, [.r r16], .loadC⟩,⟨some r18, none, [.r r9, .r r13, .r r17], (.call 610)⟩,⟨some r2, none, [.r r18], .mov⟩]
abbrev c608 : CC := (.seq (.reg c608x0) (.seq (.seq (.reg c608x1) (.cond (.r r7) (.seq (.reg c608x2) .ret) .skip)) (.seq (.reg c608x3) .ret)))
theorem code608 : E.func 608 = some ⟨firstPaths 1, [.tmp r2], c608⟩ := by rw [show E.func 608 = (Tryz.prog.funcs[608]?).bind (compF Tryz.prog N2) from rfl, Tryz.func608]; kernel_rfl
theorem meth390 : E.meth 390 "quilt/primpatch.check" = some 608 := by
  show compM Tryz.prog 390 "quilt/primpatch.check" = some 608
  kernel_rfl
end Go.Ev
