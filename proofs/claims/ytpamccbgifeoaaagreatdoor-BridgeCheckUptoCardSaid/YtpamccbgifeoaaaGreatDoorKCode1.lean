/- The code of the functions, as the interpreter reads it (printed by a program). -/
import Derived.Test.YtpamccbgifeoaaaGreatDoorKEnv
set_option linter.all false
namespace Go.Ev
open Go.Proofs
set_option maxRecDepth 100000
abbrev c4x0 : List COp := [⟨some r2, none, [.c (.bool false)], .mov⟩]
abbrev c4x1 : List COp := [⟨some r3, none, [.c (.int .i64 0)], .mov⟩]
abbrev c4x2 : List COp := [⟨some r7, none, [.r r3], .mov⟩,⟨some r8, none, [.r r0], .mov⟩,⟨some r9, none, [.r r8], .lenSl⟩,⟨some r10, none, [.r r7, .r r9], (.icmp .lss)⟩]
abbrev c4x3 : List COp := [⟨some r13, none, [.r r0], .mov⟩,⟨some r14, none, [.r r3], .mov⟩,⟨some r15, none, [.r r13, .r r14], (.idxSlA 5)⟩,⟨some r16, none, [.r r15], (.fieldA 0)⟩,⟨some r17, none, [.r r16], .loadC⟩,⟨some r18, none, [.r r17], .lenSl⟩,⟨some r19, none, [.r r18, .c (.int .i64 8)], (.icmp .gtr)⟩,⟨some r20, none, [.r r19], .mov⟩,⟨some r21, (some (r20, false)), [.r r0], .mov⟩,⟨some r22, (some (r20, false)), [.r r3], .mov⟩,⟨some r23, (some (r20, false)), [.r r21, .r r22], (.idxSlA 5)⟩,⟨some r24, (some (r20, false)), [.r r23], (.fieldA 1)⟩,⟨some r25, (some (r20, false)), [.r r24], .loadC⟩,⟨some r26, (some (r20, false)), [.r r25], .lenStr⟩,⟨some r27, (some (r20, false)), [.r r26, .c (.int .i64 60)], (.icmp .gtr)⟩,⟨some r28, none, [.r r20, .c (.bool true), .r r27], .pick⟩,⟨some r29, none, [.r r28], .mov⟩,⟨some r30, (some (r29, false)), [.r r0], .mov⟩,⟨some r31, (some (r29, false)), [.r r3], .mov⟩,⟨some r32, (some (r29, false)), [.r r30, .r r31], (.idxSlA 5)⟩,⟨some r33, (some (r29, false)), [.r r32], (.fieldA 2)⟩,⟨some r34, (some (r29, false)), [.r r33], .loadC⟩,⟨some r35, (some (r29, false)), [.r r34], .lenStr⟩,⟨some r36, (some (r29, false)), [.r r35, .c (.int .i64 1001)], (.icmp .gtr)⟩,⟨some r37, none, [.r r29, .c (.bool true), .r r36], .pick⟩,⟨some r38, none, [.r r37], .mov⟩,⟨some r39, (some (r38, false)), [.r r0], .mov⟩,⟨some r40, (some (r38, false)), [.r r3], .mov⟩,⟨some r41, (some (r38, false)), [.r r39, .r r40], (.idxSlA 5)⟩,⟨some r42, (some (r38, false)), [.r r41], (.fieldA 4)⟩,⟨some r43, (some (r38, false)), [.r r42], .loadC⟩,⟨some r44, (some (r38, false)), [.r r43], (.call 10)⟩,⟨some r45, none, [.r r38, .c (.bool true), .r r44], .pick⟩]
abbrev c4x4 : List COp := [⟨some r2, none, [.c (.bool true)], .mov⟩]
abbrev c4x5 : List COp := [⟨some r4, none, [.c (.int .i64 0)], .mov⟩]
abbrev c4x6 : List COp := [⟨some r5, none, [.c (.int .i64 0)], .mov⟩]
abbrev c4x7 : List COp := [⟨some r46, none, [.r r5], .mov⟩,⟨some r47, none, [.r r0], .mov⟩,⟨some r48, none, [.r r3], .mov⟩,⟨some r49, none, [.r r47, .r r48], (.idxSlA 5)⟩,⟨some r50, none, [.r r49], (.fieldA 4)⟩,⟨some r51, none, [.r r50], .loadC⟩,⟨some r52, none, [.r r51], .lenSl⟩,⟨some r53, none, [.r r46, .r r52], (.icmp .lss)⟩]
abbrev c4x8 : List COp := [⟨some r6, none, [.c (.int .i64 0)], .mov⟩]
abbrev c4x9 : List COp := [⟨some r56, none, [.r r6], .mov⟩,⟨some r57, none, [.r r0], .mov⟩,⟨some r58, none, [.r r3], .mov⟩,⟨some r59, none, [.r r57, .r r58], (.idxSlA 5)⟩,⟨some r60, none, [.r r59], (.fieldA 4)⟩,⟨some r61, none, [.r r60], .loadC⟩,⟨some r62, none, [.r r5], .mov⟩,⟨some r63, none, [.r r61, .r r62], (.idxSlA 4)⟩,⟨some r64, none, [.r r63], (.fieldA 3)⟩,⟨some r65, none, [.r r64], .loadC⟩,⟨some r66, none, [.r r65], .lenStr⟩,⟨some r67, none, [.r r56, .r r66], (.icmp .lss)⟩]
abbrev c4x10 : List COp := [⟨some r70, none, [.r r0], .mov⟩,⟨some r71, none, [.r r3], .mov⟩,⟨some r72, none, [.r r70, .r r71], (.idxSlA 5)⟩,⟨some r73, none, [.r r72], (.fieldA 4)⟩,⟨some r74, none, [.r r73], .loadC⟩,⟨some r75, none, [.r r5], .mov⟩,⟨some r76, none, [.r r74, .r r75], (.idxSlA 4)⟩,⟨some r77, none, [.r r76], (.fieldA 3)⟩,⟨some r78, none, [.r r77], .loadC⟩,⟨some r79, none, [.r r6], .mov⟩,⟨some r80, none, [.r r78, .r r79], .idxStr⟩,⟨some r81, none, [.r r80, .c (.int .u8 10)], (.eql false .num)⟩]
abbrev c4x11 : List COp := [⟨some r82, none, [.r r4], .mov⟩,⟨some r83, none, [.r r82, .c (.int .i64 1)], .add⟩,⟨some r4, none, [.r r83], .mov⟩]
abbrev c4x12 : List COp := [⟨some r68, none, [.r r6], .mov⟩,⟨some r69, none, [.r r68, .c (.int .i64 1)], .add⟩,⟨some r6, none, [.r r69], .mov⟩]
abbrev c4x13 : CC := (.seq (.seq (.reg c4x9) (.cond (.r r67) .skip (.exit 4))) (.seq (.block 5 (.seq (.reg c4x10) (.cond (.r r81) (.reg c4x11) .skip))) (.reg c4x12)))
abbrev c4x14 : List COp := [⟨some r54, none, [.r r5], .mov⟩,⟨some r55, none, [.r r54, .c (.int .i64 1)], .add⟩,⟨some r5, none, [.r r55], .mov⟩]
abbrev c4x15 : CC := (.seq (.seq (.reg c4x7) (.cond (.r r53) .skip (.exit 2))) (.seq (.block 3 (.seq (.reg c4x8) (.block 4 (.loop c4x13)))) (.reg c4x14)))
abbrev c4x16 : List COp := [⟨some r84, none, [.r r4], .mov⟩,⟨some r85, none, [.r r84, .c (.int .i64 40)], (.icmp .gtr)⟩]
abbrev c4x17 : List COp := [⟨some r2, none, [.c (.bool true)], .mov⟩]
abbrev c4x18 : List COp := [⟨some r11, none, [.r r3], .mov⟩,⟨some r12, none, [.r r11, .c (.int .i64 1)], .add⟩,⟨some r3, none, [.r r12], .mov⟩]
abbrev c4x19 : CC := (.seq (.seq (.reg c4x2) (.cond (.r r10) .skip (.exit 0))) (.seq (.block 1 (.seq (.seq (.reg c4x3) (.cond (.r r45) (.seq (.reg c4x4) .ret) .skip)) (.seq (.reg c4x5) (.seq (.seq (.reg c4x6) (.block 2 (.loop c4x15))) (.seq (.reg c4x16) (.cond (.r r85) (.seq (.reg c4x17) .ret) .skip)))))) (.reg c4x18)))
abbrev c4x20 : List COp := [⟨some r86, none, [.r r0], .mov⟩,⟨some r87, none, [.r r86], .lenSl⟩,⟨some r88, none, [.r r87, .c (.int .i64 6)], (.icmp .gtr)⟩,⟨some r2, none, [.r r88], .mov⟩]
abbrev c4 : CC := (.seq (.reg c4x0) (.seq (.seq (.reg c4x1) (.block 0 (.loop c4x19))) (.seq (.reg c4x20) .ret)))
theorem code4 : E.func 4 = some ⟨firstPaths 1, [.tmp r2], c4⟩ := by rw [show E.func 4 = (Tryz.prog.funcs[4]?).bind (compF Tryz.prog N2) from rfl, Tryz.func4]; kernel_rfl
abbrev c10x0 : List COp := [⟨some r2, none, [.c (.bool false)], .mov⟩]
abbrev c10x1 : List COp := [⟨some r3, none, [.c (.int .i64 0)], .mov⟩]
abbrev c10x2 : List COp := [⟨some r4, none, [.c (.int .i64 0)], .mov⟩]
abbrev c10x3 : List COp := [⟨some r5, none, [.r r4], .mov⟩,⟨some r6, none, [.r r0], .mov⟩,⟨some r7, none, [.r r6], .lenSl⟩,⟨some r8, none, [.r r5, .r r7], (.icmp .lss)⟩]
abbrev c10x4 : List DStep := [⟨⟨some r11, none, [.r r3], .mov⟩, []⟩,⟨⟨some r12, none, [.r r0], .mov⟩, []⟩,⟨⟨some r13, none, [.r r4], .mov⟩, []⟩,⟨⟨some r14, none, [.r r12, .r r13], (.idxSlA 4)⟩, []⟩,⟨⟨some r15, none, [.r r14], (.fieldA 3)⟩, []⟩,⟨⟨some r16, none, [.r r15], .loadC⟩, []⟩,⟨⟨some r17, none, [.r r16], .lenStr⟩, []⟩,⟨⟨some r18, none, [.r r11, .r r17], .add⟩, []⟩,⟨⟨some r19, none, [.r r0], .mov⟩, []⟩,⟨⟨some r20, none, [.r r4], .mov⟩, []⟩,⟨⟨some r21, none, [.r r19, .r r20], (.idxSlA 4)⟩, []⟩,⟨⟨some r22, none, [.r r21], (.fieldA 0)⟩, []⟩,⟨⟨some r23, none, [.r r22], .loadC⟩, []⟩,⟨⟨some r24, none, [.r r23], .lenStr⟩, []⟩,⟨⟨some r25, none, [.r r18, .r r24], .add⟩, []⟩,⟨⟨some r3, none, [.r r25], .mov⟩, []⟩]
abbrev c10x5 : List COp := [⟨some r9, none, [.r r4], .mov⟩,⟨some r10, none, [.r r9, .c (.int .i64 1)], .add⟩,⟨some r4, none, [.r r10], .mov⟩]
abbrev c10x6 : CC := (.seq (.seq (.reg c10x3) (.cond (.r r8) .skip (.exit 0))) (.seq (.block 1 (.draw c10x4)) (.reg c10x5)))
abbrev c10x7 : List COp := [⟨some r26, none, [.r r0], .mov⟩,⟨some r27, none, [.r r26], .lenSl⟩,⟨some r28, none, [.r r27, .c (.int .i64 12)], (.icmp .gtr)⟩,⟨some r29, none, [.r r28], .mov⟩,⟨some r30, (some (r29, false)), [.r r3], .mov⟩,⟨some r31, (some (r29, false)), [.r r30, .c (.int .i64 4000)], (.icmp .gtr)⟩,⟨some r32, none, [.r r29, .c (.bool true), .r r31], .pick⟩,⟨some r2, none, [.r r32], .mov⟩]
abbrev c10 : CC := (.seq (.reg c10x0) (.seq (.reg c10x1) (.seq (.seq (.reg c10x2) (.block 0 (.loop c10x6))) (.seq (.reg c10x7) .ret))))
theorem code10 : E.func 10 = some ⟨firstPaths 1, [.tmp r2], c10⟩ := by rw [show E.func 10 = (Tryz.prog.funcs[10]?).bind (compF Tryz.prog N2) from rfl, Tryz.func10]; kernel_rfl
abbrev c103x0 : List COp := [⟨some r4, none, [.c (.bool false)], .mov⟩]
abbrev c103x1 : List COp := [⟨some r5, none, [.c (.int .i64 0)], .mov⟩]
abbrev c103x2 : List COp := [⟨some r6, none, [.r r5], .mov⟩,⟨some r7, none, [.r r0], .mov⟩,⟨some r8, none, [.r r7], .lenSl⟩,⟨some r9, none, [.r r6, .r r8], (.icmp .lss)⟩]
abbrev c103x3 : List COp := [⟨some r12, none, [.r r0], .mov⟩,⟨some r13, none, [.r r5], .mov⟩,⟨some r14, none, [.r r12, .r r13], (.idxSlA 1)⟩,⟨some r15, none, [.r r14], .loadC⟩,⟨some r16, none, [.r r1], .mov⟩,⟨some r17, none, [.r r15, .r r16], (.eql false .num)⟩]
abbrev c103x4 : List COp := [⟨some r4, none, [.c (.bool true)], .mov⟩]
abbrev c103x5 : List COp := [⟨some r10, none, [.r r5], .mov⟩,⟨some r11, none, [.r r10, .c (.int .i64 1)], .add⟩,⟨some r5, none, [.r r11], .mov⟩]
abbrev c103x6 : CC := (.seq (.seq (.reg c103x2) (.cond (.r r9) .skip (.exit 0))) (.seq (.block 1 (.seq (.reg c103x3) (.cond (.r r17) (.seq (.reg c103x4) .ret) .skip))) (.reg c103x5)))
abbrev c103x7 : List COp := [⟨some r4, none, [.c (.bool false)], .mov⟩]
abbrev c103 : CC := (.seq (.reg c103x0) (.seq (.seq (.reg c103x1) (.block 0 (.loop c103x6))) (.seq (.reg c103x7) .ret)))
theorem code103 : E.func 103 = some ⟨firstPaths 2, [.tmp r4], c103⟩ := by rw [show E.func 103 = (Tryz.prog.funcs[103]?).bind (compF Tryz.prog N2) from rfl, Tryz.func103]; kernel_rfl
abbrev c102x0 : List COp := [⟨some r4, none, [.c .nils], .mov⟩]
abbrev c102x1 : List COp := [⟨some r9, none, [], (.bslice [] 3 0 [])⟩,⟨some r5, none, [.r r9], .mov⟩]
abbrev c102x2 : List COp := [⟨some r10, none, [.r r1], .mov⟩,⟨some r11, none, [.r r10, .c (.int .i64 1)], .sub⟩,⟨some r6, none, [.r r11], .mov⟩]
abbrev c102x3 : List COp := [⟨some r12, none, [.r r6], .mov⟩,⟨some r13, none, [.r r12, .c (.int .i64 0)], (.icmp .geq)⟩]
abbrev c102x4 : List COp := [⟨some r16, none, [.r r0], .mov⟩,⟨some r17, none, [.r r1], .mov⟩,⟨some r18, none, [.r r16, .r r17], (.idxSlA 5)⟩,⟨some r19, none, [.r r18], (.fieldA 0)⟩,⟨some r20, none, [.r r19], .loadC⟩,⟨some r21, none, [.r r6], .mov⟩,⟨some r22, none, [.r r20, .r r21], (.call 103)⟩,⟨some r7, none, [.r r22], .mov⟩]
abbrev c102x5 : List COp := [⟨some r8, none, [.c (.int .i64 0)], .mov⟩]
abbrev c102x6 : List COp := [⟨some r23, none, [.r r8], .mov⟩,⟨some r24, none, [.r r5], .mov⟩,⟨some r25, none, [.r r24], .lenSl⟩,⟨some r26, none, [.r r23, .r r25], (.icmp .lss)⟩]
abbrev c102x7 : List COp := [⟨some r29, none, [.r r7], .mov⟩,⟨some r30, none, [.r r29], .mov⟩,⟨some r31, (some (r30, false)), [.r r0], .mov⟩,⟨some r32, (some (r30, false)), [.r r5], .mov⟩,⟨some r33, (some (r30, false)), [.r r8], .mov⟩,⟨some r34, (some (r30, false)), [.r r32, .r r33], (.idxSlA 1)⟩,⟨some r35, (some (r30, false)), [.r r34], .loadC⟩,⟨some r36, (some (r30, false)), [.r r31, .r r35], (.idxSlA 5)⟩,⟨some r37, (some (r30, false)), [.r r36], (.fieldA 0)⟩,⟨some r38, (some (r30, false)), [.r r37], .loadC⟩,⟨some r39, (some (r30, false)), [.r r6], .mov⟩,⟨some r40, (some (r30, false)), [.r r38, .r r39], (.call 103)⟩,⟨some r41, none, [.r r30, .c (.bool true), .r r40], .pick⟩,⟨some r7, none, [.r r41], .mov⟩]
abbrev c102x8 : List COp := [⟨some r27, none, [.r r8], .mov⟩,⟨some r28, none, [.r r27, .c (.int .i64 1)], .add⟩,⟨some r8, none, [.r r28], .mov⟩]
abbrev c102x9 : CC := (.seq (.seq (.reg c102x6) (.cond (.r r26) .skip (.exit 2))) (.seq (.block 3 (.reg c102x7)) (.reg c102x8)))
abbrev c102x10 : List COp := [⟨some r42, none, [.r r7], .mov⟩]
abbrev c102x11 : List COp := [⟨some r43, none, [.r r5], .mov⟩,⟨some r44, none, [.r r6], .mov⟩,⟨some r45, none, [.r r44], (.bslice [(.int .i64 0)] 3 1 [(0, 1)])⟩,⟨some r46, none, [.r r43, .r r45], (.append 3 1)⟩,⟨some r5, none, [.r r46], .mov⟩]
abbrev c102x12 : List COp := [⟨some r14, none, [.r r6], .mov⟩,⟨some r15, none, [.r r14, .c (.int .i64 1)], .sub⟩,⟨some r6, none, [.r r15], .mov⟩]
abbrev c102x13 : CC := (.seq (.seq (.reg c102x3) (.cond (.r r13) .skip (.exit 0))) (.seq (.block 1 (.seq (.reg c102x4) (.seq (.seq (.reg c102x5) (.block 2 (.loop c102x9))) (.seq (.reg c102x10) (.cond (.r r42) (.reg c102x11) .skip))))) (.reg c102x12)))
abbrev c102x14 : List COp := [⟨some r47, none, [.r r5], .mov⟩,⟨some r4, none, [.r r47], .mov⟩]
abbrev c102 : CC := (.seq (.reg c102x0) (.seq (.reg c102x1) (.seq (.seq (.reg c102x2) (.block 0 (.loop c102x13))) (.seq (.reg c102x14) .ret))))
theorem code102 : E.func 102 = some ⟨firstPaths 2, [.tmp r4], c102⟩ := by rw [show E.func 102 = (Tryz.prog.funcs[102]?).bind (compF Tryz.prog N2) from rfl, Tryz.func102]; kernel_rfl
abbrev c61x0 : List COp := [⟨some r4, none, [.c (.int .i64 0)], .mov⟩]
abbrev c61x1 : List COp := [⟨some r10, none, [.r r0], .mov⟩,⟨some r11, none, [.r r1], .mov⟩,⟨some r12, none, [.r r10, .r r11], (.idxSlA 5)⟩,⟨some r13, none, [.r r12], (.fieldA 0)⟩,⟨some r14, none, [.r r13], .loadC⟩,⟨some r5, none, [.r r14], .mov⟩]
abbrev c61x2 : List COp := [⟨some r6, none, [.c (.int .i64 0)], .mov⟩]
abbrev c61x3 : List COp := [⟨some r15, none, [.r r6], .mov⟩,⟨some r16, none, [.r r5], .mov⟩,⟨some r17, none, [.r r16], .lenSl⟩,⟨some r18, none, [.r r15, .r r17], (.icmp .lss)⟩]
abbrev c61x4 : List COp := [⟨some r21, none, [.r r5], .mov⟩,⟨some r22, none, [.r r6], .mov⟩,⟨some r23, none, [.r r21, .r r22], (.idxSlA 1)⟩,⟨some r24, none, [.r r23], .loadC⟩,⟨some r25, none, [.r r24, .c (.int .i64 0)], (.icmp .lss)⟩,⟨some r26, none, [.r r25], .mov⟩,⟨some r27, (some (r26, false)), [.r r5], .mov⟩,⟨some r28, (some (r26, false)), [.r r6], .mov⟩,⟨some r29, (some (r26, false)), [.r r27, .r r28], (.idxSlA 1)⟩,⟨some r30, (some (r26, false)), [.r r29], .loadC⟩,⟨some r31, (some (r26, false)), [.r r1], .mov⟩,⟨some r32, (some (r26, false)), [.r r30, .r r31], (.icmp .geq)⟩,⟨some r33, none, [.r r26, .c (.bool true), .r r32], .pick⟩]
abbrev c61x5 : List COp := [⟨some r4, none, [.c (.int .i64 2)], .mov⟩]
abbrev c61x6 : List DStep := [⟨⟨some r34, none, [.r r6], .mov⟩, []⟩,⟨⟨some r35, none, [.r r34, .c (.int .i64 0)], (.icmp .gtr)⟩, []⟩,⟨⟨some r36, none, [.r r35], .mov⟩, []⟩,⟨⟨some r37, (some (r36, true)), [.r r5], .mov⟩, []⟩,⟨⟨some r38, (some (r36, true)), [.r r6], .mov⟩, []⟩,⟨⟨some r39, (some (r36, true)), [.r r38, .c (.int .i64 1)], .sub⟩, []⟩,⟨⟨some r40, (some (r36, true)), [.r r37, .r r39], (.idxSlA 1)⟩, []⟩,⟨⟨some r41, (some (r36, true)), [.r r40], .loadC⟩, []⟩,⟨⟨some r42, (some (r36, true)), [.r r5], .mov⟩, []⟩,⟨⟨some r43, (some (r36, true)), [.r r6], .mov⟩, []⟩,⟨⟨some r44, (some (r36, true)), [.r r42, .r r43], (.idxSlA 1)⟩, []⟩,⟨⟨some r45, (some (r36, true)), [.r r44], .loadC⟩, []⟩,⟨⟨some r46, (some (r36, true)), [.r r41, .r r45], (.icmp .geq)⟩, []⟩,⟨⟨some r47, none, [.r r36, .r r46, .c (.bool false)], .pick⟩, []⟩]
abbrev c61x7 : List COp := [⟨some r4, none, [.c (.int .i64 9)], .mov⟩]
abbrev c61x8 : List COp := [⟨some r19, none, [.r r6], .mov⟩,⟨some r20, none, [.r r19, .c (.int .i64 1)], .add⟩,⟨some r6, none, [.r r20], .mov⟩]
abbrev c61x9 : CC := (.seq (.seq (.reg c61x3) (.cond (.r r18) .skip (.exit 0))) (.seq (.block 1 (.seq (.seq (.reg c61x4) (.cond (.r r33) (.seq (.reg c61x5) .ret) .skip)) (.seq (.draw c61x6) (.cond (.r r47) (.seq (.reg c61x7) .ret) .skip)))) (.reg c61x8)))
abbrev c61x10 : List COp := [⟨some r7, none, [.c (.int .i64 0)], .mov⟩]
abbrev c61x11 : List COp := [⟨some r48, none, [.r r7], .mov⟩,⟨some r49, none, [.r r5], .mov⟩,⟨some r50, none, [.r r49], .lenSl⟩,⟨some r51, none, [.r r48, .r r50], (.icmp .lss)⟩]
abbrev c61x12 : List COp := [⟨some r54, none, [.r r0], .mov⟩,⟨some r55, none, [.r r5], .mov⟩,⟨some r56, none, [.r r7], .mov⟩,⟨some r57, none, [.r r55, .r r56], (.idxSlA 1)⟩,⟨some r58, none, [.r r57], .loadC⟩,⟨some r59, none, [.r r54, .r r58], (.call 102)⟩,⟨some r8, none, [.r r59], .mov⟩]
abbrev c61x13 : List COp := [⟨some r9, none, [.c (.int .i64 0)], .mov⟩]
abbrev c61x14 : List COp := [⟨some r60, none, [.r r9], .mov⟩,⟨some r61, none, [.r r7], .mov⟩,⟨some r62, none, [.r r60, .r r61], (.icmp .lss)⟩]
abbrev c61x15 : List COp := [⟨some r65, none, [.r r8], .mov⟩,⟨some r66, none, [.r r5], .mov⟩,⟨some r67, none, [.r r9], .mov⟩,⟨some r68, none, [.r r66, .r r67], (.idxSlA 1)⟩,⟨some r69, none, [.r r68], .loadC⟩,⟨some r70, none, [.r r65, .r r69], (.call 103)⟩]
abbrev c61x16 : List COp := [⟨some r4, none, [.c (.int .i64 1)], .mov⟩]
abbrev c61x17 : List COp := [⟨some r63, none, [.r r9], .mov⟩,⟨some r64, none, [.r r63, .c (.int .i64 1)], .add⟩,⟨some r9, none, [.r r64], .mov⟩]
abbrev c61x18 : CC := (.seq (.seq (.reg c61x14) (.cond (.r r62) .skip (.exit 4))) (.seq (.block 5 (.seq (.reg c61x15) (.cond (.r r70) (.seq (.reg c61x16) .ret) .skip))) (.reg c61x17)))
abbrev c61x19 : List COp := [⟨some r52, none, [.r r7], .mov⟩,⟨some r53, none, [.r r52, .c (.int .i64 1)], .add⟩,⟨some r7, none, [.r r53], .mov⟩]
abbrev c61x20 : CC := (.seq (.seq (.reg c61x11) (.cond (.r r51) .skip (.exit 2))) (.seq (.block 3 (.seq (.reg c61x12) (.seq (.reg c61x13) (.block 4 (.loop c61x18))))) (.reg c61x19)))
abbrev c61x21 : List COp := [⟨some r4, none, [.c (.int .i64 0)], .mov⟩]
abbrev c61 : CC := (.seq (.reg c61x0) (.seq (.reg c61x1) (.seq (.seq (.reg c61x2) (.block 0 (.loop c61x9))) (.seq (.seq (.reg c61x10) (.block 2 (.loop c61x20))) (.seq (.reg c61x21) .ret)))))
theorem code61 : E.func 61 = some ⟨firstPaths 2, [.tmp r4], c61⟩ := by rw [show E.func 61 = (Tryz.prog.funcs[61]?).bind (compF Tryz.prog N2) from rfl, Tryz.func61]; kernel_rfl
abbrev c33x0 : List COp := [⟨some r4, none, [.c (.int .i64 0)], .mov⟩]
abbrev c33x1 : List COp := [⟨some r7, none, [.r r0], .mov⟩,⟨some r8, none, [.r r1], .mov⟩,⟨some r9, none, [.r r7, .r r8], (.call 61)⟩,⟨some r5, none, [.r r9], .mov⟩]
abbrev c33x2 : List COp := [⟨some r10, none, [.r r5], .mov⟩,⟨some r11, none, [.r r10, .c (.int .i64 0)], (.eql true .num)⟩]
abbrev c33x3 : List COp := [⟨some r12, none, [.r r5], .mov⟩,⟨some r4, none, [.r r12], .mov⟩]
abbrev c33x4 : List COp := [⟨some r13, none, [.r r0], .mov⟩,⟨some r14, none, [.r r1], .mov⟩,⟨some r15, none, [.r r13, .r r14], (.idxSlA 5)⟩,⟨some r16, none, [.r r15], (.loadA 5)⟩,⟨some r6, none, [], (.alloc [.nils, (strOf []), (strOf []), (.int .i64 0), .nils] 33)⟩,⟨none, none, [.r r6, .r r16], (.store 5)⟩]
abbrev c33x5 : List COp := [⟨some r17, none, [.r r6], (.fieldA 1)⟩,⟨some r18, none, [.r r17], .loadC⟩,⟨some r19, none, [.r r18], (.call 62)⟩,⟨some r20, none, [.r r19], .not⟩]
abbrev c33x6 : List COp := [⟨some r4, none, [.c (.int .i64 5)], .mov⟩]
abbrev c33x7 : List COp := [⟨some r21, none, [.r r6], (.fieldA 2)⟩,⟨some r22, none, [.r r21], .loadC⟩,⟨some r23, none, [.r r22], .lenStr⟩,⟨some r24, none, [.r r23, .c (.int .i64 1000)], (.icmp .gtr)⟩]
abbrev c33x8 : List COp := [⟨some r4, none, [.c (.int .i64 4)], .mov⟩]
abbrev c33x9 : List COp := [⟨some r25, none, [.r r6], (.fieldA 3)⟩,⟨some r26, none, [.r r25], .loadC⟩,⟨some r27, none, [.r r26, .c (.int .i64 0)], (.icmp .lss)⟩,⟨some r28, none, [.r r27], .mov⟩,⟨some r29, (some (r28, false)), [.r r6], (.fieldA 3)⟩,⟨some r30, (some (r28, false)), [.r r29], .loadC⟩,⟨some r31, (some (r28, false)), [.r r30, .c (.int .i64 1099511627776)], (.icmp .gtr)⟩,⟨some r32, none, [.r r28, .c (.bool true), .r r31], .pick⟩]
abbrev c33x10 : List COp := [⟨some r4, none, [.c (.int .i64 2)], .mov⟩]
abbrev c33x11 : List COp := [⟨some r33, none, [.r r6], (.fieldA 4)⟩,⟨some r34, none, [.r r33], .loadC⟩,⟨some r35, none, [.r r34], (.call 63)⟩,⟨some r4, none, [.r r35], .mov⟩]
abbrev c33 : CC := (.seq (.reg c33x0) (.seq (.seq (.reg c33x1) (.seq (.reg c33x2) (.cond (.r r11) (.seq (.reg c33x3) .ret) .skip))) (.seq (.reg c33x4) (.seq (.seq (.reg c33x5) (.cond (.r r20) (.seq (.reg c33x6) .ret) .skip)) (.seq (.seq (.reg c33x7) (.cond (.r r24) (.seq (.reg c33x8) .ret) .skip)) (.seq (.seq (.reg c33x9) (.cond (.r r32) (.seq (.reg c33x10) .ret) .skip)) (.seq (.reg c33x11) .ret)))))))
theorem code33 : E.func 33 = some ⟨firstPaths 2, [.tmp r4], c33⟩ := by rw [show E.func 33 = (Tryz.prog.funcs[33]?).bind (compF Tryz.prog N2) from rfl, Tryz.func33]; kernel_rfl
abbrev c19x0 : List COp := [⟨some r2, none, [.c (.int .i64 0)], .mov⟩,⟨some r3, none, [.c (.int .i64 0)], .mov⟩]
abbrev c19x1 : List COp := [⟨some r6, none, [.r r0], .mov⟩,⟨some r7, none, [.r r6], .lenSl⟩,⟨some r8, none, [.r r7, .c (.int .i64 400)], (.icmp .gtr)⟩]
abbrev c19x2 : List COp := [⟨some r2, none, [.c (.int .i64 0)], .mov⟩,⟨some r3, none, [.c (.int .i64 4)], .mov⟩]
abbrev c19x3 : List COp := [⟨some r4, none, [.c (.int .i64 0)], .mov⟩]
abbrev c19x4 : List COp := [⟨some r9, none, [.r r4], .mov⟩,⟨some r10, none, [.r r0], .mov⟩,⟨some r11, none, [.r r10], .lenSl⟩,⟨some r12, none, [.r r9, .r r11], (.icmp .lss)⟩]
abbrev c19x5 : List COp := [⟨some r15, none, [.r r0], .mov⟩,⟨some r16, none, [.r r4], .mov⟩,⟨some r17, none, [.r r15, .r r16], (.call 33)⟩,⟨some r5, none, [.r r17], .mov⟩]
abbrev c19x6 : List COp := [⟨some r18, none, [.r r5], .mov⟩,⟨some r19, none, [.r r18, .c (.int .i64 0)], (.eql true .num)⟩]
abbrev c19x7 : List COp := [⟨some r20, none, [.r r4], .mov⟩,⟨some r21, none, [.r r5], .mov⟩,⟨some r2, none, [.r r20], .mov⟩,⟨some r3, none, [.r r21], .mov⟩]
abbrev c19x8 : List COp := [⟨some r13, none, [.r r4], .mov⟩,⟨some r14, none, [.r r13, .c (.int .i64 1)], .add⟩,⟨some r4, none, [.r r14], .mov⟩]
abbrev c19x9 : CC := (.seq (.seq (.reg c19x4) (.cond (.r r12) .skip (.exit 0))) (.seq (.block 1 (.seq (.reg c19x5) (.seq (.reg c19x6) (.cond (.r r19) (.seq (.reg c19x7) .ret) .skip)))) (.reg c19x8)))
abbrev c19x10 : List COp := [⟨some r2, none, [.c (.int .i64 0)], .mov⟩,⟨some r3, none, [.c (.int .i64 0)], .mov⟩]
abbrev c19 : CC := (.seq (.reg c19x0) (.seq (.seq (.reg c19x1) (.cond (.r r8) (.seq (.reg c19x2) .ret) .skip)) (.seq (.seq (.reg c19x3) (.block 0 (.loop c19x9))) (.seq (.reg c19x10) .ret))))
theorem code19 : E.func 19 = some ⟨firstPaths 1, [.tmp r2, .tmp r3], c19⟩ := by rw [show E.func 19 = (Tryz.prog.funcs[19]?).bind (compF Tryz.prog N2) from rfl, Tryz.func19]; kernel_rfl
abbrev c9x0 : List COp := [⟨some r2, none, [.c (.int .i64 0)], .mov⟩]
abbrev c9x1 : List COp := [⟨some r6, none, [.r r0], .mov⟩,⟨some r7, none, [.r r6], (.call 19)⟩,⟨some r5, none, [.r r7], .mov⟩,⟨some r8, none, [.r r5], (.extract 0)⟩,⟨some r9, none, [.r r5], (.extract 1)⟩,⟨some r3, none, [.r r8], .mov⟩,⟨some r4, none, [.r r9], .mov⟩]
abbrev c9x2 : List COp := [⟨some r10, none, [.r r4], .mov⟩,⟨some r2, none, [.r r10], .mov⟩]
abbrev c9 : CC := (.seq (.reg c9x0) (.seq (.reg c9x1) (.seq (.reg c9x2) .ret)))
theorem code9 : E.func 9 = some ⟨firstPaths 1, [.tmp r2], c9⟩ := by rw [show E.func 9 = (Tryz.prog.funcs[9]?).bind (compF Tryz.prog N2) from rfl, Tryz.func9]; kernel_rfl
abbrev c62x0 : List COp := [⟨some r2, none, [.c (.bool false)], .mov⟩]
abbrev c62x1 : List COp := [⟨some r3, none, [.c (.int .i64 0)], .mov⟩]
abbrev c62x2 : List COp := [⟨some r5, none, [.r r3], .mov⟩,⟨some r6, none, [.r r0], .mov⟩,⟨some r7, none, [.r r6], .lenStr⟩,⟨some r8, none, [.r r5, .r r7], (.icmp .lss)⟩]
abbrev c62x3 : List COp := [⟨some r11, none, [.r r0], .mov⟩,⟨some r12, none, [.r r3], .mov⟩,⟨some r13, none, [.r r11, .r r12], .idxStr⟩,⟨some r4, none, [.r r13], .mov⟩]
abbrev c62x4 : List COp := [⟨some r14, none, [.r r4], .mov⟩,⟨some r15, none, [.r r14, .c (.int .u8 97)], (.icmp .geq)⟩,⟨some r16, none, [.r r15], .mov⟩,⟨some r17, (some (r16, true)), [.r r4], .mov⟩,⟨some r18, (some (r16, true)), [.r r17, .c (.int .u8 122)], (.icmp .leq)⟩,⟨some r19, none, [.r r16, .r r18, .c (.bool false)], .pick⟩,⟨some r20, none, [.r r19], .mov⟩,⟨some r21, (some (r20, false)), [.r r4], .mov⟩,⟨some r22, (some (r20, false)), [.r r21, .c (.int .u8 65)], (.icmp .geq)⟩,⟨some r23, (some (r20, false)), [.r r22], .mov⟩,⟨some r24, (some (r23, true)), [.r r4], .mov⟩,⟨some r25, (some (r23, true)), [.r r24, .c (.int .u8 90)], (.icmp .leq)⟩,⟨some r26, (some (r20, false)), [.r r23, .r r25, .c (.bool false)], .pick⟩,⟨some r27, none, [.r r20, .c (.bool true), .r r26], .pick⟩,⟨some r28, none, [.r r27], .mov⟩,⟨some r29, (some (r28, false)), [.r r4], .mov⟩,⟨some r30, (some (r28, false)), [.r r29, .c (.int .u8 48)], (.icmp .geq)⟩,⟨some r31, (some (r28, false)), [.r r30], .mov⟩,⟨some r32, (some (r31, true)), [.r r4], .mov⟩,⟨some r33, (some (r31, true)), [.r r32, .c (.int .u8 57)], (.icmp .leq)⟩,⟨some r34, (some (r28, false)), [.r r31, .r r33, .c (.bool false)], .pick⟩,⟨some r35, none, [.r r28, .c (.bool true), .r r34], .pick⟩,⟨some r36, none, [.r r35], .mov⟩,⟨some r37, (some (r36, false)), [.r r4], .mov⟩,⟨some r38, (some (r36, false)), [.r r37, .c (.int .u8 46)], (.eql false .num)⟩,⟨some r39, none, [.r r36, .c (.bool true), .r r38], .pick⟩,⟨some r40, none, [.r r39], .mov⟩,⟨some r41, (some (r40, false)), [.r r4], .mov⟩,⟨some r42, (some (r40, false)), [.r r41, .c (.int .u8 95)], (.eql false .num)⟩,⟨some r43, none, [.r r40, .c (.bool true), .r r42], .pick⟩,⟨some r44, none, [.r r43], .mov⟩,⟨some r45, (some (r44, false)), [.r r4], .mov⟩,⟨some r46, (some (r44, false)), [.r r45, .c (.int .u8 45)], (.eql false .num)⟩,⟨some r47, none, [.r r44, .c (.bool true), .r r46], .pick⟩,⟨some r48, none, [.r r47], .not⟩]
abbrev c62x5 : List COp := [⟨some r2, none, [.c (.bool false)], .mov⟩]
abbrev c62x6 : List COp := [⟨some r9, none, [.r r3], .mov⟩,⟨some r10, none, [.r r9, .c (.int .i64 1)], .add⟩,⟨some r3, none, [.r r10], .mov⟩]
abbrev c62x7 : CC := (.seq (.seq (.reg c62x2) (.cond (.r r8) .skip (.exit 0))) (.seq (.block 1 (.seq (.reg c62x3) (.seq (.reg c62x4) (.cond (.r r48) (.seq (.reg c62x5) .ret) .skip)))) (.reg c62x6)))
abbrev c62x8 : List COp := [⟨some r49, none, [.r r0], .mov⟩,⟨some r50, none, [.r r49], .lenStr⟩,⟨some r51, none, [.r r50, .c (.int .i64 1)], (.icmp .geq)⟩,⟨some r52, none, [.r r51], .mov⟩,⟨some r53, (some (r52, true)), [.r r0], .mov⟩,⟨some r54, (some (r52, true)), [.r r53], .lenStr⟩,⟨some r55, (some (r52, true)), [.r r54, .c (.int .i64 40)], (.icmp .leq)⟩,⟨some r56, none, [.r r52, .r r55, .c (.bool false)], .pick⟩,⟨some r57, none, [.r r56], .mov⟩,⟨some r58, (some (r57, true)), [.r r0], .mov⟩,⟨some r59, (some (r57, true)), [.r r58, .c (strOf [46])], (.eql true .num)⟩,⟨some r60, none, [.r r57, .r r59, .c (.bool false)], .pick⟩,⟨some r61, none, [.r r60], .mov⟩,⟨some r62, (some (r61, true)), [.r r0], .mov⟩,⟨some r63, (some (r61, true)), [.r r62, .c (strOf [46, 46])], (.eql true .num)⟩,⟨some r64, none, [.r r61, .r r63, .c (.bool false)], .pick⟩,⟨some r2, none, [.r r64], .mov⟩]
abbrev c62 : CC := (.seq (.reg c62x0) (.seq (.seq (.reg c62x1) (.block 0 (.loop c62x7))) (.seq (.reg c62x8) .ret)))
theorem code62 : E.func 62 = some ⟨firstPaths 1, [.tmp r2], c62⟩ := by rw [show E.func 62 = (Tryz.prog.funcs[62]?).bind (compF Tryz.prog N2) from rfl, Tryz.func62]; kernel_rfl
abbrev c180x0 : List COp := [⟨some r2, none, [.c (.bool false)], .mov⟩]
abbrev c180x1 : List COp := [⟨some r5, none, [.r r0], .mov⟩,⟨some r6, none, [.r r5], .lenStr⟩,⟨some r7, none, [.r r6, .c (.int .i64 200)], (.icmp .gtr)⟩]
abbrev c180x2 : List COp := [⟨some r2, none, [.c (.bool false)], .mov⟩]
abbrev c180x3 : List COp := [⟨some r3, none, [.c (.int .i64 0)], .mov⟩]
abbrev c180x4 : List COp := [⟨some r4, none, [.c (.int .i64 0)], .mov⟩]
abbrev c180x5 : List COp := [⟨some r8, none, [.r r4], .mov⟩,⟨some r9, none, [.r r0], .mov⟩,⟨some r10, none, [.r r9], .lenStr⟩,⟨some r11, none, [.r r8, .r r10], (.icmp .leq)⟩]
abbrev c180x6 : List COp := [⟨some r14, none, [.r r4], .mov⟩,⟨some r15, none, [.r r0], .mov⟩,⟨some r16, none, [.r r15], .lenStr⟩,⟨some r17, none, [.r r14, .r r16], (.icmp .lss)⟩,⟨some r18, none, [.r r17], .mov⟩,⟨some r19, (some (r18, true)), [.r r0], .mov⟩,⟨some r20, (some (r18, true)), [.r r4], .mov⟩,⟨some r21, (some (r18, true)), [.r r19, .r r20], .idxStr⟩,⟨some r22, (some (r18, true)), [.r r21, .c (.int .u8 47)], (.eql true .num)⟩,⟨some r23, none, [.r r18, .r r22, .c (.bool false)], .pick⟩]
abbrev c180x7 : List COp := [⟨some r24, none, [.r r0], .mov⟩,⟨some r25, none, [.r r3], .mov⟩,⟨some r26, none, [.r r4], .mov⟩,⟨some r27, none, [.r r24, .r r26, .r r25], (.sliceStr true true)⟩,⟨some r28, none, [.r r27], (.call 62)⟩,⟨some r29, none, [.r r28], .not⟩]
abbrev c180x8 : List COp := [⟨some r2, none, [.c (.bool false)], .mov⟩]
abbrev c180x9 : List COp := [⟨some r30, none, [.r r4], .mov⟩,⟨some r31, none, [.r r30, .c (.int .i64 1)], .add⟩,⟨some r3, none, [.r r31], .mov⟩]
abbrev c180x10 : List COp := [⟨some r12, none, [.r r4], .mov⟩,⟨some r13, none, [.r r12, .c (.int .i64 1)], .add⟩,⟨some r4, none, [.r r13], .mov⟩]
abbrev c180x11 : CC := (.seq (.seq (.reg c180x5) (.cond (.r r11) .skip (.exit 0))) (.seq (.block 1 (.seq (.seq (.reg c180x6) (.cond (.r r23) (.exit 1) .skip)) (.seq (.seq (.reg c180x7) (.cond (.r r29) (.seq (.reg c180x8) .ret) .skip)) (.reg c180x9)))) (.reg c180x10)))
abbrev c180x12 : List COp := [⟨some r2, none, [.c (.bool true)], .mov⟩]
abbrev c180 : CC := (.seq (.reg c180x0) (.seq (.seq (.reg c180x1) (.cond (.r r7) (.seq (.reg c180x2) .ret) .skip)) (.seq (.reg c180x3) (.seq (.seq (.reg c180x4) (.block 0 (.loop c180x11))) (.seq (.reg c180x12) .ret)))))
theorem code180 : E.func 180 = some ⟨firstPaths 1, [.tmp r2], c180⟩ := by rw [show E.func 180 = (Tryz.prog.funcs[180]?).bind (compF Tryz.prog N2) from rfl, Tryz.func180]; kernel_rfl
abbrev c181x0 : List COp := [⟨some r4, none, [.c (.int .i64 0)], .mov⟩]
abbrev c181x1 : List COp := [⟨some r5, none, [.r r1], .mov⟩,⟨some r6, none, [.r r5], .lenStr⟩,⟨some r7, none, [.r r6, .c (.int .i64 65536)], (.icmp .gtr)⟩]
abbrev c181x2 : List COp := [⟨some r4, none, [.c (.int .i64 4)], .mov⟩]
abbrev c181x3 : List COp := [⟨some r8, none, [.r r0], .mov⟩,⟨some r9, none, [.r r8, .c (.int .i64 1)], (.eql false .num)⟩,⟨some r10, none, [.r r9], .mov⟩,⟨some r11, (some (r10, true)), [.r r1], .mov⟩,⟨some r12, (some (r10, true)), [.r r11], (.call 265)⟩,⟨some r13, (some (r10, true)), [.r r12], .not⟩,⟨some r14, none, [.r r10, .r r13, .c (.bool false)], .pick⟩]
abbrev c181x4 : List COp := [⟨some r4, none, [.c (.int .i64 3)], .mov⟩]
abbrev c181x5 : List COp := [⟨some r4, none, [.c (.int .i64 0)], .mov⟩]
abbrev c181 : CC := (.seq (.reg c181x0) (.seq (.seq (.reg c181x1) (.cond (.r r7) (.seq (.reg c181x2) .ret) .skip)) (.seq (.seq (.reg c181x3) (.cond (.r r14) (.seq (.reg c181x4) .ret) .skip)) (.seq (.reg c181x5) .ret))))
theorem code181 : E.func 181 = some ⟨firstPaths 2, [.tmp r4], c181⟩ := by rw [show E.func 181 = (Tryz.prog.funcs[181]?).bind (compF Tryz.prog N2) from rfl, Tryz.func181]; kernel_rfl
abbrev c104x0 : List COp := [⟨some r1, none, [.r r0], (.box 36)⟩,⟨some r2, none, [.c (.int .i64 0)], .mov⟩]
abbrev c104x1 : List COp := [⟨some r3, none, [.r r1], (.fieldA 0)⟩,⟨some r4, none, [.r r3], .loadC⟩,⟨some r5, none, [.r r4], (.call 180)⟩,⟨some r6, none, [.r r5], .not⟩]
abbrev c104x2 : List COp := [⟨some r2, none, [.c (.int .i64 5)], .mov⟩]
abbrev c104x3 : List COp := [⟨some r7, none, [.r r1], (.fieldA 1)⟩,⟨some r8, none, [.r r7], .loadC⟩,⟨some r9, none, [.r r8, .c (.int .i64 1)], (.icmp .lss)⟩,⟨some r10, none, [.r r9], .mov⟩,⟨some r11, (some (r10, false)), [.r r1], (.fieldA 1)⟩,⟨some r12, (some (r10, false)), [.r r11], .loadC⟩,⟨some r13, (some (r10, false)), [.r r12, .c (.int .i64 4)], (.icmp .gtr)⟩,⟨some r14, none, [.r r10, .c (.bool true), .r r13], .pick⟩]
abbrev c104x4 : List COp := [⟨some r2, none, [.c (.int .i64 8)], .mov⟩]
abbrev c104x5 : List COp := [⟨some r15, none, [.r r1], (.fieldA 2)⟩,⟨some r16, none, [.r r15], .loadC⟩,⟨some r17, none, [.r r16, .c (.int .i64 0)], (.icmp .lss)⟩,⟨some r18, none, [.r r17], .mov⟩,⟨some r19, (some (r18, false)), [.r r1], (.fieldA 2)⟩,⟨some r20, (some (r18, false)), [.r r19], .loadC⟩,⟨some r21, (some (r18, false)), [.r r20, .c (.int .i64 511)], (.icmp .gtr)⟩,⟨some r22, none, [.r r18, .c (.bool true), .r r21], .pick⟩]
abbrev c104x6 : List COp := [⟨some r2, none, [.c (.int .i64 2)], .mov⟩]
abbrev c104x7 : List COp := [⟨some r23, none, [.r r1], (.fieldA 1)⟩,⟨some r24, none, [.r r23], .loadC⟩,⟨some r25, none, [.r r24, .c (.int .i64 4)], (.eql false .num)⟩,⟨some r26, none, [.r r25], .mov⟩,⟨some r27, (some (r26, true)), [.r r1], (.fieldA 2)⟩,⟨some r28, (some (r26, true)), [.r r27], .loadC⟩,⟨some r29, (some (r26, true)), [.r r28, .c (.int .i64 0)], (.eql true .num)⟩,⟨some r30, (some (r26, true)), [.r r29], .mov⟩,⟨some r31, (some (r30, false)), [.r r1], (.fieldA 3)⟩,⟨some r32, (some (r30, false)), [.r r31], .loadC⟩,⟨some r33, (some (r30, false)), [.r r32, .c (strOf [])], (.eql true .num)⟩,⟨some r34, (some (r26, true)), [.r r30, .c (.bool true), .r r33], .pick⟩,⟨some r35, none, [.r r26, .r r34, .c (.bool false)], .pick⟩]
abbrev c104x8 : List COp := [⟨some r2, none, [.c (.int .i64 1)], .mov⟩]
abbrev c104x9 : List COp := [⟨some r36, none, [.r r1], (.fieldA 1)⟩,⟨some r37, none, [.r r36], .loadC⟩,⟨some r38, none, [.r r1], (.fieldA 3)⟩,⟨some r39, none, [.r r38], .loadC⟩,⟨some r40, none, [.r r37, .r r39], (.call 181)⟩,⟨some r2, none, [.r r40], .mov⟩]
abbrev c104 : CC := (.seq (.reg c104x0) (.seq (.seq (.reg c104x1) (.cond (.r r6) (.seq (.reg c104x2) .ret) .skip)) (.seq (.seq (.reg c104x3) (.cond (.r r14) (.seq (.reg c104x4) .ret) .skip)) (.seq (.seq (.reg c104x5) (.cond (.r r22) (.seq (.reg c104x6) .ret) .skip)) (.seq (.seq (.reg c104x7) (.cond (.r r35) (.seq (.reg c104x8) .ret) .skip)) (.seq (.reg c104x9) .ret))))))
theorem code104 : E.func 104 = some ⟨firstPaths 1, [.tmp r2], c104⟩ := by rw [show E.func 104 = (Tryz.prog.funcs[104]?).bind (compF Tryz.prog N2) from rfl, Tryz.func104]; kernel_rfl
abbrev c105x0 : List COp := [⟨some r4, none, [.c (.int .i64 0)], .mov⟩]
abbrev c105x1 : List COp := [⟨some r7, none, [.r r1], .mov⟩,⟨some r8, none, [.r r7], (.call 182)⟩,⟨some r9, none, [.r r8, .c (strOf [])], (.eql false .num)⟩]
abbrev c105x2 : List COp := [⟨some r4, none, [.c (.int .i64 0)], .mov⟩]
abbrev c105x3 : List COp := [⟨some r11, none, [.r r0], .mov⟩,⟨some r12, none, [.r r1], .mov⟩,⟨some r13, none, [.r r12], (.call 182)⟩,⟨some r14, none, [.r r11, .r r13], (.call 183)⟩,⟨some r10, none, [.r r14], .mov⟩,⟨some r15, none, [.r r10], (.extract 0)⟩,⟨some r16, none, [.r r10], (.extract 1)⟩,⟨some r5, none, [], (.alloc [(strOf []), (.int .i64 0), (.int .i64 0), (strOf [])] 36)⟩,⟨none, none, [.r r5, .r r15], (.store 4)⟩,⟨some r6, none, [.r r16], .mov⟩]
abbrev c105x4 : List COp := [⟨some r17, none, [.r r6], .mov⟩,⟨some r18, none, [.r r17], .not⟩]
abbrev c105x5 : List COp := [⟨some r4, none, [.c (.int .i64 7)], .mov⟩]
abbrev c105x6 : List COp := [⟨some r19, none, [.r r5], (.fieldA 1)⟩,⟨some r20, none, [.r r19], .loadC⟩,⟨some r21, none, [.r r20, .c (.int .i64 4)], (.eql true .num)⟩]
abbrev c105x7 : List COp := [⟨some r4, none, [.c (.int .i64 8)], .mov⟩]
abbrev c105x8 : List COp := [⟨some r4, none, [.c (.int .i64 0)], .mov⟩]
abbrev c105 : CC := (.seq (.reg c105x0) (.seq (.seq (.reg c105x1) (.cond (.r r9) (.seq (.reg c105x2) .ret) .skip)) (.seq (.reg c105x3) (.seq (.seq (.reg c105x4) (.cond (.r r18) (.seq (.reg c105x5) .ret) .skip)) (.seq (.seq (.reg c105x6) (.cond (.r r21) (.seq (.reg c105x7) .ret) .skip)) (.seq (.reg c105x8) .ret))))))
theorem code105 : E.func 105 = some ⟨firstPaths 2, [.tmp r4], c105⟩ := by rw [show E.func 105 = (Tryz.prog.funcs[105]?).bind (compF Tryz.prog N2) from rfl, Tryz.func105]; kernel_rfl
abbrev c182x0 : List COp := [⟨some r2, none, [.c (strOf [])], .mov⟩]
abbrev c182x1 : List COp := [⟨some r4, none, [.r r0], .mov⟩,⟨some r5, none, [.r r4], .lenStr⟩,⟨some r6, none, [.r r5, .c (.int .i64 1)], .sub⟩,⟨some r3, none, [.r r6], .mov⟩]
abbrev c182x2 : List COp := [⟨some r7, none, [.r r3], .mov⟩,⟨some r8, none, [.r r7, .c (.int .i64 0)], (.icmp .geq)⟩]
abbrev c182x3 : List COp := [⟨some r11, none, [.r r0], .mov⟩,⟨some r12, none, [.r r3], .mov⟩,⟨some r13, none, [.r r11, .r r12], .idxStr⟩,⟨some r14, none, [.r r13, .c (.int .u8 47)], (.eql false .num)⟩]
abbrev c182x4 : List COp := [⟨some r15, none, [.r r0], .mov⟩,⟨some r16, none, [.r r3], .mov⟩,⟨some r17, none, [.r r15, .r r16], (.sliceStr false true)⟩,⟨some r2, none, [.r r17], .mov⟩]
abbrev c182x5 : List COp := [⟨some r9, none, [.r r3], .mov⟩,⟨some r10, none, [.r r9, .c (.int .i64 1)], .sub⟩,⟨some r3, none, [.r r10], .mov⟩]
abbrev c182x6 : CC := (.seq (.seq (.reg c182x2) (.cond (.r r8) .skip (.exit 0))) (.seq (.block 1 (.seq (.reg c182x3) (.cond (.r r14) (.seq (.reg c182x4) .ret) .skip))) (.reg c182x5)))
abbrev c182x7 : List COp := [⟨some r2, none, [.c (strOf [])], .mov⟩]
abbrev c182 : CC := (.seq (.reg c182x0) (.seq (.seq (.reg c182x1) (.block 0 (.loop c182x6))) (.seq (.reg c182x7) .ret)))
theorem code182 : E.func 182 = some ⟨firstPaths 1, [.tmp r2], c182⟩ := by rw [show E.func 182 = (Tryz.prog.funcs[182]?).bind (compF Tryz.prog N2) from rfl, Tryz.func182]; kernel_rfl
abbrev c183x0 : List COp := [⟨some r4, none, [], (.alloc [(strOf []), (.int .i64 0), (.int .i64 0), (strOf [])] 36)⟩,⟨some r5, none, [.c (.bool false)], .mov⟩]
abbrev c183x1 : List COp := [⟨some r6, none, [.c (.int .i64 0)], .mov⟩]
abbrev c183x2 : List COp := [⟨some r7, none, [.r r6], .mov⟩,⟨some r8, none, [.r r0], .mov⟩,⟨some r9, none, [.r r8], .lenSl⟩,⟨some r10, none, [.r r7, .r r9], (.icmp .lss)⟩]
abbrev c183x3 : List COp := [⟨some r13, none, [.r r0], .mov⟩,⟨some r14, none, [.r r6], .mov⟩,⟨some r15, none, [.r r13, .r r14], (.idxSlA 4)⟩,⟨some r16, none, [.r r15], (.fieldA 0)⟩,⟨some r17, none, [.r r16], .loadC⟩,⟨some r18, none, [.r r1], .mov⟩,⟨some r19, none, [.r r17, .r r18], (.eql false .num)⟩]
abbrev c183x4 : List COp := [⟨some r20, none, [.r r0], .mov⟩,⟨some r21, none, [.r r6], .mov⟩,⟨some r22, none, [.r r20, .r r21], (.idxSlA 4)⟩,⟨some r23, none, [.r r22], (.loadA 4)⟩,⟨none, none, [.r r4, .r r23], (.store 4)⟩,⟨some r5, none, [.c (.bool true)], .mov⟩]
abbrev c183x5 : List COp := [⟨some r11, none, [.r r6], .mov⟩,⟨some r12, none, [.r r11, .c (.int .i64 1)], .add⟩,⟨some r6, none, [.r r12], .mov⟩]
abbrev c183x6 : CC := (.seq (.seq (.reg c183x2) (.cond (.r r10) .skip (.exit 0))) (.seq (.block 1 (.seq (.reg c183x3) (.cond (.r r19) (.seq (.reg c183x4) .ret) .skip))) (.reg c183x5)))
abbrev c183x7 : List COp := [⟨some r24, none, [], (.build [(strOf []), (.int .i64 0), (.int .i64 0), (strOf [])] [])⟩,⟨none, none, [.r r4, .r r24], (.store 4)⟩,⟨some r5, none, [.c (.bool false)], .mov⟩]
abbrev c183 : CC := (.seq (.reg c183x0) (.seq (.seq (.reg c183x1) (.block 0 (.loop c183x6))) (.seq (.reg c183x7) .ret)))
theorem code183 : E.func 183 = some ⟨firstPaths 2, [.cellA 4 r4, .tmp r5], c183⟩ := by rw [show E.func 183 = (Tryz.prog.funcs[183]?).bind (compF Tryz.prog N2) from rfl, Tryz.func183]; kernel_rfl
abbrev c63x0 : List COp := [⟨some r2, none, [.c (.int .i64 0)], .mov⟩]
abbrev c63x1 : List COp := [⟨some r5, none, [.r r0], .mov⟩,⟨some r6, none, [.r r5], .lenSl⟩,⟨some r7, none, [.r r6, .c (.int .i64 200)], (.icmp .gtr)⟩]
abbrev c63x2 : List COp := [⟨some r2, none, [.c (.int .i64 4)], .mov⟩]
abbrev c63x3 : List COp := [⟨some r3, none, [.c (.int .i64 0)], .mov⟩]
abbrev c63x4 : List COp := [⟨some r8, none, [.r r3], .mov⟩,⟨some r9, none, [.r r0], .mov⟩,⟨some r10, none, [.r r9], .lenSl⟩,⟨some r11, none, [.r r8, .r r10], (.icmp .lss)⟩]
abbrev c63x5 : List COp := [⟨some r14, none, [.r r0], .mov⟩,⟨some r15, none, [.r r3], .mov⟩,⟨some r16, none, [.r r14, .r r15], (.idxSlA 4)⟩,⟨some r17, none, [.r r16], (.loadA 4)⟩,⟨some r18, none, [.r r17], (.call 104)⟩,⟨some r4, none, [.r r18], .mov⟩]
abbrev c63x6 : List COp := [⟨some r19, none, [.r r4], .mov⟩,⟨some r20, none, [.r r19, .c (.int .i64 0)], (.eql true .num)⟩]
abbrev c63x7 : List COp := [⟨some r21, none, [.r r4], .mov⟩,⟨some r2, none, [.r r21], .mov⟩]
abbrev c63x8 : List DStep := [⟨⟨some r22, none, [.r r3], .mov⟩, []⟩,⟨⟨some r23, none, [.r r22, .c (.int .i64 0)], (.icmp .gtr)⟩, []⟩,⟨⟨some r24, none, [.r r23], .mov⟩, []⟩,⟨⟨some r25, (some (r24, true)), [.r r0], .mov⟩, []⟩,⟨⟨some r26, (some (r24, true)), [.r r3], .mov⟩, []⟩,⟨⟨some r27, (some (r24, true)), [.r r26, .c (.int .i64 1)], .sub⟩, []⟩,⟨⟨some r28, (some (r24, true)), [.r r25, .r r27], (.idxSlA 4)⟩, []⟩,⟨⟨some r29, (some (r24, true)), [.r r28], (.fieldA 0)⟩, []⟩,⟨⟨some r30, (some (r24, true)), [.r r29], .loadC⟩, []⟩,⟨⟨some r31, (some (r24, true)), [.r r0], .mov⟩, []⟩,⟨⟨some r32, (some (r24, true)), [.r r3], .mov⟩, []⟩,⟨⟨some r33, (some (r24, true)), [.r r31, .r r32], (.idxSlA 4)⟩, []⟩,⟨⟨some r34, (some (r24, true)), [.r r33], (.fieldA 0)⟩, []⟩,⟨⟨some r35, (some (r24, true)), [.r r34], .loadC⟩, []⟩,⟨⟨some r36, (some (r24, true)), [.r r30, .r r35], (.scmp .geq)⟩, []⟩,⟨⟨some r37, none, [.r r24, .r r36, .c (.bool false)], .pick⟩, []⟩]
abbrev c63x9 : List COp := [⟨some r2, none, [.c (.int .i64 9)], .mov⟩]
abbrev c63x10 : List DStep := [⟨⟨some r38, none, [.r r0], .mov⟩, []⟩,⟨⟨some r39, none, [.r r3], .mov⟩, []⟩,⟨⟨some r40, none, [.r r38, .r r39], (.sliceSl 4 false true false)⟩, []⟩,⟨⟨some r41, none, [.r r0], .mov⟩, []⟩,⟨⟨some r42, none, [.r r3], .mov⟩, []⟩,⟨⟨some r43, none, [.r r41, .r r42], (.idxSlA 4)⟩, []⟩,⟨⟨some r44, none, [.r r43], (.fieldA 0)⟩, []⟩,⟨⟨some r45, none, [.r r44], .loadC⟩, []⟩,⟨⟨some r46, none, [.r r40, .r r45], (.call 105)⟩, []⟩,⟨⟨some r47, none, [.r r46, .c (.int .i64 0)], (.eql true .num)⟩, []⟩]
abbrev c63x11 : List COp := [⟨some r2, none, [.c (.int .i64 7)], .mov⟩]
abbrev c63x12 : List COp := [⟨some r12, none, [.r r3], .mov⟩,⟨some r13, none, [.r r12, .c (.int .i64 1)], .add⟩,⟨some r3, none, [.r r13], .mov⟩]
abbrev c63x13 : CC := (.seq (.seq (.reg c63x4) (.cond (.r r11) .skip (.exit 0))) (.seq (.block 1 (.seq (.seq (.reg c63x5) (.seq (.reg c63x6) (.cond (.r r20) (.seq (.reg c63x7) .ret) .skip))) (.seq (.seq (.draw c63x8) (.cond (.r r37) (.seq (.reg c63x9) .ret) .skip)) (.seq (.draw c63x10) (.cond (.r r47) (.seq (.reg c63x11) .ret) .skip))))) (.reg c63x12)))
abbrev c63x14 : List COp := [⟨some r2, none, [.c (.int .i64 0)], .mov⟩]
abbrev c63 : CC := (.seq (.reg c63x0) (.seq (.seq (.reg c63x1) (.cond (.r r7) (.seq (.reg c63x2) .ret) .skip)) (.seq (.seq (.reg c63x3) (.block 0 (.loop c63x13))) (.seq (.reg c63x14) .ret))))
theorem code63 : E.func 63 = some ⟨firstPaths 1, [.tmp r2], c63⟩ := by rw [show E.func 63 = (Tryz.prog.funcs[63]?).bind (compF Tryz.prog N2) from rfl, Tryz.func63]; kernel_rfl
abbrev c265x0 : List COp := [⟨some r2, none, [.c (.bool false)], .mov⟩]
abbrev c265x1 : List COp := [⟨some r6, none, [.r r0], .mov⟩,⟨some r7, none, [.r r6], (.call 372)⟩,⟨some r5, none, [.r r7], .mov⟩,⟨some r8, none, [.r r5], (.extract 0)⟩,⟨some r9, none, [.r r5], (.extract 1)⟩,⟨some r3, none, [.r r8], .mov⟩,⟨some r4, none, [.r r9], .mov⟩]
abbrev c265x2 : List COp := [⟨some r10, none, [.r r4], .mov⟩,⟨some r11, none, [.r r10, .c (.int .i64 0)], (.eql false .num)⟩,⟨some r2, none, [.r r11], .mov⟩]
abbrev c265 : CC := (.seq (.reg c265x0) (.seq (.reg c265x1) (.seq (.reg c265x2) .ret)))
theorem code265 : E.func 265 = some ⟨firstPaths 1, [.tmp r2], c265⟩ := by rw [show E.func 265 = (Tryz.prog.funcs[265]?).bind (compF Tryz.prog N2) from rfl, Tryz.func265]; kernel_rfl
abbrev c372x0 : List COp := [⟨some r2, none, [.c .nils], .mov⟩,⟨some r3, none, [.c (.int .i64 0)], .mov⟩]
abbrev c372x1 : List COp := [⟨some r6, none, [.r r0], .mov⟩,⟨some r7, none, [.r r6], .lenStr⟩,⟨some r8, none, [.r r7, .c (.int .i64 65536)], (.icmp .gtr)⟩]
abbrev c372x2 : List COp := [⟨some r9, none, [], (.bslice [] 9 0 [])⟩,⟨some r2, none, [.r r9], .mov⟩,⟨some r3, none, [.c (.int .i64 4)], .mov⟩]
abbrev c372x3 : List COp := [⟨some r10, none, [.r r0], .mov⟩,⟨some r11, none, [.r r10, .c (.int .u8 0), .c (.int .u8 0)], (.call 477)⟩,⟨some r12, none, [.r r11], .not⟩,⟨some r13, none, [.r r12], .mov⟩,⟨some r14, (some (r13, false)), [.r r0], .mov⟩,⟨some r15, (some (r13, false)), [.r r14, .c (strOf [])], (.eql true .num)⟩,⟨some r16, (some (r13, false)), [.r r15], .mov⟩,⟨some r17, (some (r16, true)), [.r r0], .mov⟩,⟨some r18, (some (r16, true)), [.r r0], .mov⟩,⟨some r19, (some (r16, true)), [.r r18], .lenStr⟩,⟨some r20, (some (r16, true)), [.r r19, .c (.int .i64 1)], .sub⟩,⟨some r21, (some (r16, true)), [.r r17, .r r20], .idxStr⟩,⟨some r22, (some (r16, true)), [.r r21, .c (.int .u8 10)], (.eql true .num)⟩,⟨some r23, (some (r13, false)), [.r r16, .r r22, .c (.bool false)], .pick⟩,⟨some r24, none, [.r r13, .c (.bool true), .r r23], .pick⟩]
abbrev c372x4 : List COp := [⟨some r25, none, [], (.bslice [] 9 0 [])⟩,⟨some r2, none, [.r r25], .mov⟩,⟨some r3, none, [.c (.int .i64 3)], .mov⟩]
abbrev c372x5 : List COp := [⟨some r26, none, [.r r0], .mov⟩,⟨some r27, none, [.r r26], (.call 478)⟩,⟨some r4, none, [.r r27], .mov⟩]
abbrev c372x6 : List COp := [⟨some r28, none, [.r r4], .mov⟩,⟨some r29, none, [.r r28], .lenSl⟩,⟨some r30, none, [.r r29, .c (.int .i64 2000)], (.icmp .gtr)⟩]
abbrev c372x7 : List COp := [⟨some r31, none, [], (.bslice [] 9 0 [])⟩,⟨some r2, none, [.r r31], .mov⟩,⟨some r3, none, [.c (.int .i64 4)], .mov⟩]
abbrev c372x8 : List COp := [⟨some r5, none, [.c (.int .i64 0)], .mov⟩]
abbrev c372x9 : List COp := [⟨some r32, none, [.r r5], .mov⟩,⟨some r33, none, [.r r4], .mov⟩,⟨some r34, none, [.r r33], .lenSl⟩,⟨some r35, none, [.r r32, .r r34], (.icmp .lss)⟩]
abbrev c372x10 : List COp := [⟨some r38, none, [.r r4], .mov⟩,⟨some r39, none, [.r r5], .mov⟩,⟨some r40, none, [.r r38, .r r39], (.idxSlA 1)⟩,⟨some r41, none, [.r r40], .loadC⟩,⟨some r42, none, [.r r41], .lenStr⟩,⟨some r43, none, [.r r42, .c (.int .i64 1000)], (.icmp .gtr)⟩]
abbrev c372x11 : List COp := [⟨some r44, none, [], (.bslice [] 9 0 [])⟩,⟨some r2, none, [.r r44], .mov⟩,⟨some r3, none, [.c (.int .i64 4)], .mov⟩]
abbrev c372x12 : List COp := [⟨some r36, none, [.r r5], .mov⟩,⟨some r37, none, [.r r36, .c (.int .i64 1)], .add⟩,⟨some r5, none, [.r r37], .mov⟩]
abbrev c372x13 : CC := (.seq (.seq (.reg c372x9) (.cond (.r r35) .skip (.exit 0))) (.seq (.block 1 (.seq (.reg c372x10) (.cond (.r r43) (.seq (.reg c372x11) .ret) .skip))) (.reg c372x12)))
abbrev c372x14 : List COp := [⟨some r45, none, [.r r4], .mov⟩,⟨some r2, none, [.r r45], .mov⟩,⟨some r3, none, [.c (.int .i64 0)], .mov⟩]
abbrev c372 : CC := (.seq (.reg c372x0) (.seq (.seq (.reg c372x1) (.cond (.r r8) (.seq (.reg c372x2) .ret) .skip)) (.seq (.seq (.reg c372x3) (.cond (.r r24) (.seq (.reg c372x4) .ret) .skip)) (.seq (.reg c372x5) (.seq (.seq (.reg c372x6) (.cond (.r r30) (.seq (.reg c372x7) .ret) .skip)) (.seq (.seq (.reg c372x8) (.block 0 (.loop c372x13))) (.seq (.reg c372x14) .ret)))))))
theorem code372 : E.func 372 = some ⟨firstPaths 1, [.tmp r2, .tmp r3], c372⟩ := by rw [show E.func 372 = (Tryz.prog.funcs[372]?).bind (compF Tryz.prog N2) from rfl, Tryz.func372]; kernel_rfl
abbrev c477x0 : List COp := [⟨some r6, none, [.c (.bool false)], .mov⟩]
abbrev c477x1 : List COp := [⟨some r7, none, [.c (.int .i64 0)], .mov⟩]
abbrev c477x2 : List COp := [⟨some r8, none, [.r r7], .mov⟩,⟨some r9, none, [.r r0], .mov⟩,⟨some r10, none, [.r r9], .lenStr⟩,⟨some r11, none, [.r r8, .r r10], (.icmp .lss)⟩]
abbrev c477x3 : List COp := [⟨some r14, none, [.r r0], .mov⟩,⟨some r15, none, [.r r7], .mov⟩,⟨some r16, none, [.r r14, .r r15], .idxStr⟩,⟨some r17, none, [.r r1], .mov⟩,⟨some r18, none, [.r r16, .r r17], (.eql false .num)⟩,⟨some r19, none, [.r r18], .mov⟩,⟨some r20, (some (r19, false)), [.r r0], .mov⟩,⟨some r21, (some (r19, false)), [.r r7], .mov⟩,⟨some r22, (some (r19, false)), [.r r20, .r r21], .idxStr⟩,⟨some r23, (some (r19, false)), [.r r2], .mov⟩,⟨some r24, (some (r19, false)), [.r r22, .r r23], (.eql false .num)⟩,⟨some r25, none, [.r r19, .c (.bool true), .r r24], .pick⟩]
abbrev c477x4 : List COp := [⟨some r6, none, [.c (.bool false)], .mov⟩]
abbrev c477x5 : List COp := [⟨some r12, none, [.r r7], .mov⟩,⟨some r13, none, [.r r12, .c (.int .i64 1)], .add⟩,⟨some r7, none, [.r r13], .mov⟩]
abbrev c477x6 : CC := (.seq (.seq (.reg c477x2) (.cond (.r r11) .skip (.exit 0))) (.seq (.block 1 (.seq (.reg c477x3) (.cond (.r r25) (.seq (.reg c477x4) .ret) .skip))) (.reg c477x5)))
abbrev c477x7 : List COp := [⟨some r6, none, [.c (.bool true)], .mov⟩]
abbrev c477 : CC := (.seq (.reg c477x0) (.seq (.seq (.reg c477x1) (.block 0 (.loop c477x6))) (.seq (.reg c477x7) .ret)))
theorem code477 : E.func 477 = some ⟨firstPaths 3, [.tmp r6], c477⟩ := by rw [show E.func 477 = (Tryz.prog.funcs[477]?).bind (compF Tryz.prog N2) from rfl, Tryz.func477]; kernel_rfl
abbrev c478x0 : List COp := [⟨some r2, none, [.c .nils], .mov⟩]
abbrev c478x1 : List COp := [⟨some r6, none, [], (.bslice [] 9 0 [])⟩,⟨some r3, none, [.r r6], .mov⟩]
abbrev c478x2 : List COp := [⟨some r4, none, [.c (.int .i64 0)], .mov⟩]
abbrev c478x3 : List COp := [⟨some r5, none, [.c (.int .i64 0)], .mov⟩]
abbrev c478x4 : List COp := [⟨some r7, none, [.r r5], .mov⟩,⟨some r8, none, [.r r0], .mov⟩,⟨some r9, none, [.r r8], .lenStr⟩,⟨some r10, none, [.r r7, .r r9], (.icmp .lss)⟩]
abbrev c478x5 : List COp := [⟨some r13, none, [.r r0], .mov⟩,⟨some r14, none, [.r r5], .mov⟩,⟨some r15, none, [.r r13, .r r14], .idxStr⟩,⟨some r16, none, [.r r15, .c (.int .u8 10)], (.eql false .num)⟩]
abbrev c478x6 : List COp := [⟨some r17, none, [.r r3], .mov⟩,⟨some r18, none, [.r r0], .mov⟩,⟨some r19, none, [.r r4], .mov⟩,⟨some r20, none, [.r r5], .mov⟩,⟨some r21, none, [.r r18, .r r20, .r r19], (.sliceStr true true)⟩,⟨some r22, none, [.r r21], (.bslice [(strOf [])] 9 1 [(0, 1)])⟩,⟨some r23, none, [.r r17, .r r22], (.append 9 1)⟩,⟨some r3, none, [.r r23], .mov⟩]
abbrev c478x7 : List COp := [⟨some r24, none, [.r r5], .mov⟩,⟨some r25, none, [.r r24, .c (.int .i64 1)], .add⟩,⟨some r4, none, [.r r25], .mov⟩]
abbrev c478x8 : List COp := [⟨some r11, none, [.r r5], .mov⟩,⟨some r12, none, [.r r11, .c (.int .i64 1)], .add⟩,⟨some r5, none, [.r r12], .mov⟩]
abbrev c478x9 : CC := (.seq (.seq (.reg c478x4) (.cond (.r r10) .skip (.exit 0))) (.seq (.block 1 (.seq (.reg c478x5) (.cond (.r r16) (.seq (.reg c478x6) (.reg c478x7)) .skip))) (.reg c478x8)))
abbrev c478x10 : List COp := [⟨some r26, none, [.r r3], .mov⟩,⟨some r2, none, [.r r26], .mov⟩]
abbrev c478 : CC := (.seq (.reg c478x0) (.seq (.reg c478x1) (.seq (.reg c478x2) (.seq (.seq (.reg c478x3) (.block 0 (.loop c478x9))) (.seq (.reg c478x10) .ret)))))
theorem code478 : E.func 478 = some ⟨firstPaths 1, [.tmp r2], c478⟩ := by rw [show E.func 478 = (Tryz.prog.funcs[478]?).bind (compF Tryz.prog N2) from rfl, Tryz.func478]; kernel_rfl
abbrev c57x0 : List COp := [⟨some r2, none, [.c (strOf [])], .mov⟩]
abbrev c57x1 : List COp := [⟨some r3, none, [.r r0], .mov⟩,⟨some r4, none, [.r r3, .c (.int .i64 0)], (.icmp .lss)⟩]
abbrev c57x2 : List COp := [⟨some r5, none, [.r r0], .mov⟩,⟨some r6, none, [.r r5, .c (.int .i64 (-9223372036854775807))], (.icmp .lss)⟩]
abbrev c57x3 : List COp := [⟨some r2, none, [.c (strOf [45, 57, 50, 50, 51, 51, 55, 50, 48, 51, 54, 56, 53, 52, 55, 55, 53, 56, 48, 56])], .mov⟩]
abbrev c57x4 : List COp := [⟨some r7, none, [.r r0], .mov⟩,⟨some r8, none, [.r r7], .neg⟩,⟨some r9, none, [.r r8], (.call 57)⟩,⟨some r10, none, [.c (strOf [45]), .r r9], .concat⟩,⟨some r2, none, [.r r10], .mov⟩]
abbrev c57x5 : List COp := [⟨some r11, none, [.r r0], .mov⟩,⟨some r12, none, [.r r11, .c (.int .i64 10)], (.icmp .lss)⟩]
abbrev c57x6 : List COp := [⟨some r13, none, [.r r0], .mov⟩,⟨some r14, none, [.c (.int .i64 48), .r r13], .add⟩,⟨some r15, none, [.r r14], (.convInt .u8)⟩,⟨some r16, none, [.r r15], (.bslice [(.int .u8 0)] 5 1 [(0, 1)])⟩,⟨some r17, none, [.r r16], .convBS⟩,⟨some r2, none, [.r r17], .mov⟩]
abbrev c57x7 : List DStep := [⟨⟨some r18, none, [.r r0], .mov⟩, []⟩,⟨⟨some r19, none, [.r r18, .c (.int .i64 10)], .quo⟩, []⟩,⟨⟨some r21, none, [.r r0], .mov⟩, []⟩,⟨⟨some r22, none, [.r r21, .c (.int .i64 10)], .rem⟩, []⟩,⟨⟨some r23, none, [.c (.int .i64 48), .r r22], .add⟩, []⟩,⟨⟨some r24, none, [.r r23], (.convInt .u8)⟩, []⟩,⟨⟨some r25, none, [.r r24], (.bslice [(.int .u8 0)] 5 1 [(0, 1)])⟩, []⟩,⟨⟨some r26, none, [.r r25], .convBS⟩, []⟩,⟨⟨some r20, none, [.r r19], (.call 57)⟩, [⟨some r26, none, [.r r25], .convBS⟩]⟩,⟨⟨some r27, none, [.r r20, .r r26], .concat⟩, []⟩,⟨⟨some r2, none, [.r r27], .mov⟩, []⟩]
abbrev c57 : CC := (.seq (.reg c57x0) (.seq (.seq (.reg c57x1) (.cond (.r r4) (.seq (.seq (.reg c57x2) (.cond (.r r6) (.seq (.reg c57x3) .ret) .skip)) (.seq (.reg c57x4) .ret)) .skip)) (.seq (.seq (.reg c57x5) (.cond (.r r12) (.seq (.reg c57x6) .ret) .skip)) (.seq (.draw c57x7) .ret))))
theorem code57 : E.func 57 = some ⟨firstPaths 1, [.tmp r2], c57⟩ := by rw [show E.func 57 = (Tryz.prog.funcs[57]?).bind (compF Tryz.prog N2) from rfl, Tryz.func57]; kernel_rfl
abbrev c31x0 : List COp := [⟨some r2, none, [], (.alloc [(.bool false), (strOf []), .nils] 51)⟩]
abbrev c31x1 : List COp := [⟨some r3, none, [.r r0], .mov⟩,⟨some r4, none, [.r r3], (.build [(.bool false), (strOf []), .nils] [(1, 1)])⟩,⟨none, none, [.r r2, .r r4], (.store 3)⟩]
abbrev c31 : CC := (.seq (.reg c31x0) (.seq (.reg c31x1) .ret))
theorem code31 : E.func 31 = some ⟨firstPaths 1, [.cellA 3 r2], c31⟩ := by rw [show E.func 31 = (Tryz.prog.funcs[31]?).bind (compF Tryz.prog N2) from rfl, Tryz.func31]; kernel_rfl
abbrev c30x0 : List COp := [⟨some r2, none, [], (.alloc [(.bool false), (strOf []), .nils] 51)⟩]
abbrev c30x1 : List COp := [⟨some r3, none, [.r r0], .mov⟩,⟨some r4, none, [.c (.bool true), .r r3], (.build [(.bool false), (strOf []), .nils] [(0, 1), (2, 1)])⟩,⟨none, none, [.r r2, .r r4], (.store 3)⟩]
abbrev c30 : CC := (.seq (.reg c30x0) (.seq (.reg c30x1) .ret))
theorem code30 : E.func 30 = some ⟨firstPaths 1, [.cellA 3 r2], c30⟩ := by rw [show E.func 30 = (Tryz.prog.funcs[30]?).bind (compF Tryz.prog N2) from rfl, Tryz.func30]; kernel_rfl
abbrev c29x0 : List COp := [⟨some r2, none, [], (.alloc [(.bool false), (strOf []), .nils] 51)⟩]
abbrev c29x1 : List COp := [⟨some r3, none, [.r r0], .mov⟩,⟨some r4, none, [.r r3], (.call 57)⟩,⟨some r5, none, [.r r4], (.call 31)⟩,⟨none, none, [.r r2, .r r5], (.store 3)⟩]
abbrev c29 : CC := (.seq (.reg c29x0) (.seq (.reg c29x1) .ret))
theorem code29 : E.func 29 = some ⟨firstPaths 1, [.cellA 3 r2], c29⟩ := by rw [show E.func 29 = (Tryz.prog.funcs[29]?).bind (compF Tryz.prog N2) from rfl, Tryz.func29]; kernel_rfl
abbrev c17x0 : List COp := [⟨some r1, none, [.r r0], (.box 33)⟩,⟨some r2, none, [], (.alloc [(.bool false), (strOf []), .nils] 51)⟩]
abbrev c17x1 : List COp := [⟨some r8, none, [], (.bslice [] 51 0 [])⟩,⟨some r9, none, [], (.bslice [] 51 0 [])⟩,⟨some r3, none, [.r r8], .mov⟩,⟨some r4, none, [.r r9], .mov⟩]
abbrev c17x2 : List COp := [⟨some r5, none, [.c (.int .i64 0)], .mov⟩]
abbrev c17x3 : List COp := [⟨some r10, none, [.r r5], .mov⟩,⟨some r11, none, [.r r1], (.fieldA 0)⟩,⟨some r12, none, [.r r11], .loadC⟩,⟨some r13, none, [.r r12], .lenSl⟩,⟨some r14, none, [.r r10, .r r13], (.icmp .lss)⟩]
abbrev c17x4 : List COp := [⟨some r17, none, [.r r3], .mov⟩,⟨some r18, none, [.r r1], (.fieldA 0)⟩,⟨some r19, none, [.r r18], .loadC⟩,⟨some r20, none, [.r r5], .mov⟩,⟨some r21, none, [.r r19, .r r20], (.idxSlA 1)⟩,⟨some r22, none, [.r r21], .loadC⟩,⟨some r23, none, [.r r22], (.call 29)⟩,⟨some r24, none, [.r r23], (.bslice [(.bool false), (strOf []), .nils] 51 1 [(0, 3)])⟩,⟨some r25, none, [.r r17, .r r24], (.append 51 3)⟩,⟨some r3, none, [.r r25], .mov⟩]
abbrev c17x5 : List COp := [⟨some r15, none, [.r r5], .mov⟩,⟨some r16, none, [.r r15, .c (.int .i64 1)], .add⟩,⟨some r5, none, [.r r16], .mov⟩]
abbrev c17x6 : CC := (.seq (.seq (.reg c17x3) (.cond (.r r14) .skip (.exit 0))) (.seq (.block 1 (.reg c17x4)) (.reg c17x5)))
abbrev c17x7 : List COp := [⟨some r6, none, [.c (.int .i64 0)], .mov⟩]
abbrev c17x8 : List COp := [⟨some r26, none, [.r r6], .mov⟩,⟨some r27, none, [.r r1], (.fieldA 4)⟩,⟨some r28, none, [.r r27], .loadC⟩,⟨some r29, none, [.r r28], .lenSl⟩,⟨some r30, none, [.r r26, .r r29], (.icmp .lss)⟩]
abbrev c17x9 : List COp := [⟨some r33, none, [.r r1], (.fieldA 4)⟩,⟨some r34, none, [.r r33], .loadC⟩,⟨some r35, none, [.r r6], .mov⟩,⟨some r36, none, [.r r34, .r r35], (.idxSlA 4)⟩,⟨some r37, none, [.r r36], (.loadA 4)⟩,⟨some r7, none, [], (.alloc [(strOf []), (.int .i64 0), (.int .i64 0), (strOf [])] 36)⟩,⟨none, none, [.r r7, .r r37], (.store 4)⟩]
abbrev c17x10 : List DStep := [⟨⟨some r38, none, [.r r4], .mov⟩, []⟩,⟨⟨some r39, none, [.r r7], (.fieldA 0)⟩, []⟩,⟨⟨some r40, none, [.r r39], .loadC⟩, []⟩,⟨⟨some r42, none, [.r r7], (.fieldA 1)⟩, []⟩,⟨⟨some r43, none, [.r r42], .loadC⟩, []⟩,⟨⟨some r45, none, [.r r7], (.fieldA 2)⟩, []⟩,⟨⟨some r46, none, [.r r45], .loadC⟩, []⟩,⟨⟨some r48, none, [.r r7], (.fieldA 3)⟩, []⟩,⟨⟨some r49, none, [.r r48], .loadC⟩, []⟩,⟨⟨some r41, none, [.r r40], (.call 31)⟩, [⟨some r49, none, [.r r48], .loadC⟩, ⟨some r46, none, [.r r45], .loadC⟩, ⟨some r43, none, [.r r42], .loadC⟩]⟩,⟨⟨some r44, none, [.r r43], (.call 29)⟩, [⟨some r49, none, [.r r48], .loadC⟩, ⟨some r46, none, [.r r45], .loadC⟩]⟩,⟨⟨some r47, none, [.r r46], (.call 29)⟩, [⟨some r49, none, [.r r48], .loadC⟩]⟩,⟨⟨some r50, none, [.r r49], (.call 31)⟩, []⟩,⟨⟨some r51, none, [.r r41, .r r44, .r r47, .r r50], (.bslice [(.bool false), (strOf []), .nils, (.bool false), (strOf []), .nils, (.bool false), (strOf []), .nils, (.bool false), (strOf []), .nils] 51 4 [(0, 3), (3, 3), (6, 3), (9, 3)])⟩, [⟨some r49, none, [.r r48], .loadC⟩, ⟨some r46, none, [.r r45], .loadC⟩, ⟨some r43, none, [.r r42], .loadC⟩, ⟨some r40, none, [.r r39], .loadC⟩]⟩,⟨⟨some r52, none, [.r r51], (.call 30)⟩, []⟩,⟨⟨some r53, none, [.r r52], (.bslice [(.bool false), (strOf []), .nils] 51 1 [(0, 3)])⟩, [⟨some r49, none, [.r r48], .loadC⟩, ⟨some r46, none, [.r r45], .loadC⟩, ⟨some r43, none, [.r r42], .loadC⟩, ⟨some r40, none, [.r r39], .loadC⟩]⟩,⟨⟨some r54, none, [.r r38, .r r53], (.append 51 3)⟩, []⟩,⟨⟨some r4, none, [.r r54], .mov⟩, []⟩]
abbrev c17x11 : List COp := [⟨some r31, none, [.r r6], .mov⟩,⟨some r32, none, [.r r31, .c (.int .i64 1)], .add⟩,⟨some r6, none, [.r r32], .mov⟩]
abbrev c17x12 : CC := (.seq (.seq (.reg c17x8) (.cond (.r r30) .skip (.exit 2))) (.seq (.block 3 (.seq (.reg c17x9) (.draw c17x10))) (.reg c17x11)))
abbrev c17x13 : List DStep := [⟨⟨some r55, none, [.r r3], .mov⟩, []⟩,⟨⟨some r57, none, [.r r1], (.fieldA 1)⟩, []⟩,⟨⟨some r58, none, [.r r57], .loadC⟩, []⟩,⟨⟨some r60, none, [.r r1], (.fieldA 2)⟩, []⟩,⟨⟨some r61, none, [.r r60], .loadC⟩, []⟩,⟨⟨some r63, none, [.r r1], (.fieldA 3)⟩, []⟩,⟨⟨some r64, none, [.r r63], .loadC⟩, []⟩,⟨⟨some r66, none, [.r r4], .mov⟩, []⟩,⟨⟨some r56, none, [.r r55], (.call 30)⟩, [⟨some r64, none, [.r r63], .loadC⟩, ⟨some r61, none, [.r r60], .loadC⟩, ⟨some r58, none, [.r r57], .loadC⟩]⟩,⟨⟨some r59, none, [.r r58], (.call 31)⟩, [⟨some r64, none, [.r r63], .loadC⟩, ⟨some r61, none, [.r r60], .loadC⟩]⟩,⟨⟨some r62, none, [.r r61], (.call 31)⟩, [⟨some r64, none, [.r r63], .loadC⟩]⟩,⟨⟨some r65, none, [.r r64], (.call 29)⟩, []⟩,⟨⟨some r67, none, [.r r66], (.call 30)⟩, []⟩,⟨⟨some r68, none, [.r r56, .r r59, .r r62, .r r65, .r r67], (.bslice [(.bool false), (strOf []), .nils, (.bool false), (strOf []), .nils, (.bool false), (strOf []), .nils, (.bool false), (strOf []), .nils, (.bool false), (strOf []), .nils] 51 5 [(0, 3), (3, 3), (6, 3), (9, 3), (12, 3)])⟩, [⟨some r64, none, [.r r63], .loadC⟩, ⟨some r61, none, [.r r60], .loadC⟩, ⟨some r58, none, [.r r57], .loadC⟩]⟩,⟨⟨some r69, none, [.r r68], (.call 30)⟩, []⟩,⟨⟨none, none, [.r r2, .r r69], (.store 3)⟩, []⟩]
abbrev c17 : CC := (.seq (.reg c17x0) (.seq (.reg c17x1) (.seq (.seq (.reg c17x2) (.block 0 (.loop c17x6))) (.seq (.seq (.reg c17x7) (.block 2 (.loop c17x12))) (.seq (.draw c17x13) .ret)))))
theorem code17 : E.func 17 = some ⟨firstPaths 1, [.cellA 3 r2], c17⟩ := by rw [show E.func 17 = (Tryz.prog.funcs[17]?).bind (compF Tryz.prog N2) from rfl, Tryz.func17]; kernel_rfl
abbrev c16x0 : List COp := [⟨some r1, none, [.r r0], (.box 51)⟩,⟨some r2, none, [.c (strOf [])], .mov⟩,⟨some r3, none, [.c (.int .i64 0)], .mov⟩]
abbrev c16x1 : List COp := [⟨some r5, none, [.r r1], (.loadA 3)⟩,⟨some r6, none, [.r r5], (.call 27)⟩,⟨some r4, none, [.r r6], .mov⟩]
abbrev c16x2 : List COp := [⟨some r7, none, [.r r4], .mov⟩,⟨some r8, none, [.r r7, .c (.int .i64 0)], (.eql true .num)⟩]
abbrev c16x3 : List COp := [⟨some r9, none, [.r r4], .mov⟩,⟨some r2, none, [.c (strOf [])], .mov⟩,⟨some r3, none, [.r r9], .mov⟩]
abbrev c16x4 : List COp := [⟨some r10, none, [.r r1], (.loadA 3)⟩,⟨some r11, none, [.r r10], (.call 28)⟩,⟨some r2, none, [.r r11], .mov⟩,⟨some r3, none, [.c (.int .i64 0)], .mov⟩]
abbrev c16 : CC := (.seq (.reg c16x0) (.seq (.seq (.reg c16x1) (.seq (.reg c16x2) (.cond (.r r8) (.seq (.reg c16x3) .ret) .skip))) (.seq (.reg c16x4) .ret)))
theorem code16 : E.func 16 = some ⟨firstPaths 1, [.tmp r2, .tmp r3], c16⟩ := by rw [show E.func 16 = (Tryz.prog.funcs[16]?).bind (compF Tryz.prog N2) from rfl, Tryz.func16]; kernel_rfl
abbrev c27x0 : List COp := [⟨some r1, none, [.r r0], (.box 51)⟩,⟨some r2, none, [.c (.int .i64 0)], .mov⟩]
abbrev c27x1 : List COp := [⟨some r3, none, [.r r1], (.loadA 3)⟩,⟨some r4, none, [.r r3, .c (.int .i64 20000), .c (.int .i64 12)], (.call 55)⟩,⟨some r5, none, [.r r4, .c (.int .i64 20000)], (.icmp .gtr)⟩]
abbrev c27x2 : List COp := [⟨some r2, none, [.c (.int .i64 4)], .mov⟩]
abbrev c27x3 : List COp := [⟨some r6, none, [.r r1], (.loadA 3)⟩,⟨some r7, none, [.r r6], (.call 56)⟩,⟨some r2, none, [.r r7], .mov⟩]
abbrev c27 : CC := (.seq (.reg c27x0) (.seq (.seq (.reg c27x1) (.cond (.r r5) (.seq (.reg c27x2) .ret) .skip)) (.seq (.reg c27x3) .ret)))
theorem code27 : E.func 27 = some ⟨firstPaths 1, [.tmp r2], c27⟩ := by rw [show E.func 27 = (Tryz.prog.funcs[27]?).bind (compF Tryz.prog N2) from rfl, Tryz.func27]; kernel_rfl
abbrev c55x0 : List COp := [⟨some r3, none, [.r r0], (.box 51)⟩,⟨some r6, none, [.c (.int .i64 0)], .mov⟩]
abbrev c55x1 : List COp := [⟨some r9, none, [.r r2], .mov⟩,⟨some r10, none, [.r r9, .c (.int .i64 1)], (.icmp .lss)⟩,⟨some r11, none, [.r r10], .mov⟩,⟨some r12, (some (r11, false)), [.r r1], .mov⟩,⟨some r13, (some (r11, false)), [.r r12, .c (.int .i64 1)], (.icmp .lss)⟩,⟨some r14, none, [.r r11, .c (.bool true), .r r13], .pick⟩]
abbrev c55x2 : List COp := [⟨some r15, none, [.r r1], .mov⟩,⟨some r16, none, [.r r15, .c (.int .i64 1)], .add⟩,⟨some r6, none, [.r r16], .mov⟩]
abbrev c55x3 : List COp := [⟨some r7, none, [.c (.int .i64 1)], .mov⟩]
abbrev c55x4 : List COp := [⟨some r17, none, [.r r3], (.fieldA 0)⟩,⟨some r18, none, [.r r17], .loadC⟩,⟨some r19, none, [.r r18], .not⟩]
abbrev c55x5 : List COp := [⟨some r20, none, [.r r7], .mov⟩,⟨some r6, none, [.r r20], .mov⟩]
abbrev c55x6 : List COp := [⟨some r8, none, [.c (.int .i64 0)], .mov⟩]
abbrev c55x7 : List COp := [⟨some r21, none, [.r r8], .mov⟩,⟨some r22, none, [.r r3], (.fieldA 2)⟩,⟨some r23, none, [.r r22], .loadC⟩,⟨some r24, none, [.r r23], .lenSl⟩,⟨some r25, none, [.r r21, .r r24], (.icmp .lss)⟩,⟨some r26, none, [.r r25], .mov⟩,⟨some r27, (some (r26, true)), [.r r7], .mov⟩,⟨some r28, (some (r26, true)), [.r r1], .mov⟩,⟨some r29, (some (r26, true)), [.r r27, .r r28], (.icmp .leq)⟩,⟨some r30, none, [.r r26, .r r29, .c (.bool false)], .pick⟩]
abbrev c55x8 : List COp := [⟨some r33, none, [.r r7], .mov⟩,⟨some r34, none, [.r r3], (.fieldA 2)⟩,⟨some r35, none, [.r r34], .loadC⟩,⟨some r36, none, [.r r8], .mov⟩,⟨some r37, none, [.r r35, .r r36], (.idxSlA 3)⟩,⟨some r38, none, [.r r37], (.loadA 3)⟩,⟨some r39, none, [.r r1], .mov⟩,⟨some r40, none, [.r r7], .mov⟩,⟨some r41, none, [.r r39, .r r40], .sub⟩,⟨some r42, none, [.r r2], .mov⟩,⟨some r43, none, [.r r42, .c (.int .i64 1)], .sub⟩,⟨some r44, none, [.r r38, .r r41, .r r43], (.call 55)⟩,⟨some r45, none, [.r r33, .r r44], .add⟩,⟨some r7, none, [.r r45], .mov⟩]
abbrev c55x9 : List COp := [⟨some r31, none, [.r r8], .mov⟩,⟨some r32, none, [.r r31, .c (.int .i64 1)], .add⟩,⟨some r8, none, [.r r32], .mov⟩]
abbrev c55x10 : CC := (.seq (.seq (.reg c55x7) (.cond (.r r30) .skip (.exit 0))) (.seq (.block 1 (.reg c55x8)) (.reg c55x9)))
abbrev c55x11 : List COp := [⟨some r46, none, [.r r7], .mov⟩,⟨some r6, none, [.r r46], .mov⟩]
abbrev c55 : CC := (.seq (.reg c55x0) (.seq (.seq (.reg c55x1) (.cond (.r r14) (.seq (.reg c55x2) .ret) .skip)) (.seq (.reg c55x3) (.seq (.seq (.reg c55x4) (.cond (.r r19) (.seq (.reg c55x5) .ret) .skip)) (.seq (.seq (.reg c55x6) (.block 0 (.loop c55x10))) (.seq (.reg c55x11) .ret))))))
theorem code55 : E.func 55 = some ⟨firstPaths 3, [.tmp r6], c55⟩ := by rw [show E.func 55 = (Tryz.prog.funcs[55]?).bind (compF Tryz.prog N2) from rfl, Tryz.func55]; kernel_rfl
abbrev c56x0 : List COp := [⟨some r1, none, [.r r0], (.box 51)⟩,⟨some r2, none, [.c (.int .i64 0)], .mov⟩]
abbrev c56x1 : List COp := [⟨some r5, none, [.r r1], (.fieldA 0)⟩,⟨some r6, none, [.r r5], .loadC⟩,⟨some r7, none, [.r r6], .not⟩]
abbrev c56x2 : List COp := [⟨some r8, none, [.r r1], (.fieldA 2)⟩,⟨some r9, none, [.r r8], .loadC⟩,⟨some r10, none, [.r r9], .lenSl⟩,⟨some r11, none, [.r r10, .c (.int .i64 0)], (.icmp .gtr)⟩]
abbrev c56x3 : List COp := [⟨some r2, none, [.c (.int .i64 1)], .mov⟩]
abbrev c56x4 : List COp := [⟨some r12, none, [.r r1], (.fieldA 1)⟩,⟨some r13, none, [.r r12], .loadC⟩,⟨some r14, none, [.r r13], .lenStr⟩,⟨some r15, none, [.r r14, .c (.int .i64 65536)], (.icmp .gtr)⟩]
abbrev c56x5 : List COp := [⟨some r2, none, [.c (.int .i64 4)], .mov⟩]
abbrev c56x6 : List COp := [⟨some r2, none, [.c (.int .i64 0)], .mov⟩]
abbrev c56x7 : List COp := [⟨some r16, none, [.r r1], (.fieldA 1)⟩,⟨some r17, none, [.r r16], .loadC⟩,⟨some r18, none, [.r r17, .c (strOf [])], (.eql true .num)⟩]
abbrev c56x8 : List COp := [⟨some r2, none, [.c (.int .i64 1)], .mov⟩]
abbrev c56x9 : List COp := [⟨some r3, none, [.c (.int .i64 0)], .mov⟩]
abbrev c56x10 : List COp := [⟨some r19, none, [.r r3], .mov⟩,⟨some r20, none, [.r r1], (.fieldA 2)⟩,⟨some r21, none, [.r r20], .loadC⟩,⟨some r22, none, [.r r21], .lenSl⟩,⟨some r23, none, [.r r19, .r r22], (.icmp .lss)⟩]
abbrev c56x11 : List COp := [⟨some r26, none, [.r r1], (.fieldA 2)⟩,⟨some r27, none, [.r r26], .loadC⟩,⟨some r28, none, [.r r3], .mov⟩,⟨some r29, none, [.r r27, .r r28], (.idxSlA 3)⟩,⟨some r30, none, [.r r29], (.loadA 3)⟩,⟨some r31, none, [.r r30], (.call 56)⟩,⟨some r4, none, [.r r31], .mov⟩]
abbrev c56x12 : List COp := [⟨some r32, none, [.r r4], .mov⟩,⟨some r33, none, [.r r32, .c (.int .i64 0)], (.eql true .num)⟩]
abbrev c56x13 : List COp := [⟨some r34, none, [.r r4], .mov⟩,⟨some r2, none, [.r r34], .mov⟩]
abbrev c56x14 : List COp := [⟨some r24, none, [.r r3], .mov⟩,⟨some r25, none, [.r r24, .c (.int .i64 1)], .add⟩,⟨some r3, none, [.r r25], .mov⟩]
abbrev c56x15 : CC := (.seq (.seq (.reg c56x10) (.cond (.r r23) .skip (.exit 0))) (.seq (.block 1 (.seq (.reg c56x11) (.seq (.reg c56x12) (.cond (.r r33) (.seq (.reg c56x13) .ret) .skip)))) (.reg c56x14)))
abbrev c56x16 : List COp := [⟨some r2, none, [.c (.int .i64 0)], .mov⟩]
abbrev c56 : CC := (.seq (.reg c56x0) (.seq (.seq (.reg c56x1) (.cond (.r r7) (.seq (.seq (.reg c56x2) (.cond (.r r11) (.seq (.reg c56x3) .ret) .skip)) (.seq (.seq (.reg c56x4) (.cond (.r r15) (.seq (.reg c56x5) .ret) .skip)) (.seq (.reg c56x6) .ret))) .skip)) (.seq (.seq (.reg c56x7) (.cond (.r r18) (.seq (.reg c56x8) .ret) .skip)) (.seq (.seq (.reg c56x9) (.block 0 (.loop c56x15))) (.seq (.reg c56x16) .ret)))))
theorem code56 : E.func 56 = some ⟨firstPaths 1, [.tmp r2], c56⟩ := by rw [show E.func 56 = (Tryz.prog.funcs[56]?).bind (compF Tryz.prog N2) from rfl, Tryz.func56]; kernel_rfl
abbrev c28x0 : List COp := [⟨some r1, none, [.r r0], (.box 51)⟩,⟨some r2, none, [.c (strOf [])], .mov⟩]
abbrev c28x1 : List COp := [⟨some r5, none, [.r r1], (.fieldA 0)⟩,⟨some r6, none, [.r r5], .loadC⟩,⟨some r7, none, [.r r6], .not⟩]
abbrev c28x2 : List DStep := [⟨⟨some r8, none, [.r r1], (.fieldA 1)⟩, []⟩,⟨⟨some r9, none, [.r r8], .loadC⟩, []⟩,⟨⟨some r10, none, [.r r9], .lenStr⟩, []⟩,⟨⟨some r13, none, [.r r1], (.fieldA 1)⟩, []⟩,⟨⟨some r14, none, [.r r13], .loadC⟩, []⟩,⟨⟨some r11, none, [.r r10], (.call 57)⟩, [⟨some r14, none, [.r r13], .loadC⟩]⟩,⟨⟨some r12, none, [.r r11, .c (strOf [58])], .concat⟩, []⟩,⟨⟨some r15, none, [.r r12, .r r14], .concat⟩, []⟩,⟨⟨some r2, none, [.r r15], .mov⟩, []⟩]
abbrev c28x3 : List COp := [⟨some r3, none, [.c (strOf [40])], .mov⟩]
abbrev c28x4 : List COp := [⟨some r4, none, [.c (.int .i64 0)], .mov⟩]
abbrev c28x5 : List COp := [⟨some r16, none, [.r r4], .mov⟩,⟨some r17, none, [.r r1], (.fieldA 2)⟩,⟨some r18, none, [.r r17], .loadC⟩,⟨some r19, none, [.r r18], .lenSl⟩,⟨some r20, none, [.r r16, .r r19], (.icmp .lss)⟩]
abbrev c28x6 : List COp := [⟨some r23, none, [.r r3], .mov⟩,⟨some r24, none, [.r r1], (.fieldA 2)⟩,⟨some r25, none, [.r r24], .loadC⟩,⟨some r26, none, [.r r4], .mov⟩,⟨some r27, none, [.r r25, .r r26], (.idxSlA 3)⟩,⟨some r28, none, [.r r27], (.loadA 3)⟩,⟨some r29, none, [.r r28], (.call 28)⟩,⟨some r30, none, [.r r23, .r r29], .concat⟩,⟨some r3, none, [.r r30], .mov⟩]
abbrev c28x7 : List COp := [⟨some r21, none, [.r r4], .mov⟩,⟨some r22, none, [.r r21, .c (.int .i64 1)], .add⟩,⟨some r4, none, [.r r22], .mov⟩]
abbrev c28x8 : CC := (.seq (.seq (.reg c28x5) (.cond (.r r20) .skip (.exit 0))) (.seq (.block 1 (.reg c28x6)) (.reg c28x7)))
abbrev c28x9 : List COp := [⟨some r31, none, [.r r3], .mov⟩,⟨some r32, none, [.r r31, .c (strOf [41])], .concat⟩,⟨some r2, none, [.r r32], .mov⟩]
abbrev c28 : CC := (.seq (.reg c28x0) (.seq (.seq (.reg c28x1) (.cond (.r r7) (.seq (.draw c28x2) .ret) .skip)) (.seq (.reg c28x3) (.seq (.seq (.reg c28x4) (.block 0 (.loop c28x8))) (.seq (.reg c28x9) .ret)))))
theorem code28 : E.func 28 = some ⟨firstPaths 1, [.tmp r2], c28⟩ := by rw [show E.func 28 = (Tryz.prog.funcs[28]?).bind (compF Tryz.prog N2) from rfl, Tryz.func28]; kernel_rfl
abbrev c7x0 : List COp := [⟨some r2, none, [.c (strOf [])], .mov⟩,⟨some r3, none, [.c (.int .i64 0)], .mov⟩]
abbrev c7x1 : List COp := [⟨some r9, none, [.r r0], .mov⟩,⟨some r10, none, [.r r9], (.call 9)⟩,⟨some r4, none, [.r r10], .mov⟩]
abbrev c7x2 : List COp := [⟨some r11, none, [.r r4], .mov⟩,⟨some r12, none, [.r r11, .c (.int .i64 0)], (.eql true .num)⟩]
abbrev c7x3 : List COp := [⟨some r13, none, [.r r4], .mov⟩,⟨some r2, none, [.c (strOf [])], .mov⟩,⟨some r3, none, [.r r13], .mov⟩]
abbrev c7x4 : List COp := [⟨some r5, none, [.c (strOf [])], .mov⟩]
abbrev c7x5 : List COp := [⟨some r6, none, [.c (.int .i64 0)], .mov⟩]
abbrev c7x6 : List COp := [⟨some r14, none, [.r r6], .mov⟩,⟨some r15, none, [.r r0], .mov⟩,⟨some r16, none, [.r r15], .lenSl⟩,⟨some r17, none, [.r r14, .r r16], (.icmp .lss)⟩]
abbrev c7x7 : List COp := [⟨some r21, none, [.r r0], .mov⟩,⟨some r22, none, [.r r6], .mov⟩,⟨some r23, none, [.r r21, .r r22], (.idxSlA 5)⟩,⟨some r24, none, [.r r23], (.loadA 5)⟩,⟨some r25, none, [.r r24], (.call 17)⟩,⟨some r26, none, [.r r25], (.call 16)⟩,⟨some r20, none, [.r r26], .mov⟩,⟨some r27, none, [.r r20], (.extract 0)⟩,⟨some r28, none, [.r r20], (.extract 1)⟩,⟨some r7, none, [.r r27], .mov⟩,⟨some r8, none, [.r r28], .mov⟩]
abbrev c7x8 : List COp := [⟨some r29, none, [.r r5], .mov⟩,⟨some r30, none, [.r r7], .mov⟩,⟨some r31, none, [.r r29, .r r30], .concat⟩,⟨some r5, none, [.r r31], .mov⟩]
abbrev c7x9 : List COp := [⟨some r18, none, [.r r6], .mov⟩,⟨some r19, none, [.r r18, .c (.int .i64 1)], .add⟩,⟨some r6, none, [.r r19], .mov⟩]
abbrev c7x10 : CC := (.seq (.seq (.reg c7x6) (.cond (.r r17) .skip (.exit 0))) (.seq (.block 1 (.seq (.reg c7x7) (.reg c7x8))) (.reg c7x9)))
abbrev c7x11 : List COp := [⟨some r32, none, [.r r5], .mov⟩,⟨some r2, none, [.r r32], .mov⟩,⟨some r3, none, [.c (.int .i64 0)], .mov⟩]
abbrev c7 : CC := (.seq (.reg c7x0) (.seq (.seq (.reg c7x1) (.seq (.reg c7x2) (.cond (.r r12) (.seq (.reg c7x3) .ret) .skip))) (.seq (.reg c7x4) (.seq (.seq (.reg c7x5) (.block 0 (.loop c7x10))) (.seq (.reg c7x11) .ret)))))
theorem code7 : E.func 7 = some ⟨firstPaths 1, [.tmp r2, .tmp r3], c7⟩ := by rw [show E.func 7 = (Tryz.prog.funcs[7]?).bind (compF Tryz.prog N2) from rfl, Tryz.func7]; kernel_rfl
end Go.Ev
