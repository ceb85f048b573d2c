/- The code of more functions. -/
import Derived.Test.YtognadjclbihgaaGreatDoorKCodeA
set_option linter.all false
namespace Go.Ev
open Go.Proofs
set_option maxRecDepth 1000000
noncomputable section
abbrev c6x0:=[oK r2 (.alloc [.nils] 23) [],oK r3 (.alloc [(.int .i64 0)] 3) [],oK r4 (.alloc [(.int .i64 0)] 24) []]
abbrev c6x1:=[oK r5 (.alloc [.nils] 23) []]
abbrev c6x2:=[oK r6 (.alloc [.nils] 34) []]
abbrev c6x3:=[mK r12 r0,eK r13 r12 (.call 13)]
abbrev c6x4:=[oK r7 (.alloc [(.int .i64 0),(.bool false),(strOf []),.nils,(.int .i64 0)] 58) [],sK [.r r7,.r r14] (.store 5)]
abbrev c6x5:=[fK r15 r7 4,lK r16 r15,nK r17 r16 0 (.eql true .num)]
abbrev c6x6:List DStep:=[⟨fK r18 r7 0,[]⟩,⟨lK r19 r18,[]⟩,⟨fK r20 r7 4,[]⟩,⟨lK r21 r20,[]⟩,⟨sK [.r r2,.c .nils] (.store 1),[lK r21 r20,lK r19 r18]⟩,⟨sK [.r r3,.r r19] (.store 1),[lK r21 r20]⟩,⟨sK [.r r4,.r r21] (.store 1),[]⟩]
abbrev c6x7:=[fK r23 r7 1,eK r24 r23 (.loadA 3),eK r25 r24 (.call 14),mK r22 r25,xK r26 r22 0,xK r27 r22 1,oK r8 (.alloc [.nils,(strOf []),(strOf []),(.int .i64 0),.nils] 38) [],sK [.r r8,.r r26] (.store 5),mK r9 r27]
abbrev c6x8:=[mK r28 r9,eK r29 r28 .not]
abbrev c6x9:List DStep:=[⟨fK r30 r7 0,[]⟩,⟨lK r31 r30,[]⟩,⟨sK [.r r2,.c .nils] (.store 1),[lK r31 r30]⟩,⟨sK [.r r3,.r r31] (.store 1),[]⟩,⟨sK [.r r4,cK 3] (.store 1),[]⟩]
abbrev c6x10:List DStep:=[⟨lK r32 r5,[]⟩,⟨eK r33 r8 (.loadA 5),[]⟩,⟨eK r34 r33 (.bslice [.nils,(strOf []),(strOf []),(.int .i64 0),.nils] 38 1 [(0,5)]),[eK r33 r8 (.loadA 5),lK r32 r5]⟩,⟨lK r36 r6,[]⟩,⟨fK r37 r7 0,[]⟩,⟨lK r38 r37,[]⟩,⟨eK r39 r38 (.bslice [(.int .i64 0)] 3 1 [(0,1)]),[lK r38 r37,lK r36 r6,eK r33 r8 (.loadA 5),lK r32 r5]⟩,⟨dK r35 r32 r34 (.append 38 5),[lK r38 r37,lK r36 r6]⟩,⟨dK r40 r36 r39 (.append 3 1),[]⟩,⟨sK [.r r5,.r r35] (.store 1),[]⟩,⟨sK [.r r6,.r r40] (.store 1),[]⟩]
abbrev c6x11:=[lK r42 r5,eK r43 r42 (.call 15),mK r41 r43,xK r44 r41 0,xK r45 r41 1,mK r10 r44,mK r11 r45]
abbrev c6x12:=[mK r46 r11,nK r47 r46 0 (.eql true .num)]
abbrev c6x13:List DStep:=[⟨lK r48 r6,[]⟩,⟨mK r49 r10,[]⟩,⟨dK r50 r48 r49 (.idxSlA 1),[]⟩,⟨lK r51 r50,[]⟩,⟨mK r52 r11,[]⟩,⟨sK [.r r2,.c .nils] (.store 1),[lK r51 r50,lK r48 r6]⟩,⟨sK [.r r3,.r r51] (.store 1),[]⟩,⟨sK [.r r4,.r r52] (.store 1),[]⟩]
abbrev c6x14:=[lK r53 r5,sK [.r r2,.r r53] (.store 1),sK [.r r3,cK 0] (.store 1),sK [.r r4,cK 0] (.store 1)]
abbrev c6:CC:=(.seq (.reg c6x0) (.seq (.reg c6x1) (.seq (.reg c6x2) (.seq (.seq (.reg c6x3) (.block 0 (.rangeFunc (.r r13) [r14] (.reg c6x4) (.block 1 (.seq (.seq (.reg c6x5) (.cond (.r r17) (.seq (.draw c6x6) .ret) .skip)) (.seq (.reg c6x7) (.seq (.seq (.reg c6x8) (.cond (.r r29) (.seq (.draw c6x9) .ret) .skip)) (.draw c6x10)))))))) (.seq (.seq (.reg c6x11) (.seq (.reg c6x12) (.cond (.r r47) (.seq (.draw c6x13) .ret) .skip))) (.seq (.reg c6x14) .ret))))))
theorem code6:E.func 6=some ⟨firstPaths 1,[.cellC r2,.cellC r3,.cellC r4],c6⟩:=codeOf Tryz.func6 (by kernel_rfl)
abbrev c7x0:=[oK r2 .mov [.c .nils],oK r3 .mov [cK 0],oK r4 .mov [cK 0]]
abbrev c7x1:=[oK r15 (.bslice [] 38 0 []) [],oK r16 (.bslice [] 3 0 []) [],mK r5 r15,mK r6 r16]
abbrev c7x2:=[oK r7 .mov [cK 0]]
abbrev c7x3:=[mK r17 r7,mK r18 r0,eK r19 r18 .lenStr,dK r20 r17 r19 (.icmp .lss)]
abbrev c7x4:=[mK r22 r0,mK r23 r7,dK r24 r22 r23 (.sliceStr true false),eK r25 r24 (.call 16),mK r21 r25,xK r26 r21 0,xK r27 r21 1,xK r28 r21 2,oK r8 (.alloc [(.bool false),(strOf []),.nils] 56) [],sK [.r r8,.r r26] (.store 3),mK r9 r27,mK r10 r28]
abbrev c7x5:=[mK r29 r10,nK r30 r29 0 (.eql true .num)]
abbrev c7x6:=[oK r31 (.bslice [] 38 0 []) [],mK r32 r7,mK r33 r10,mK r2 r31,mK r3 r32,mK r4 r33]
abbrev c7x7:=[eK r35 r8 (.loadA 3),eK r36 r35 (.call 17),mK r34 r36,xK r37 r34 0,xK r38 r34 1,oK r11 (.alloc [.nils,(strOf []),(strOf []),(.int .i64 0),.nils] 38) [],sK [.r r11,.r r37] (.store 5),mK r12 r38]
abbrev c7x8:=[mK r39 r12,eK r40 r39 .not]
abbrev c7x9:=[oK r41 (.bslice [] 38 0 []) [],mK r42 r7,mK r2 r41,mK r3 r42,oK r4 .mov [cK 3]]
abbrev c7x10:=[mK r43 r5,eK r44 r11 (.loadA 5),eK r45 r44 (.bslice [.nils,(strOf []),(strOf []),(.int .i64 0),.nils] 38 1 [(0,5)]),dK r46 r43 r45 (.append 38 5),mK r47 r6,mK r48 r7,eK r49 r48 (.bslice [(.int .i64 0)] 3 1 [(0,1)]),dK r50 r47 r49 (.append 3 1),mK r5 r46,mK r6 r50]
abbrev c7x11:=[mK r51 r7,mK r52 r9,dK r53 r51 r52 .add,mK r7 r53]
abbrev c7x12:CC:=(.seq (.seq (.reg c7x3) (.cond (.r r20) .skip (.exit 0))) (.block 1 (.seq (.reg c7x4) (.seq (.seq (.reg c7x5) (.cond (.r r30) (.seq (.reg c7x6) .ret) .skip)) (.seq (.reg c7x7) (.seq (.seq (.reg c7x8) (.cond (.r r40) (.seq (.reg c7x9) .ret) .skip)) (.seq (.reg c7x10) (.reg c7x11))))))))
abbrev c7x13:=[mK r55 r5,eK r56 r55 (.call 18),mK r54 r56,xK r57 r54 0,xK r58 r54 1,mK r13 r57,mK r14 r58]
abbrev c7x14:=[mK r59 r14,nK r60 r59 0 (.eql true .num)]
abbrev c7x15:List DStep:=[⟨oK r61 (.bslice [] 38 0 []) [],[]⟩,⟨mK r62 r6,[]⟩,⟨mK r63 r13,[]⟩,⟨dK r64 r62 r63 (.idxSlA 1),[]⟩,⟨lK r65 r64,[]⟩,⟨mK r66 r14,[]⟩,⟨mK r2 r61,[]⟩,⟨mK r3 r65,[]⟩,⟨mK r4 r66,[]⟩]
abbrev c7x16:=[mK r67 r5,mK r2 r67,oK r3 .mov [cK 0],oK r4 .mov [cK 0]]
abbrev c7:CC:=(.seq (.reg c7x0) (.seq (.reg c7x1) (.seq (.seq (.reg c7x2) (.block 0 (.loop c7x12))) (.seq (.reg c7x13) (.seq (.seq (.reg c7x14) (.cond (.r r60) (.seq (.draw c7x15) .ret) .skip)) (.seq (.reg c7x16) .ret))))))
abbrev c8x0:=[oK r4 .mov [.c (.bool false)]]
abbrev c8x1:=[mK r6 r0,eK r7 r6 .lenSl,mK r8 r1,eK r9 r8 .lenSl,dK r10 r7 r9 (.eql true .num)]
abbrev c8x2:=[oK r4 .mov [.c (.bool false)]]
abbrev c8x3:=[oK r5 .mov [cK 0]]
abbrev c8x4:=[mK r11 r5,mK r12 r0,eK r13 r12 .lenSl,dK r14 r11 r13 (.icmp .lss)]
abbrev c8x5:List DStep:=[⟨mK r17 r0,[]⟩,⟨mK r18 r5,[]⟩,⟨dK r19 r17 r18 (.idxSlA 5),[]⟩,⟨eK r20 r19 (.loadA 5),[]⟩,⟨mK r21 r1,[]⟩,⟨mK r22 r5,[]⟩,⟨dK r23 r21 r22 (.idxSlA 5),[]⟩,⟨eK r24 r23 (.loadA 5),[]⟩,⟨dK r25 r20 r24 (.call 19),[]⟩,⟨eK r26 r25 .not,[]⟩]
abbrev c8x6:=[oK r4 .mov [.c (.bool false)]]
abbrev c8x7:=[mK r15 r5,nK r16 r15 1 .add,mK r5 r16]
abbrev c8x8:CC:=(.seq (.seq (.reg c8x4) (.cond (.r r14) .skip (.exit 0))) (.seq (.block 1 (.seq (.draw c8x5) (.cond (.r r26) (.seq (.reg c8x6) .ret) .skip))) (.reg c8x7)))
abbrev c8x9:=[oK r4 .mov [.c (.bool true)]]
abbrev c8:CC:=(.seq (.reg c8x0) (.seq (.seq (.reg c8x1) (.cond (.r r10) (.seq (.reg c8x2) .ret) .skip)) (.seq (.seq (.reg c8x3) (.block 0 (.loop c8x8))) (.seq (.reg c8x9) .ret))))
theorem code8:E.func 8=some ⟨firstPaths 2,[.tmp r4],c8⟩:=codeOf Tryz.func8 (by kernel_rfl)
abbrev c13x0:=[eK r1 r0 (.box 9),oK r2 .mov [.c .nilf]]
abbrev c13x1:=[eK r3 r1 (.mkFn 28 0),mK r2 r3]
abbrev c13:CC:=(.seq (.reg c13x0) (.seq (.reg c13x1) .ret))
theorem code13:E.func 13=some ⟨firstPaths 1,[.tmp r2],c13⟩:=codeOf Tryz.func13 (by kernel_rfl)
abbrev c19x0:=[eK r2 r0 (.box 38),eK r3 r1 (.box 38),oK r4 .mov [.c (.bool false)]]
abbrev c19x1:=[fK r6 r2 0,lK r7 r6,eK r8 r7 .lenSl,fK r9 r3 0,lK r10 r9,eK r11 r10 .lenSl,dK r12 r8 r11 (.eql true .num)]
abbrev c19x2:=[oK r4 .mov [.c (.bool false)]]
abbrev c19x3:=[oK r5 .mov [cK 0]]
abbrev c19x4:=[mK r13 r5,fK r14 r2 0,lK r15 r14,eK r16 r15 .lenSl,dK r17 r13 r16 (.icmp .lss)]
abbrev c19x5:List DStep:=[⟨fK r20 r2 0,[]⟩,⟨lK r21 r20,[]⟩,⟨mK r22 r5,[]⟩,⟨dK r23 r21 r22 (.idxSlA 1),[]⟩,⟨lK r24 r23,[]⟩,⟨fK r25 r3 0,[]⟩,⟨lK r26 r25,[]⟩,⟨mK r27 r5,[]⟩,⟨dK r28 r26 r27 (.idxSlA 1),[]⟩,⟨lK r29 r28,[]⟩,⟨dK r30 r24 r29 (.eql true .num),[]⟩]
abbrev c19x6:=[oK r4 .mov [.c (.bool false)]]
abbrev c19x7:=[mK r18 r5,nK r19 r18 1 .add,mK r5 r19]
abbrev c19x8:CC:=(.seq (.seq (.reg c19x4) (.cond (.r r17) .skip (.exit 0))) (.seq (.block 1 (.seq (.draw c19x5) (.cond (.r r30) (.seq (.reg c19x6) .ret) .skip))) (.reg c19x7)))
abbrev c19x9:=[fK r31 r2 1,lK r32 r31,fK r33 r3 1,lK r34 r33,dK r35 r32 r34 (.eql false .num),mK r36 r35,hK true r36 r37 r2 (.fieldA 2),hK true r36 r38 r37 .loadC,hK true r36 r39 r3 (.fieldA 2),hK true r36 r40 r39 .loadC,gK true r36 r41 (.eql false .num) [.r r38,.r r40],qK r42 r36 r41,mK r43 r42,hK true r43 r44 r2 (.fieldA 3),hK true r43 r45 r44 .loadC,hK true r43 r46 r3 (.fieldA 3),hK true r43 r47 r46 .loadC,gK true r43 r48 (.eql false .num) [.r r45,.r r47],qK r49 r43 r48,mK r50 r49,hK true r50 r51 r2 (.fieldA 4),hK true r50 r52 r51 .loadC,hK true r50 r53 r3 (.fieldA 4),hK true r50 r54 r53 .loadC,gK true r50 r55 (.call 38) [.r r52,.r r54],qK r56 r50 r55,mK r4 r56]
abbrev c19:CC:=(.seq (.reg c19x0) (.seq (.seq (.reg c19x1) (.cond (.r r12) (.seq (.reg c19x2) .ret) .skip)) (.seq (.seq (.reg c19x3) (.block 0 (.loop c19x8))) (.seq (.reg c19x9) .ret))))
theorem code19:E.func 19=some ⟨firstPaths 2,[.tmp r4],c19⟩:=codeOf Tryz.func19 (by kernel_rfl)
abbrev c28x0:=[oK r3 .mov [cK 0]]
abbrev c28x1:=[mK r7 r3,lK r8 r1,eK r9 r8 .lenStr,dK r10 r7 r9 (.icmp .lss)]
abbrev c28x2:=[lK r12 r1,mK r13 r3,dK r14 r12 r13 (.sliceStr true false),eK r15 r14 (.call 29),mK r11 r15,xK r16 r11 0,xK r17 r11 1,xK r18 r11 2,oK r4 (.alloc [(.bool false),(strOf []),.nils] 56) [],sK [.r r4,.r r16] (.store 3),mK r5 r17,mK r6 r18]
abbrev c28x3:=[mK r19 r0,mK r20 r3,eK r21 r4 (.loadA 3),mK r22 r6,oK r23 (.build [(.int .i64 0),(.bool false),(strOf []),.nils,(.int .i64 0)] [(0,1),(1,3),(4,1)]) [.r r20,.r r21,.r r22],dK r24 r19 r23 .callv,eK r25 r24 .not,mK r26 r25,hK false r26 r27 r6 .mov,gK false r26 r28 (.eql true .num) [.r r27,cK 0],pK r29 r26 r28]
abbrev c28x4:=[mK r30 r3,mK r31 r5,dK r32 r30 r31 .add,mK r3 r32]
abbrev c28x5:CC:=(.seq (.seq (.reg c28x1) (.cond (.r r10) .skip (.exit 0))) (.block 1 (.seq (.reg c28x2) (.seq (.seq (.reg c28x3) (.cond (.r r29) .ret .skip)) (.reg c28x4)))))
abbrev c28:CC:=(.seq (.reg c28x0) (.block 0 (.loop c28x5)))
theorem code28:E.func 28=some ⟨firstPaths 2,[],c28⟩:=codeOf Tryz.func28 (by kernel_rfl)
abbrev c38x0:=[oK r4 .mov [.c (.bool false)]]
abbrev c38x1:=[mK r6 r0,eK r7 r6 .lenSl,mK r8 r1,eK r9 r8 .lenSl,dK r10 r7 r9 (.eql true .num)]
abbrev c38x2:=[oK r4 .mov [.c (.bool false)]]
abbrev c38x3:=[oK r5 .mov [cK 0]]
abbrev c38x4:=[mK r11 r5,mK r12 r0,eK r13 r12 .lenSl,dK r14 r11 r13 (.icmp .lss)]
abbrev c38x5:List DStep:=[⟨mK r17 r0,[]⟩,⟨mK r18 r5,[]⟩,⟨dK r19 r17 r18 (.idxSlA 4),[]⟩,⟨eK r20 r19 (.loadA 4),[]⟩,⟨mK r21 r1,[]⟩,⟨mK r22 r5,[]⟩,⟨dK r23 r21 r22 (.idxSlA 4),[]⟩,⟨eK r24 r23 (.loadA 4),[]⟩,⟨dK r25 r20 r24 (.eql true (.agg [.str,.int,.int,.str])),[]⟩]
abbrev c38x6:=[oK r4 .mov [.c (.bool false)]]
abbrev c38x7:=[mK r15 r5,nK r16 r15 1 .add,mK r5 r16]
abbrev c38x8:CC:=(.seq (.seq (.reg c38x4) (.cond (.r r14) .skip (.exit 0))) (.seq (.block 1 (.seq (.draw c38x5) (.cond (.r r25) (.seq (.reg c38x6) .ret) .skip))) (.reg c38x7)))
abbrev c38x9:=[oK r4 .mov [.c (.bool true)]]
abbrev c38:CC:=(.seq (.reg c38x0) (.seq (.seq (.reg c38x1) (.cond (.r r10) (.seq (.reg c38x2) .ret) .skip)) (.seq (.seq (.reg c38x3) (.block 0 (.loop c38x8))) (.seq (.reg c38x9) .ret))))
theorem code38:E.func 38=some ⟨firstPaths 2,[.tmp r4],c38⟩:=codeOf Tryz.func38 (by kernel_rfl)
end
end Go.Ev
