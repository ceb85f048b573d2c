/- The code of more functions. -/
import Derived.Test.YtognadjclbihgaaGreatDoorKCodeA
set_option linter.all false
namespace Go.Ev
open Go.Proofs
set_option maxRecDepth 1000000
noncomputable section
abbrev c6x0:=[oK r2 (.alloc [.nils] 23) [],oK r3 (.alloc [(.int .i64 0)] 3) [],oK r4 (.alloc [(.int .i64 0)] 24) []]
abbrev c6x1:=[oK r5 (.alloc [.nils] 23) []]
abbrev c6x2:=[oK r6 (.alloc [.nils] 34) []]
abbrev c6x3:=[mK r12 r0,eK r13 r12 (.call 13)]
abbrev c6x4:=[oK r7 (.alloc [(.int .i64 0),(.bool false),(strOf []),.nils,(.int .i64 0)] 58) [],sK [.r r7,.r r14] (.store 5)]
abbrev c6x5:=[fK r15 r7 4,lK r16 r15,nK r17 r16 0 (.eql true .num)]
abbrev c6x6:List DStep:=[⟨fK r18 r7 0,[]⟩,⟨lK r19 r18,[]⟩,⟨fK r20 r7 4,[]⟩,⟨lK r21 r20,[]⟩,⟨sK [.r r2,.c .nils] (.store 1),[lK r21 r20,lK r19 r18]⟩,⟨sK [.r r3,.r r19] (.store 1),[lK r21 r20]⟩,⟨sK [.r r4,.r r21] (.store 1),[]⟩]
abbrev c6x7:=[fK r23 r7 1,eK r24 r23 (.loadA 3),eK r25 r24 (.call 14),mK r22 r25,xK r26 r22 0,xK r27 r22 1,oK r8 (.alloc [.nils,(strOf []),(strOf []),(.int .i64 0),.nils] 38) [],sK [.r r8,.r r26] (.store 5),mK r9 r27]
abbrev c6x8:=[mK r28 r9,eK r29 r28 .not]
abbrev c6x9:List DStep:=[⟨fK r30 r7 0,[]⟩,⟨lK r31 r30,[]⟩,⟨sK [.r r2,.c .nils] (.store 1),[lK r31 r30]⟩,⟨sK [.r r3,.r r31] (.store 1),[]⟩,⟨sK [.r r4,cK 3] (.store 1),[]⟩]
abbrev c6x10:List DStep:=[⟨lK r32 r5,[]⟩,⟨eK r33 r8 (.loadA 5),[]⟩,⟨eK r34 r33 (.bslice [.nils,(strOf []),(strOf []),(.int .i64 0),.nils] 38 1 [(0,5)]),[eK r33 r8 (.loadA 5),lK r32 r5]⟩,⟨lK r36 r6,[]⟩,⟨fK r37 r7 0,[]⟩,⟨lK r38 r37,[]⟩,⟨eK r39 r38 (.bslice [(.int .i64 0)] 3 1 [(0,1)]),[lK r38 r37,lK r36 r6,eK r33 r8 (.loadA 5),lK r32 r5]⟩,⟨dK r35 r32 r34 (.append 38 5),[lK r38 r37,lK r36 r6]⟩,⟨dK r40 r36 r39 (.append 3 1),[]⟩,⟨sK [.r r5,.r r35] (.store 1),[]⟩,⟨sK [.r r6,.r r40] (.store 1),[]⟩]
abbrev c6x11:=[lK r42 r5,eK r43 r42 (.call 15),mK r41 r43,xK r44 r41 0,xK r45 r41 1,mK r10 r44,mK r11 r45]
abbrev c6x12:=[mK r46 r11,nK r47 r46 0 (.eql true .num)]
abbrev c6x13:List DStep:=[⟨lK r48 r6,[]⟩,⟨mK r49 r10,[]⟩,⟨dK r50 r48 r49 (.idxSlA 1),[]⟩,⟨lK r51 r50,[]⟩,⟨mK r52 r11,[]⟩,⟨sK [.r r2,.c .nils] (.store 1),[lK r51 r50,lK r48 r6]⟩,⟨sK [.r r3,.r r51] (.store 1),[]⟩,⟨sK [.r r4,.r r52] (.store 1),[]⟩]
abbrev c6x14:=[lK r53 r5,sK [.r r2,.r r53] (.store 1),sK [.r r3,cK 0] (.store 1),sK [.r r4,cK 0] (.store 1)]
abbrev c6:CC:=(.seq (.reg c6x0) (.seq (.reg c6x1) (.seq (.reg c6x2) (.seq (.seq (.reg c6x3) (.block 0 (.rangeFunc (.r r13) [r14] (.reg c6x4) (.block 1 (.seq (.seq (.reg c6x5) (.cond (.r r17) (.seq (.draw c6x6) .ret) .skip)) (.seq (.reg c6x7) (.seq (.seq (.reg c6x8) (.cond (.r r29) (.seq (.draw c6x9) .ret) .skip)) (.draw c6x10)))))))) (.seq (.seq (.reg c6x11) (.seq (.reg c6x12) (.cond (.r r47) (.seq (.draw c6x13) .ret) .skip))) (.seq (.reg c6x14) .ret))))))
theorem code6:E.func 6=some ⟨firstPaths 1,[.cellC r2,.cellC r3,.cellC r4],c6⟩:=codeOf Tryz.func6 (by kernel_rfl)
abbrev c7x0:=[oK r2 .mov [.c .nils],oK r3 .mov [cK 0],oK r4 .mov [cK 0]]
abbrev c7x1:=[oK r15 (.bslice [] 38 0 []) [],oK r16 (.bslice [] 3 0 []) [],mK r5 r15,mK r6 r16]
abbrev c7x2:=[oK r7 .mov [cK 0]]
abbrev c7x3:=[mK r17 r7,mK r18 r0,eK r19 r18 .lenStr,dK r20 r17 r19 (.icmp .lss)]
abbrev c7x4:=[mK r22 r0,mK r23 r7,dK r24 r22 r23 (.sliceStr true false),eK r25 r24 (.call 16),mK r21 r25,xK r26 r21 0,xK r27 r21 1,xK r28 r21 2,oK r8 (.alloc [(.bool false),(strOf []),.nils] 56) [],sK [.r r8,.r r26] (.store 3),mK r9 r27,mK r10 r28]
abbrev c7x5:=[mK r29 r10,nK r30 r29 0 (.eql true .num)]
abbrev c7x6:=[oK r31 (.bslice [] 38 0 []) [],mK r32 r7,mK r33 r10,mK r2 r31,mK r3 r32,mK r4 r33]
abbrev c7x7:=[eK r35 r8 (.loadA 3),eK r36 r35 (.call 17),mK r34 r36,xK r37 r34 0,xK r38 r34 1,oK r11 (.alloc [.nils,(strOf []),(strOf []),(.int .i64 0),.nils] 38) [],sK [.r r11,.r r37] (.store 5),mK r12 r38]
abbrev c7x8:=[mK r39 r12,eK r40 r39 .not]
abbrev c7x9:=[oK r41 (.bslice [] 38 0 []) [],mK r42 r7,mK r2 r41,mK r3 r42,oK r4 .mov [cK 3]]
abbrev c7x10:=[mK r43 r5,eK r44 r11 (.loadA 5),eK r45 r44 (.bslice [.nils,(strOf []),(strOf []),(.int .i64 0),.nils] 38 1 [(0,5)]),dK r46 r43 r45 (.append 38 5),mK r47 r6,mK r48 r7,eK r49 r48 (.bslice [(.int .i64 0)] 3 1 [(0,1)]),dK r50 r47 r49 (.append 3 1),mK r5 r46,mK r6 r50]
abbrev c7x11:=[mK r51 r7,mK r52 r9,dK r53 r51 r52 .add,mK r7 r53]
abbrev c7x12:CC:=(.seq (.seq (.reg c7x3) (.cond (.r r20) .skip (.exit 0))) (.block 1 (.seq (.reg c7x4) (.seq (.seq (.reg c7x5) (.cond (.r r30) (.seq (.reg c7x6) .ret) .skip)) (.seq (.reg c7x7) (.seq (.seq (.reg c7x8) (.cond (.r r40) (.seq (.reg c7x9) .ret) .skip)) (.seq (.reg c7x10) (.reg c7x11))))))))
abbrev c7x13:=[mK r55 r5,eK r56 r55 (.call 18),mK r54 r56,xK r57 r54 0,xK r58 r54 1,mK r13 r57,mK r14 r58]
abbrev c7x14:=[mK r59 r14,nK r60 r59 0 (.eql true .num)]
abbrev c7x15:List DStep:=[⟨oK r61 (.bslice [] 38 0 []) [],[]⟩,⟨mK r62 r6,[]⟩,⟨mK r63 r13,[]⟩,⟨dK r64 r62 r63 (.idxSlA 1),[]⟩,⟨lK r65 r64,[]⟩,⟨mK r66 r14,[]⟩,⟨mK r2 r61,[]⟩,⟨mK r3 r65,[]⟩,⟨mK r4 r66,[]⟩]
abbrev c7x16:=[mK r67 r5,mK r2 r67,oK r3 .mov [cK 0],oK r4 .mov [cK 0]]
abbrev c7:CC:=(.seq (.reg c7x0) (.seq (.reg c7x1) (.seq (.seq (.reg c7x2) (.block 0 (.loop c7x12))) (.seq (.reg c7x13) (.seq (.seq (.reg c7x14) (.cond (.r r60) (.seq (.draw c7x15) .ret) .skip)) (.seq (.reg c7x16) .ret))))))
theorem code7:E.func 7=some ⟨firstPaths 1,[.tmp r2,.tmp r3,.tmp r4],c7⟩:=codeOf Tryz.func7 (by kernel_rfl)
abbrev c8x0:=[oK r4 .mov [.c (.bool false)]]
abbrev c8x1:=[mK r6 r0,eK r7 r6 .lenSl,mK r8 r1,eK r9 r8 .lenSl,dK r10 r7 r9 (.eql true .num)]
abbrev c8x2:=[oK r4 .mov [.c (.bool false)]]
abbrev c8x3:=[oK r5 .mov [cK 0]]
abbrev c8x4:=[mK r11 r5,mK r12 r0,eK r13 r12 .lenSl,dK r14 r11 r13 (.icmp .lss)]
abbrev c8x5:List DStep:=[⟨mK r17 r0,[]⟩,⟨mK r18 r5,[]⟩,⟨dK r19 r17 r18 (.idxSlA 5),[]⟩,⟨eK r20 r19 (.loadA 5),[]⟩,⟨mK r21 r1,[]⟩,⟨mK r22 r5,[]⟩,⟨dK r23 r21 r22 (.idxSlA 5),[]⟩,⟨eK r24 r23 (.loadA 5),[]⟩,⟨dK r25 r20 r24 (.call 19),[]⟩,⟨eK r26 r25 .not,[]⟩]
abbrev c8x6:=[oK r4 .mov [.c (.bool false)]]
abbrev c8x7:=[mK r15 r5,nK r16 r15 1 .add,mK r5 r16]
abbrev c8x8:CC:=(.seq (.seq (.reg c8x4) (.cond (.r r14) .skip (.exit 0))) (.seq (.block 1 (.seq (.draw c8x5) (.cond (.r r26) (.seq (.reg c8x6) .ret) .skip))) (.reg c8x7)))
abbrev c8x9:=[oK r4 .mov [.c (.bool true)]]
abbrev c8:CC:=(.seq (.reg c8x0) (.seq (.seq (.reg c8x1) (.cond (.r r10) (.seq (.reg c8x2) .ret) .skip)) (.seq (.seq (.reg c8x3) (.block 0 (.loop c8x8))) (.seq (.reg c8x9) .ret))))
theorem code8:E.func 8=some ⟨firstPaths 2,[.tmp r4],c8⟩:=codeOf Tryz.func8 (by kernel_rfl)
abbrev c13x0:=[eK r1 r0 (.box 9),oK r2 .mov [.c .nilf]]
abbrev c13x1:=[eK r3 r1 (.mkFn 28 0),mK r2 r3]
abbrev c13:CC:=(.seq (.reg c13x0) (.seq (.reg c13x1) .ret))
theorem code13:E.func 13=some ⟨firstPaths 1,[.tmp r2],c13⟩:=codeOf Tryz.func13 (by kernel_rfl)
abbrev c16x0:=[oK r2 (.alloc [(.bool false),(strOf []),.nils] 56) [],oK r3 .mov [cK 0],oK r4 .mov [cK 0]]
abbrev c16x1:=[mK r8 r0,nK r9 r8 20000 (.build [(strOf []),(.int .i64 0),(.int .i64 0),(.int .i64 0)] [(0,1),(2,1)]),nK r10 r9 12 (.call 34),mK r7 r10,xK r11 r7 0,xK r12 r7 1,oK r5 (.alloc [(.bool false),(strOf []),.nils] 56) [],oK r6 (.alloc [(strOf []),(.int .i64 0),(.int .i64 0),(.int .i64 0)] 89) [],sK [.r r5,.r r11] (.store 3),sK [.r r6,.r r12] (.store 4)]
abbrev c16x2:=[fK r13 r6 3,lK r14 r13,nK r15 r14 0 (.eql true .num)]
abbrev c16x3:List DStep:=[⟨oK r16 (.build [(.bool false),(strOf []),.nils] []) [],[]⟩,⟨fK r17 r6 3,[]⟩,⟨lK r18 r17,[]⟩,⟨sK [.r r2,.r r16] (.store 3),[lK r18 r17]⟩,⟨oK r3 .mov [cK 0],[]⟩,⟨mK r4 r18,[]⟩]
abbrev c16x4:List DStep:=[⟨eK r19 r5 (.loadA 3),[]⟩,⟨fK r20 r6 1,[]⟩,⟨lK r21 r20,[]⟩,⟨sK [.r r2,.r r19] (.store 3),[lK r21 r20]⟩,⟨mK r3 r21,[]⟩,⟨oK r4 .mov [cK 0],[]⟩]
abbrev c16:CC:=(.seq (.reg c16x0) (.seq (.reg c16x1) (.seq (.seq (.reg c16x2) (.cond (.r r15) (.seq (.draw c16x3) .ret) .skip)) (.seq (.draw c16x4) .ret))))
theorem code16:E.func 16=some ⟨firstPaths 1,[.cellA 3 r2,.tmp r3,.tmp r4],c16⟩:=codeOf Tryz.func16 (by kernel_rfl)
abbrev c17x0:=[eK r1 r0 (.box 56),oK r2 (.alloc [.nils,(strOf []),(strOf []),(.int .i64 0),.nils] 38) [],oK r3 .mov [.c (.bool false)]]
abbrev c17x1:=[fK r12 r1 0,lK r13 r12,eK r14 r13 .not,mK r15 r14,hK false r15 r16 r1 (.fieldA 2),hK false r15 r17 r16 .loadC,hK false r15 r18 r17 .lenSl,gK false r15 r19 (.eql true .num) [.r r18,cK 5],pK r20 r15 r19,mK r21 r20,hK false r21 r22 r1 (.fieldA 2),hK false r21 r23 r22 .loadC,gK false r21 r24 (.idxSlA 3) [.r r23,cK 0],hK false r21 r25 r24 (.fieldA 0),hK false r21 r26 r25 .loadC,hK false r21 r27 r26 .not,pK r28 r21 r27,mK r29 r28,hK false r29 r30 r1 (.fieldA 2),hK false r29 r31 r30 .loadC,gK false r29 r32 (.idxSlA 3) [.r r31,cK 1],hK false r29 r33 r32 (.fieldA 0),hK false r29 r34 r33 .loadC,pK r35 r29 r34,mK r36 r35,hK false r36 r37 r1 (.fieldA 2),hK false r36 r38 r37 .loadC,gK false r36 r39 (.idxSlA 3) [.r r38,cK 2],hK false r36 r40 r39 (.fieldA 0),hK false r36 r41 r40 .loadC,pK r42 r36 r41,mK r43 r42,hK false r43 r44 r1 (.fieldA 2),hK false r43 r45 r44 .loadC,gK false r43 r46 (.idxSlA 3) [.r r45,cK 4],hK false r43 r47 r46 (.fieldA 0),hK false r43 r48 r47 .loadC,hK false r43 r49 r48 .not,pK r50 r43 r49]
abbrev c17x2:=[oK r51 (.build [.nils,(strOf []),(strOf []),(.int .i64 0),.nils] []) [],sK [.r r2,.r r51] (.store 5),oK r3 .mov [.c (.bool false)]]
abbrev c17x3:=[fK r53 r1 2,lK r54 r53,nK r55 r54 0 (.idxSlA 3),fK r56 r55 2,lK r57 r56,eK r58 r57 (.call 35),mK r52 r58,xK r59 r52 0,xK r60 r52 1,mK r4 r59,mK r5 r60]
abbrev c17x4:=[fK r62 r1 2,lK r63 r62,oK r64 (.sliceSl 3 true true false) [.r r63,cK 4,cK 3],eK r65 r64 (.call 35),mK r61 r65,xK r66 r61 0,xK r67 r61 1,mK r6 r66,mK r7 r67]
abbrev c17x5:=[mK r68 r5,eK r69 r68 .not,mK r70 r69,hK false r70 r71 r7 .mov,hK false r70 r72 r71 .not,pK r73 r70 r72]
abbrev c17x6:=[oK r74 (.build [.nils,(strOf []),(strOf []),(.int .i64 0),.nils] []) [],sK [.r r2,.r r74] (.store 5),oK r3 .mov [.c (.bool false)]]
abbrev c17x7:List DStep:=[⟨mK r75 r4,[]⟩,⟨fK r76 r1 2,[]⟩,⟨lK r77 r76,[]⟩,⟨nK r78 r77 1 (.idxSlA 3),[]⟩,⟨fK r79 r78 1,[]⟩,⟨lK r80 r79,[]⟩,⟨fK r81 r1 2,[]⟩,⟨lK r82 r81,[]⟩,⟨nK r83 r82 2 (.idxSlA 3),[]⟩,⟨fK r84 r83 1,[]⟩,⟨lK r85 r84,[]⟩,⟨mK r86 r6,[]⟩,⟨nK r87 r86 0 (.idxSlA 1),[]⟩,⟨lK r88 r87,[]⟩,⟨oK r89 (.build [.nils,(strOf []),(strOf []),(.int .i64 0),.nils] [(0,1),(1,1),(2,1),(3,1)]) [.r r75,.r r80,.r r85,.r r88],[]⟩,⟨oK r8 (.alloc [.nils,(strOf []),(strOf []),(.int .i64 0),.nils] 38) [],[lK r88 r87,lK r85 r84,lK r82 r81,lK r80 r79,lK r77 r76]⟩,⟨sK [.r r8,.r r89] (.store 5),[]⟩]
abbrev c17x8:=[oK r9 .mov [cK 0]]
abbrev c17x9:=[mK r90 r9,fK r91 r1 2,lK r92 r91,nK r93 r92 4 (.idxSlA 3),fK r94 r93 2,lK r95 r94,eK r96 r95 .lenSl,dK r97 r90 r96 (.icmp .lss)]
abbrev c17x10:=[fK r101 r1 2,lK r102 r101,nK r103 r102 4 (.idxSlA 3),fK r104 r103 2,lK r105 r104,mK r106 r9,dK r107 r105 r106 (.idxSlA 3),eK r108 r107 (.loadA 3),eK r109 r108 (.call 36),mK r100 r109,xK r110 r100 0,xK r111 r100 1,oK r10 (.alloc [(strOf []),(.int .i64 0),(.int .i64 0),(strOf [])] 68) [],sK [.r r10,.r r110] (.store 4),mK r11 r111]
abbrev c17x11:=[mK r112 r11,eK r113 r112 .not]
abbrev c17x12:=[oK r114 (.build [.nils,(strOf []),(strOf []),(.int .i64 0),.nils] []) [],sK [.r r2,.r r114] (.store 5),oK r3 .mov [.c (.bool false)]]
abbrev c17x13:=[fK r115 r8 4,lK r116 r115,eK r117 r10 (.loadA 4),eK r118 r117 (.bslice [(strOf []),(.int .i64 0),(.int .i64 0),(strOf [])] 68 1 [(0,4)]),dK r119 r116 r118 (.append 68 4),fK r120 r8 4,sK [.r r120,.r r119] (.store 1)]
abbrev c17x14:=[mK r98 r9,nK r99 r98 1 .add,mK r9 r99]
abbrev c17x15:CC:=(.seq (.seq (.reg c17x9) (.cond (.r r97) .skip (.exit 0))) (.seq (.block 1 (.seq (.reg c17x10) (.seq (.seq (.reg c17x11) (.cond (.r r113) (.seq (.reg c17x12) .ret) .skip)) (.reg c17x13)))) (.reg c17x14)))
abbrev c17x16:=[eK r121 r8 (.loadA 5),sK [.r r2,.r r121] (.store 5),oK r3 .mov [.c (.bool true)]]
abbrev c17:CC:=(.seq (.reg c17x0) (.seq (.seq (.reg c17x1) (.cond (.r r50) (.seq (.reg c17x2) .ret) .skip)) (.seq (.reg c17x3) (.seq (.reg c17x4) (.seq (.seq (.reg c17x5) (.cond (.r r73) (.seq (.reg c17x6) .ret) .skip)) (.seq (.draw c17x7) (.seq (.seq (.reg c17x8) (.block 0 (.loop c17x15))) (.seq (.reg c17x16) .ret))))))))
theorem code17:E.func 17=some ⟨firstPaths 1,[.cellA 5 r2,.tmp r3],c17⟩:=codeOf Tryz.func17 (by kernel_rfl)
abbrev c19x0:=[eK r2 r0 (.box 38),eK r3 r1 (.box 38),oK r4 .mov [.c (.bool false)]]
abbrev c19x1:=[fK r6 r2 0,lK r7 r6,eK r8 r7 .lenSl,fK r9 r3 0,lK r10 r9,eK r11 r10 .lenSl,dK r12 r8 r11 (.eql true .num)]
abbrev c19x2:=[oK r4 .mov [.c (.bool false)]]
abbrev c19x3:=[oK r5 .mov [cK 0]]
abbrev c19x4:=[mK r13 r5,fK r14 r2 0,lK r15 r14,eK r16 r15 .lenSl,dK r17 r13 r16 (.icmp .lss)]
abbrev c19x5:List DStep:=[⟨fK r20 r2 0,[]⟩,⟨lK r21 r20,[]⟩,⟨mK r22 r5,[]⟩,⟨dK r23 r21 r22 (.idxSlA 1),[]⟩,⟨lK r24 r23,[]⟩,⟨fK r25 r3 0,[]⟩,⟨lK r26 r25,[]⟩,⟨mK r27 r5,[]⟩,⟨dK r28 r26 r27 (.idxSlA 1),[]⟩,⟨lK r29 r28,[]⟩,⟨dK r30 r24 r29 (.eql true .num),[]⟩]
abbrev c19x6:=[oK r4 .mov [.c (.bool false)]]
abbrev c19x7:=[mK r18 r5,nK r19 r18 1 .add,mK r5 r19]
abbrev c19x8:CC:=(.seq (.seq (.reg c19x4) (.cond (.r r17) .skip (.exit 0))) (.seq (.block 1 (.seq (.draw c19x5) (.cond (.r r30) (.seq (.reg c19x6) .ret) .skip))) (.reg c19x7)))
abbrev c19x9:=[fK r31 r2 1,lK r32 r31,fK r33 r3 1,lK r34 r33,dK r35 r32 r34 (.eql false .num),mK r36 r35,hK true r36 r37 r2 (.fieldA 2),hK true r36 r38 r37 .loadC,hK true r36 r39 r3 (.fieldA 2),hK true r36 r40 r39 .loadC,gK true r36 r41 (.eql false .num) [.r r38,.r r40],qK r42 r36 r41,mK r43 r42,hK true r43 r44 r2 (.fieldA 3),hK true r43 r45 r44 .loadC,hK true r43 r46 r3 (.fieldA 3),hK true r43 r47 r46 .loadC,gK true r43 r48 (.eql false .num) [.r r45,.r r47],qK r49 r43 r48,mK r50 r49,hK true r50 r51 r2 (.fieldA 4),hK true r50 r52 r51 .loadC,hK true r50 r53 r3 (.fieldA 4),hK true r50 r54 r53 .loadC,gK true r50 r55 (.call 38) [.r r52,.r r54],qK r56 r50 r55,mK r4 r56]
abbrev c19:CC:=(.seq (.reg c19x0) (.seq (.seq (.reg c19x1) (.cond (.r r12) (.seq (.reg c19x2) .ret) .skip)) (.seq (.seq (.reg c19x3) (.block 0 (.loop c19x8))) (.seq (.reg c19x9) .ret))))
theorem code19:E.func 19=some ⟨firstPaths 2,[.tmp r4],c19⟩:=codeOf Tryz.func19 (by kernel_rfl)
abbrev c28x0:=[oK r3 .mov [cK 0]]
abbrev c28x1:=[mK r7 r3,lK r8 r1,eK r9 r8 .lenStr,dK r10 r7 r9 (.icmp .lss)]
abbrev c28x2:=[lK r12 r1,mK r13 r3,dK r14 r12 r13 (.sliceStr true false),eK r15 r14 (.call 29),mK r11 r15,xK r16 r11 0,xK r17 r11 1,xK r18 r11 2,oK r4 (.alloc [(.bool false),(strOf []),.nils] 56) [],sK [.r r4,.r r16] (.store 3),mK r5 r17,mK r6 r18]
abbrev c28x3:=[mK r19 r0,mK r20 r3,eK r21 r4 (.loadA 3),mK r22 r6,oK r23 (.build [(.int .i64 0),(.bool false),(strOf []),.nils,(.int .i64 0)] [(0,1),(1,3),(4,1)]) [.r r20,.r r21,.r r22],dK r24 r19 r23 .callv,eK r25 r24 .not,mK r26 r25,hK false r26 r27 r6 .mov,gK false r26 r28 (.eql true .num) [.r r27,cK 0],pK r29 r26 r28]
abbrev c28x4:=[mK r30 r3,mK r31 r5,dK r32 r30 r31 .add,mK r3 r32]
abbrev c28x5:CC:=(.seq (.seq (.reg c28x1) (.cond (.r r10) .skip (.exit 0))) (.block 1 (.seq (.reg c28x2) (.seq (.seq (.reg c28x3) (.cond (.r r29) .ret .skip)) (.reg c28x4)))))
abbrev c28:CC:=(.seq (.reg c28x0) (.block 0 (.loop c28x5)))
theorem code28:E.func 28=some ⟨firstPaths 2,[],c28⟩:=codeOf Tryz.func28 (by kernel_rfl)
abbrev c34x0:=[eK r2 r0 (.box 89),oK r4 (.alloc [(.bool false),(strOf []),.nils] 56) [],oK r5 (.alloc [(strOf []),(.int .i64 0),(.int .i64 0),(.int .i64 0)] 89) []]
abbrev c34x1:=[fK r11 r2 1,lK r12 r11,fK r13 r2 0,lK r14 r13,eK r15 r14 .lenStr,dK r16 r12 r15 (.eql false .num)]
abbrev c34x2:=[fK r17 r2 3,sK [.r r17,cK 11] (.store 1)]
abbrev c34x3:List DStep:=[⟨oK r18 (.build [(.bool false),(strOf []),.nils] []) [],[]⟩,⟨eK r19 r2 (.loadA 4),[]⟩,⟨sK [.r r4,.r r18] (.store 3),[eK r19 r2 (.loadA 4)]⟩,⟨sK [.r r5,.r r19] (.store 4),[]⟩]
abbrev c34x4:=[mK r20 r1,nK r21 r20 0 (.eql false .num),mK r22 r21,hK false r22 r23 r2 (.fieldA 2),hK false r22 r24 r23 .loadC,gK false r22 r25 (.eql false .num) [.r r24,cK 0],pK r26 r22 r25]
abbrev c34x5:=[fK r27 r2 3,sK [.r r27,cK 12] (.store 1)]
abbrev c34x6:List DStep:=[⟨oK r28 (.build [(.bool false),(strOf []),.nils] []) [],[]⟩,⟨eK r29 r2 (.loadA 4),[]⟩,⟨sK [.r r4,.r r28] (.store 3),[eK r29 r2 (.loadA 4)]⟩,⟨sK [.r r5,.r r29] (.store 4),[]⟩]
abbrev c34x7:=[fK r30 r2 2,lK r31 r30,nK r32 r31 1 .sub,fK r33 r2 2,sK [.r r33,.r r32] (.store 1)]
abbrev c34x8:=[fK r34 r2 0,lK r35 r34,fK r36 r2 1,lK r37 r36,dK r38 r35 r37 .idxStr,oK r39 (.eql true .num) [.r r38,.c (.int .u8 40)]]
abbrev c34x9:=[eK r41 r2 (.loadA 4),eK r42 r41 (.call 65),mK r40 r42,xK r43 r40 0,xK r44 r40 1,oK r7 (.alloc [(strOf []),(.int .i64 0),(.int .i64 0),(.int .i64 0)] 89) [],mK r6 r43,sK [.r r7,.r r44] (.store 4)]
abbrev c34x10:List DStep:=[⟨mK r45 r6,[]⟩,⟨eK r46 r45 (.build [(.bool false),(strOf []),.nils] [(1,1)]),[]⟩,⟨eK r47 r7 (.loadA 4),[]⟩,⟨sK [.r r4,.r r46] (.store 3),[eK r47 r7 (.loadA 4)]⟩,⟨sK [.r r5,.r r47] (.store 4),[]⟩]
abbrev c34x11:=[oK r48 (.build [(.bool false),(strOf []),.nils] [(0,1)]) [.c (.bool true)],oK r8 (.alloc [(.bool false),(strOf []),.nils] 56) [],sK [.r r8,.r r48] (.store 3)]
abbrev c34x12:=[fK r49 r2 1,lK r50 r49,nK r51 r50 1 .add,fK r52 r2 1,sK [.r r52,.r r51] (.store 1)]
abbrev c34x13:=[fK r53 r2 3,lK r54 r53,nK r55 r54 0 (.eql false .num),mK r56 r55,hK true r56 r57 r2 (.fieldA 1),hK true r56 r58 r57 .loadC,hK true r56 r59 r2 (.fieldA 0),hK true r56 r60 r59 .loadC,hK true r56 r61 r60 .lenStr,gK true r56 r62 (.eql false .num) [.r r58,.r r61],hK true r56 r63 r62 .mov,hK false r63 r64 r2 (.fieldA 0),hK false r63 r65 r64 .loadC,hK false r63 r66 r2 (.fieldA 1),hK false r63 r67 r66 .loadC,gK false r63 r68 .idxStr [.r r65,.r r67],gK false r63 r69 (.eql true .num) [.r r68,.c (.int .u8 41)],gK true r56 r70 .pick [.r r63,.c (.bool true),.r r69],qK r71 r56 r70]
abbrev c34x14:=[eK r73 r2 (.loadA 4),mK r74 r1,nK r75 r74 1 .sub,dK r76 r73 r75 (.call 34),mK r72 r76,xK r77 r72 0,xK r78 r72 1,oK r9 (.alloc [(.bool false),(strOf []),.nils] 56) [],oK r10 (.alloc [(strOf []),(.int .i64 0),(.int .i64 0),(.int .i64 0)] 89) [],sK [.r r9,.r r77] (.store 3),sK [.r r10,.r r78] (.store 4)]
abbrev c34x15:=[fK r79 r10 3,lK r80 r79,nK r81 r80 0 (.eql false .num)]
abbrev c34x16:=[fK r82 r8 2,lK r83 r82,eK r84 r9 (.loadA 3),eK r85 r84 (.bslice [(.bool false),(strOf []),.nils] 56 1 [(0,3)]),dK r86 r83 r85 (.append 56 3),fK r87 r8 2,sK [.r r87,.r r86] (.store 1)]
abbrev c34x17:=[fK r88 r2 1,lK r89 r88,fK r90 r2 0,lK r91 r90,eK r92 r91 .lenStr,dK r93 r89 r92 (.eql false .num)]
abbrev c34x18:=[fK r94 r10 3,sK [.r r94,cK 11] (.store 1)]
abbrev c34x19:=[eK r95 r10 (.loadA 4),sK [.r r2,.r r95] (.store 4)]
abbrev c34x20:CC:=(.seq (.seq (.reg c34x13) (.cond (.r r71) .skip (.exit 0))) (.block 1 (.seq (.reg c34x14) (.seq (.seq (.reg c34x15) (.cond (.r r81) (.reg c34x16) .skip)) (.seq (.seq (.reg c34x17) (.cond (.r r93) (.reg c34x18) .skip)) (.reg c34x19))))))
abbrev c34x21:=[fK r96 r2 1,lK r97 r96,nK r98 r97 1 .add,fK r99 r2 1,sK [.r r99,.r r98] (.store 1)]
abbrev c34x22:List DStep:=[⟨eK r100 r8 (.loadA 3),[]⟩,⟨eK r101 r2 (.loadA 4),[]⟩,⟨sK [.r r4,.r r100] (.store 3),[eK r101 r2 (.loadA 4)]⟩,⟨sK [.r r5,.r r101] (.store 4),[]⟩]
abbrev c34:CC:=(.seq (.reg c34x0) (.seq (.seq (.reg c34x1) (.cond (.r r16) (.seq (.reg c34x2) (.seq (.draw c34x3) .ret)) .skip)) (.seq (.seq (.reg c34x4) (.cond (.r r26) (.seq (.reg c34x5) (.seq (.draw c34x6) .ret)) .skip)) (.seq (.reg c34x7) (.seq (.seq (.reg c34x8) (.cond (.r r39) (.seq (.reg c34x9) (.seq (.draw c34x10) .ret)) .skip)) (.seq (.reg c34x11) (.seq (.reg c34x12) (.seq (.block 0 (.loop c34x20)) (.seq (.reg c34x21) (.seq (.draw c34x22) .ret))))))))))
theorem code34:E.func 34=some ⟨firstPaths 2,[.cellA 3 r4,.cellA 4 r5],c34⟩:=codeOf Tryz.func34 (by kernel_rfl)
abbrev c35x0:=[oK r2 .mov [.c .nils],oK r3 .mov [.c (.bool false)]]
abbrev c35x1:=[oK r8 (.bslice [] 3 0 []) [],mK r4 r8]
abbrev c35x2:=[oK r5 .mov [cK 0]]
abbrev c35x3:=[mK r9 r5,mK r10 r0,eK r11 r10 .lenSl,dK r12 r9 r11 (.icmp .lss)]
abbrev c35x4:=[mK r16 r0,mK r17 r5,dK r18 r16 r17 (.idxSlA 3),eK r19 r18 (.loadA 3),eK r20 r19 (.call 66),mK r15 r20,xK r21 r15 0,xK r22 r15 1,mK r6 r21,mK r7 r22]
abbrev c35x5:=[mK r23 r7,nK r24 r23 0 (.eql true .num)]
abbrev c35x6:=[oK r2 .mov [.c .nils],oK r3 .mov [.c (.bool false)]]
abbrev c35x7:=[mK r25 r4,mK r26 r6,eK r27 r26 (.bslice [(.int .i64 0)] 3 1 [(0,1)]),dK r28 r25 r27 (.append 3 1),mK r4 r28]
abbrev c35x8:=[mK r13 r5,nK r14 r13 1 .add,mK r5 r14]
abbrev c35x9:CC:=(.seq (.seq (.reg c35x3) (.cond (.r r12) .skip (.exit 0))) (.seq (.block 1 (.seq (.reg c35x4) (.seq (.seq (.reg c35x5) (.cond (.r r24) (.seq (.reg c35x6) .ret) .skip)) (.reg c35x7)))) (.reg c35x8)))
abbrev c35x10:=[mK r29 r4,mK r2 r29,oK r3 .mov [.c (.bool true)]]
abbrev c35:CC:=(.seq (.reg c35x0) (.seq (.reg c35x1) (.seq (.seq (.reg c35x2) (.block 0 (.loop c35x9))) (.seq (.reg c35x10) .ret))))
theorem code35:E.func 35=some ⟨firstPaths 1,[.tmp r2,.tmp r3],c35⟩:=codeOf Tryz.func35 (by kernel_rfl)
abbrev c36x0:=[eK r1 r0 (.box 56),oK r2 (.alloc [(strOf []),(.int .i64 0),(.int .i64 0),(strOf [])] 68) [],oK r3 .mov [.c (.bool false)]]
abbrev c36x1:=[fK r6 r1 0,lK r7 r6,eK r8 r7 .not,mK r9 r8,hK false r9 r10 r1 (.fieldA 2),hK false r9 r11 r10 .loadC,hK false r9 r12 r11 .lenSl,gK false r9 r13 (.eql true .num) [.r r12,cK 4],pK r14 r9 r13,mK r15 r14,hK false r15 r16 r1 (.fieldA 2),hK false r15 r17 r16 .loadC,gK false r15 r18 (.idxSlA 3) [.r r17,cK 0],hK false r15 r19 r18 (.fieldA 0),hK false r15 r20 r19 .loadC,pK r21 r15 r20,mK r22 r21,hK false r22 r23 r1 (.fieldA 2),hK false r22 r24 r23 .loadC,gK false r22 r25 (.idxSlA 3) [.r r24,cK 3],hK false r22 r26 r25 (.fieldA 0),hK false r22 r27 r26 .loadC,pK r28 r22 r27]
abbrev c36x2:=[oK r29 (.build [(strOf []),(.int .i64 0),(.int .i64 0),(strOf [])] []) [],sK [.r r2,.r r29] (.store 4),oK r3 .mov [.c (.bool false)]]
abbrev c36x3:=[fK r31 r1 2,lK r32 r31,oK r33 (.sliceSl 3 true true false) [.r r32,cK 3,cK 1],eK r34 r33 (.call 35),mK r30 r34,xK r35 r30 0,xK r36 r30 1,mK r4 r35,mK r5 r36]
abbrev c36x4:=[mK r37 r5,eK r38 r37 .not]
abbrev c36x5:=[oK r39 (.build [(strOf []),(.int .i64 0),(.int .i64 0),(strOf [])] []) [],sK [.r r2,.r r39] (.store 4),oK r3 .mov [.c (.bool false)]]
abbrev c36x6:List DStep:=[⟨fK r40 r1 2,[]⟩,⟨lK r41 r40,[]⟩,⟨nK r42 r41 0 (.idxSlA 3),[]⟩,⟨fK r43 r42 1,[]⟩,⟨lK r44 r43,[]⟩,⟨mK r45 r4,[]⟩,⟨nK r46 r45 0 (.idxSlA 1),[]⟩,⟨lK r47 r46,[]⟩,⟨mK r48 r4,[]⟩,⟨nK r49 r48 1 (.idxSlA 1),[]⟩,⟨lK r50 r49,[]⟩,⟨fK r51 r1 2,[]⟩,⟨lK r52 r51,[]⟩,⟨nK r53 r52 3 (.idxSlA 3),[]⟩,⟨fK r54 r53 1,[]⟩,⟨lK r55 r54,[]⟩,⟨oK r56 (.build [(strOf []),(.int .i64 0),(.int .i64 0),(strOf [])] [(0,1),(1,1),(2,1),(3,1)]) [.r r44,.r r47,.r r50,.r r55],[]⟩,⟨sK [.r r2,.r r56] (.store 4),[]⟩,⟨oK r3 .mov [.c (.bool true)],[]⟩]
abbrev c36:CC:=(.seq (.reg c36x0) (.seq (.seq (.reg c36x1) (.cond (.r r28) (.seq (.reg c36x2) .ret) .skip)) (.seq (.reg c36x3) (.seq (.seq (.reg c36x4) (.cond (.r r38) (.seq (.reg c36x5) .ret) .skip)) (.seq (.draw c36x6) .ret)))))
theorem code36:E.func 36=some ⟨firstPaths 1,[.cellA 4 r2,.tmp r3],c36⟩:=codeOf Tryz.func36 (by kernel_rfl)
abbrev c38x0:=[oK r4 .mov [.c (.bool false)]]
abbrev c38x1:=[mK r6 r0,eK r7 r6 .lenSl,mK r8 r1,eK r9 r8 .lenSl,dK r10 r7 r9 (.eql true .num)]
abbrev c38x2:=[oK r4 .mov [.c (.bool false)]]
abbrev c38x3:=[oK r5 .mov [cK 0]]
abbrev c38x4:=[mK r11 r5,mK r12 r0,eK r13 r12 .lenSl,dK r14 r11 r13 (.icmp .lss)]
abbrev c38x5:List DStep:=[⟨mK r17 r0,[]⟩,⟨mK r18 r5,[]⟩,⟨dK r19 r17 r18 (.idxSlA 4),[]⟩,⟨eK r20 r19 (.loadA 4),[]⟩,⟨mK r21 r1,[]⟩,⟨mK r22 r5,[]⟩,⟨dK r23 r21 r22 (.idxSlA 4),[]⟩,⟨eK r24 r23 (.loadA 4),[]⟩,⟨dK r25 r20 r24 (.eql true (.agg [.str,.int,.int,.str])),[]⟩]
abbrev c38x6:=[oK r4 .mov [.c (.bool false)]]
abbrev c38x7:=[mK r15 r5,nK r16 r15 1 .add,mK r5 r16]
abbrev c38x8:CC:=(.seq (.seq (.reg c38x4) (.cond (.r r14) .skip (.exit 0))) (.seq (.block 1 (.seq (.draw c38x5) (.cond (.r r25) (.seq (.reg c38x6) .ret) .skip))) (.reg c38x7)))
abbrev c38x9:=[oK r4 .mov [.c (.bool true)]]
abbrev c38:CC:=(.seq (.reg c38x0) (.seq (.seq (.reg c38x1) (.cond (.r r10) (.seq (.reg c38x2) .ret) .skip)) (.seq (.seq (.reg c38x3) (.block 0 (.loop c38x8))) (.seq (.reg c38x9) .ret))))
theorem code38:E.func 38=some ⟨firstPaths 2,[.tmp r4],c38⟩:=codeOf Tryz.func38 (by kernel_rfl)
abbrev c65x0:=[eK r1 r0 (.box 89),oK r2 .mov [.c (strOf [])],oK r3 (.alloc [(strOf []),(.int .i64 0),(.int .i64 0),(.int .i64 0)] 89) []]
abbrev c65x1:List DStep:=[⟨fK r7 r1 1,[]⟩,⟨lK r8 r7,[]⟩,⟨oK r4 .mov [cK 0],[]⟩,⟨mK r5 r8,[]⟩]
abbrev c65x2:=[fK r9 r1 1,lK r10 r9,fK r11 r1 0,lK r12 r11,eK r13 r12 .lenStr,dK r14 r10 r13 (.icmp .lss),mK r15 r14,hK true r15 r16 r1 (.fieldA 0),hK true r15 r17 r16 .loadC,hK true r15 r18 r1 (.fieldA 1),hK true r15 r19 r18 .loadC,gK true r15 r20 .idxStr [.r r17,.r r19],gK true r15 r21 (.icmp .geq) [.r r20,.c (.int .u8 48)],qK r22 r15 r21,mK r23 r22,hK true r23 r24 r1 (.fieldA 0),hK true r23 r25 r24 .loadC,hK true r23 r26 r1 (.fieldA 1),hK true r23 r27 r26 .loadC,gK true r23 r28 .idxStr [.r r25,.r r27],gK true r23 r29 (.icmp .leq) [.r r28,.c (.int .u8 57)],qK r30 r23 r29]
abbrev c65x3:=[mK r31 r4,nK r32 r31 10 .mul,fK r33 r1 0,lK r34 r33,fK r35 r1 1,lK r36 r35,dK r37 r34 r36 .idxStr,oK r38 .sub [.r r37,.c (.int .u8 48)],eK r39 r38 (.convInt .i64),dK r40 r32 r39 .add,mK r4 r40]
abbrev c65x4:=[fK r41 r1 1,lK r42 r41,nK r43 r42 1 .add,fK r44 r1 1,sK [.r r44,.r r43] (.store 1)]
abbrev c65x5:=[mK r45 r4,nK r46 r45 65536 (.icmp .gtr),mK r47 r46,hK false r47 r48 r1 (.fieldA 1),hK false r47 r49 r48 .loadC,hK false r47 r50 r5 .mov,gK false r47 r51 .sub [.r r49,.r r50],gK false r47 r52 (.icmp .gtr) [.r r51,cK 1],hK false r47 r53 r52 .mov,hK true r53 r54 r1 (.fieldA 0),hK true r53 r55 r54 .loadC,hK true r53 r56 r5 .mov,gK true r53 r57 .idxStr [.r r55,.r r56],gK true r53 r58 (.eql false .num) [.r r57,.c (.int .u8 48)],gK false r47 r59 .pick [.r r53,.r r58,.c (.bool false)],pK r60 r47 r59]
abbrev c65x6:=[fK r61 r1 3,sK [.r r61,cK 12] (.store 1)]
abbrev c65x7:List DStep:=[⟨eK r62 r1 (.loadA 4),[]⟩,⟨oK r2 .mov [.c (strOf [])],[]⟩,⟨sK [.r r3,.r r62] (.store 4),[]⟩]
abbrev c65x8:CC:=(.seq (.seq (.reg c65x2) (.cond (.r r30) .skip (.exit 0))) (.block 1 (.seq (.reg c65x3) (.seq (.reg c65x4) (.seq (.reg c65x5) (.cond (.r r60) (.seq (.reg c65x6) (.seq (.draw c65x7) .ret)) .skip))))))
abbrev c65x9:=[fK r63 r1 1,lK r64 r63,fK r65 r1 0,lK r66 r65,eK r67 r66 .lenStr,dK r68 r64 r67 (.eql false .num)]
abbrev c65x10:=[fK r69 r1 3,sK [.r r69,cK 11] (.store 1)]
abbrev c65x11:List DStep:=[⟨eK r70 r1 (.loadA 4),[]⟩,⟨oK r2 .mov [.c (strOf [])],[]⟩,⟨sK [.r r3,.r r70] (.store 4),[]⟩]
abbrev c65x12:=[fK r71 r1 1,lK r72 r71,mK r73 r5,dK r74 r72 r73 (.eql false .num),mK r75 r74,hK false r75 r76 r1 (.fieldA 0),hK false r75 r77 r76 .loadC,hK false r75 r78 r1 (.fieldA 1),hK false r75 r79 r78 .loadC,gK false r75 r80 .idxStr [.r r77,.r r79],gK false r75 r81 (.eql true .num) [.r r80,.c (.int .u8 58)],pK r82 r75 r81]
abbrev c65x13:=[fK r83 r1 3,sK [.r r83,cK 12] (.store 1)]
abbrev c65x14:List DStep:=[⟨eK r84 r1 (.loadA 4),[]⟩,⟨oK r2 .mov [.c (strOf [])],[]⟩,⟨sK [.r r3,.r r84] (.store 4),[]⟩]
abbrev c65x15:=[fK r85 r1 1,lK r86 r85,nK r87 r86 1 .add,fK r88 r1 1,sK [.r r88,.r r87] (.store 1)]
abbrev c65x16:=[fK r89 r1 0,lK r90 r89,eK r91 r90 .lenStr,fK r92 r1 1,lK r93 r92,dK r94 r91 r93 .sub,mK r95 r4,dK r96 r94 r95 (.icmp .lss)]
abbrev c65x17:=[fK r97 r1 3,sK [.r r97,cK 11] (.store 1)]
abbrev c65x18:List DStep:=[⟨eK r98 r1 (.loadA 4),[]⟩,⟨oK r2 .mov [.c (strOf [])],[]⟩,⟨sK [.r r3,.r r98] (.store 4),[]⟩]
abbrev c65x19:=[fK r99 r1 0,lK r100 r99,fK r101 r1 1,lK r102 r101,fK r103 r1 1,lK r104 r103,mK r105 r4,dK r106 r104 r105 .add,oK r107 (.sliceStr true true) [.r r100,.r r106,.r r102],mK r6 r107]
abbrev c65x20:=[fK r108 r1 1,lK r109 r108,mK r110 r4,dK r111 r109 r110 .add,fK r112 r1 1,sK [.r r112,.r r111] (.store 1)]
abbrev c65x21:List DStep:=[⟨mK r113 r6,[]⟩,⟨eK r114 r1 (.loadA 4),[]⟩,⟨mK r2 r113,[]⟩,⟨sK [.r r3,.r r114] (.store 4),[]⟩]
abbrev c65:CC:=(.seq (.reg c65x0) (.seq (.draw c65x1) (.seq (.block 0 (.loop c65x8)) (.seq (.seq (.reg c65x9) (.cond (.r r68) (.seq (.reg c65x10) (.seq (.draw c65x11) .ret)) .skip)) (.seq (.seq (.reg c65x12) (.cond (.r r82) (.seq (.reg c65x13) (.seq (.draw c65x14) .ret)) .skip)) (.seq (.reg c65x15) (.seq (.seq (.reg c65x16) (.cond (.r r96) (.seq (.reg c65x17) (.seq (.draw c65x18) .ret)) .skip)) (.seq (.reg c65x19) (.seq (.reg c65x20) (.seq (.draw c65x21) .ret))))))))))
theorem code65:E.func 65=some ⟨firstPaths 1,[.tmp r2,.cellA 4 r3],c65⟩:=codeOf Tryz.func65 (by kernel_rfl)
abbrev c66x0:=[eK r1 r0 (.box 56),oK r2 .mov [cK 0],oK r3 .mov [cK 0]]
abbrev c66x1:=[eK r9 r1 (.loadA 3),eK r10 r9 (.call 115),mK r4 r10]
abbrev c66x2:=[mK r11 r4,nK r12 r11 0 (.eql true .num)]
abbrev c66x3:=[mK r13 r4,oK r2 .mov [cK 0],mK r3 r13]
abbrev c66x4:=[fK r14 r1 0,lK r15 r14]
abbrev c66x5:=[oK r2 .mov [cK 0],oK r3 .mov [cK 8]]
abbrev c66x6:=[fK r16 r1 1,lK r17 r16,mK r5 r17]
abbrev c66x7:=[mK r18 r5,eK r19 r18 (.call 116),eK r20 r19 .not]
abbrev c66x8:=[oK r2 .mov [cK 0],oK r3 .mov [cK 3]]
abbrev c66x9:=[oK r6 .mov [cK 0],oK r7 .mov [cK 1]]
abbrev c66x10:=[oK r8 .mov [cK 0]]
abbrev c66x11:=[mK r21 r8,mK r22 r5,eK r23 r22 .lenStr,dK r24 r21 r23 (.icmp .lss)]
abbrev c66x12:=[mK r27 r5,mK r28 r8,dK r29 r27 r28 .idxStr,oK r30 (.eql false .num) [.r r29,.c (.int .u8 45)]]
abbrev c66x13:=[oK r7 .mov [cK (-1)]]
abbrev c66x14:=[mK r31 r6,nK r32 r31 10 .mul,mK r33 r5,mK r34 r8,dK r35 r33 r34 .idxStr,oK r36 .sub [.r r35,.c (.int .u8 48)],eK r37 r36 (.convInt .i64),dK r38 r32 r37 .add,mK r6 r38]
abbrev c66x15:=[mK r39 r6,nK r40 r39 1099511627776 (.icmp .gtr)]
abbrev c66x16:=[oK r2 .mov [cK 0],oK r3 .mov [cK 2]]
abbrev c66x17:=[mK r25 r8,nK r26 r25 1 .add,mK r8 r26]
abbrev c66x18:CC:=(.seq (.seq (.reg c66x11) (.cond (.r r24) .skip (.exit 0))) (.seq (.block 1 (.seq (.seq (.reg c66x12) (.cond (.r r30) (.seq (.reg c66x13) (.exit 1)) .skip)) (.seq (.reg c66x14) (.seq (.reg c66x15) (.cond (.r r40) (.seq (.reg c66x16) .ret) .skip))))) (.reg c66x17)))
abbrev c66x19:=[mK r41 r7,mK r42 r6,dK r43 r41 r42 .mul,mK r2 r43,oK r3 .mov [cK 0]]
abbrev c66:CC:=(.seq (.reg c66x0) (.seq (.seq (.reg c66x1) (.seq (.reg c66x2) (.cond (.r r12) (.seq (.reg c66x3) .ret) .skip))) (.seq (.seq (.reg c66x4) (.cond (.r r15) (.seq (.reg c66x5) .ret) .skip)) (.seq (.reg c66x6) (.seq (.seq (.reg c66x7) (.cond (.r r20) (.seq (.reg c66x8) .ret) .skip)) (.seq (.reg c66x9) (.seq (.seq (.reg c66x10) (.block 0 (.loop c66x18))) (.seq (.reg c66x19) .ret))))))))
theorem code66:E.func 66=some ⟨firstPaths 1,[.tmp r2,.tmp r3],c66⟩:=codeOf Tryz.func66 (by kernel_rfl)
abbrev c116x0:=[oK r2 .mov [.c (.bool false)]]
abbrev c116x1:=[mK r4 r0,eK r5 r4 .lenStr,nK r6 r5 1 (.icmp .gtr),mK r7 r6,hK true r7 r8 r0 .mov,gK true r7 r9 .idxStr [.r r8,cK 0],gK true r7 r10 (.eql false .num) [.r r9,.c (.int .u8 45)],qK r11 r7 r10]
abbrev c116x2:=[mK r12 r0,oK r13 (.eql true .num) [.r r12,.c (strOf [45,48])],mK r14 r13,hK true r14 r15 r0 .mov,gK true r14 r16 (.sliceStr true false) [.r r15,cK 1],hK true r14 r17 r16 (.call 116),qK r18 r14 r17,mK r19 r18,hK true r19 r20 r0 .mov,gK true r19 r21 .idxStr [.r r20,cK 1],gK true r19 r22 (.eql true .num) [.r r21,.c (.int .u8 45)],qK r23 r19 r22,mK r2 r23]
abbrev c116x3:=[oK r3 .mov [cK 0]]
abbrev c116x4:=[mK r24 r3,mK r25 r0,eK r26 r25 .lenStr,dK r27 r24 r26 (.icmp .lss)]
abbrev c116x5:=[mK r30 r0,mK r31 r3,dK r32 r30 r31 .idxStr,oK r33 (.icmp .lss) [.r r32,.c (.int .u8 48)],mK r34 r33,hK false r34 r35 r0 .mov,hK false r34 r36 r3 .mov,gK false r34 r37 .idxStr [.r r35,.r r36],gK false r34 r38 (.icmp .gtr) [.r r37,.c (.int .u8 57)],pK r39 r34 r38]
abbrev c116x6:=[oK r2 .mov [.c (.bool false)]]
abbrev c116x7:=[mK r28 r3,nK r29 r28 1 .add,mK r3 r29]
abbrev c116x8:CC:=(.seq (.seq (.reg c116x4) (.cond (.r r27) .skip (.exit 0))) (.seq (.block 1 (.seq (.reg c116x5) (.cond (.r r39) (.seq (.reg c116x6) .ret) .skip))) (.reg c116x7)))
abbrev c116x9:=[mK r40 r0,eK r41 r40 .lenStr,nK r42 r41 1 (.eql false .num),mK r43 r42,hK false r43 r44 r0 .mov,hK false r43 r45 r44 .lenStr,gK false r43 r46 (.icmp .gtr) [.r r45,cK 1],hK false r43 r47 r46 .mov,hK true r47 r48 r0 .mov,gK true r47 r49 .idxStr [.r r48,cK 0],gK true r47 r50 (.eql true .num) [.r r49,.c (.int .u8 48)],gK false r43 r51 .pick [.r r47,.r r50,.c (.bool false)],pK r52 r43 r51,mK r2 r52]
abbrev c116:CC:=(.seq (.reg c116x0) (.seq (.seq (.reg c116x1) (.cond (.r r11) (.seq (.reg c116x2) .ret) .skip)) (.seq (.seq (.reg c116x3) (.block 0 (.loop c116x8))) (.seq (.reg c116x9) .ret))))
theorem code116:E.func 116=some ⟨firstPaths 1,[.tmp r2],c116⟩:=codeOf Tryz.func116 (by kernel_rfl)
end
end Go.Ev
