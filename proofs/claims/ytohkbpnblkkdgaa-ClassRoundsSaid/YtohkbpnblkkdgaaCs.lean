/- The stripped code of some functions of this seat's program, printed by a program; that it is that code is proved by the kernel. No condition. -/

import Derived.Test.YtohkbpnblkkdgaaProg

import Derived.Test.YtohkbpnblkkdgaaVcJ

set_option maxRecDepth 100000

set_option linter.defProp false

namespace Go.Proofs.Ytohkbpnblkkdgaa.C

open Go.Vc

/-! jvmcore/jvmcorelaw3.sameClass: function 18: slots [0, 1, 2, 3, 4, 5, 6, 7, 8, 9, 78, 84, 87, 88, 89, 101, 105, 106, 107, 119, 123, 124, 125, 170] -/
def law3_sameClass_r0 : List Sop := [
  sa 2 (.box 43 (.tmp 0)) 0,
  sa 3 (.box 43 (.tmp 1)) 0,
  sw 4 (.assign (.const (.bool false))) 4]
def law3_sameClass_r1 : List Sop := [
  sq 10 (.fieldAddr 43 (.tmp 2) 0) 0,
  sq 11 (.load 38 (.tmp 10)) 38,
  sq 12 (.fieldAddr 43 (.tmp 3) 0) 0,
  sq 13 (.load 38 (.tmp 12)) 38,
  sq 14 (.binOp .neq 38 (.tmp 11) (.tmp 13) 38) 4,
  sq 15 (.move (.tmp 14)) 4,
  ⟨some (16, false), .fieldAddr 43 (.tmp 2) 1, 0, some (15, false), true⟩,
  ⟨some (17, false), .load 38 (.tmp 16), 38, some (15, false), true⟩,
  ⟨some (18, false), .fieldAddr 43 (.tmp 3) 1, 0, some (15, false), true⟩,
  ⟨some (19, false), .load 38 (.tmp 18), 38, some (15, false), true⟩,
  ⟨some (20, false), .binOp .neq 38 (.tmp 17) (.tmp 19) 38, 4, some (15, false), true⟩,
  sq 21 (.pick (.tmp 15) (.const (.bool true)) (.tmp 20)) 4,
  sq 22 (.move (.tmp 21)) 4,
  ⟨some (23, false), .fieldAddr 43 (.tmp 2) 2, 0, some (22, false), true⟩,
  ⟨some (24, false), .load 38 (.tmp 23), 38, some (22, false), true⟩,
  ⟨some (25, false), .fieldAddr 43 (.tmp 3) 2, 0, some (22, false), true⟩,
  ⟨some (26, false), .load 38 (.tmp 25), 38, some (22, false), true⟩,
  ⟨some (27, false), .binOp .neq 38 (.tmp 24) (.tmp 26) 38, 4, some (22, false), true⟩,
  sq 28 (.pick (.tmp 22) (.const (.bool true)) (.tmp 27)) 4,
  sq 29 (.move (.tmp 28)) 4,
  ⟨some (30, false), .fieldAddr 43 (.tmp 2) 3, 0, some (29, false), true⟩,
  ⟨some (31, false), .load 38 (.tmp 30), 38, some (29, false), true⟩,
  ⟨some (32, false), .fieldAddr 43 (.tmp 3) 3, 0, some (29, false), true⟩,
  ⟨some (33, false), .load 38 (.tmp 32), 38, some (29, false), true⟩,
  ⟨some (34, false), .binOp .neq 38 (.tmp 31) (.tmp 33) 38, 4, some (29, false), true⟩,
  sq 35 (.pick (.tmp 29) (.const (.bool true)) (.tmp 34)) 4,
  sq 36 (.move (.tmp 35)) 4,
  ⟨some (37, false), .fieldAddr 43 (.tmp 2) 4, 0, some (36, false), true⟩,
  ⟨some (38, false), .load 38 (.tmp 37), 38, some (36, false), true⟩,
  ⟨some (39, false), .fieldAddr 43 (.tmp 3) 4, 0, some (36, false), true⟩,
  ⟨some (40, false), .load 38 (.tmp 39), 38, some (36, false), true⟩,
  ⟨some (41, false), .binOp .neq 38 (.tmp 38) (.tmp 40) 38, 4, some (36, false), true⟩,
  sq 42 (.pick (.tmp 36) (.const (.bool true)) (.tmp 41)) 4,
  sq 43 (.move (.tmp 42)) 4,
  ⟨some (44, false), .fieldAddr 43 (.tmp 2) 5, 0, some (43, false), true⟩,
  ⟨some (45, false), .load 22 (.tmp 44), 22, some (43, false), true⟩,
  ⟨some (46, false), .call { callee := .builtin .len, args := #[.tmp 45], argTypes := #[22] }, 3, some (43, false), true⟩,
  ⟨some (47, false), .fieldAddr 43 (.tmp 3) 5, 0, some (43, false), true⟩,
  ⟨some (48, false), .load 22 (.tmp 47), 22, some (43, false), true⟩,
  ⟨some (49, false), .call { callee := .builtin .len, args := #[.tmp 48], argTypes := #[22] }, 3, some (43, false), true⟩,
  ⟨some (50, false), .binOp .neq 3 (.tmp 46) (.tmp 49) 3, 4, some (43, false), true⟩,
  sq 51 (.pick (.tmp 43) (.const (.bool true)) (.tmp 50)) 4,
  sq 52 (.move (.tmp 51)) 4,
  ⟨some (53, false), .fieldAddr 43 (.tmp 2) 6, 0, some (52, false), true⟩,
  ⟨some (54, false), .load 39 (.tmp 53), 39, some (52, false), true⟩,
  ⟨some (55, false), .call { callee := .builtin .len, args := #[.tmp 54], argTypes := #[39] }, 3, some (52, false), true⟩,
  ⟨some (56, false), .fieldAddr 43 (.tmp 3) 6, 0, some (52, false), true⟩,
  ⟨some (57, false), .load 39 (.tmp 56), 39, some (52, false), true⟩,
  ⟨some (58, false), .call { callee := .builtin .len, args := #[.tmp 57], argTypes := #[39] }, 3, some (52, false), true⟩,
  ⟨some (59, false), .binOp .neq 3 (.tmp 55) (.tmp 58) 3, 4, some (52, false), true⟩,
  sq 60 (.pick (.tmp 52) (.const (.bool true)) (.tmp 59)) 4,
  sq 61 (.move (.tmp 60)) 4,
  ⟨some (62, false), .fieldAddr 43 (.tmp 2) 7, 0, some (61, false), true⟩,
  ⟨some (63, false), .load 40 (.tmp 62), 40, some (61, false), true⟩,
  ⟨some (64, false), .call { callee := .builtin .len, args := #[.tmp 63], argTypes := #[40] }, 3, some (61, false), true⟩,
  ⟨some (65, false), .fieldAddr 43 (.tmp 3) 7, 0, some (61, false), true⟩,
  ⟨some (66, false), .load 40 (.tmp 65), 40, some (61, false), true⟩,
  ⟨some (67, false), .call { callee := .builtin .len, args := #[.tmp 66], argTypes := #[40] }, 3, some (61, false), true⟩,
  ⟨some (68, false), .binOp .neq 3 (.tmp 64) (.tmp 67) 3, 4, some (61, false), true⟩,
  sq 69 (.pick (.tmp 61) (.const (.bool true)) (.tmp 68)) 4,
  sq 70 (.move (.tmp 69)) 4,
  ⟨some (71, false), .fieldAddr 43 (.tmp 2) 8, 0, some (70, false), true⟩,
  ⟨some (72, false), .load 41 (.tmp 71), 41, some (70, false), true⟩,
  ⟨some (73, false), .call { callee := .builtin .len, args := #[.tmp 72], argTypes := #[41] }, 3, some (70, false), true⟩,
  ⟨some (74, false), .fieldAddr 43 (.tmp 3) 8, 0, some (70, false), true⟩,
  ⟨some (75, false), .load 41 (.tmp 74), 41, some (70, false), true⟩,
  ⟨some (76, false), .call { callee := .builtin .len, args := #[.tmp 75], argTypes := #[41] }, 3, some (70, false), true⟩,
  ⟨some (77, false), .binOp .neq 3 (.tmp 73) (.tmp 76) 3, 4, some (70, false), true⟩,
  sw 78 (.pick (.tmp 70) (.const (.bool true)) (.tmp 77)) 4]
def law3_sameClass_r2 : List Sop := [
  sw 4 (.assign (.const (.bool false))) 4]
def law3_sameClass_r3 : List Sop := [
  sq 79 (.fieldAddr 43 (.tmp 2) 5) 0,
  sq 80 (.load 22 (.tmp 79)) 22,
  sq 81 (.fieldAddr 43 (.tmp 3) 5) 0,
  sq 82 (.load 22 (.tmp 81)) 22,
  sc 83 (.call { callee := .value (.func 50), args := #[.tmp 80, .tmp 82], argTypes := #[22, 22] }) 4,
  sw 84 (.unOp .not 4 (.tmp 83)) 4]
def law3_sameClass_r4 : List Sop := [
  sw 4 (.assign (.const (.bool false))) 4]
def law3_sameClass_r5 : List Sop := [
  sq 85 (.fieldAddr 43 (.tmp 2) 6) 0,
  sq 86 (.load 39 (.tmp 85)) 39,
  sw 87 (.call { callee := .builtin .len, args := #[.tmp 86], argTypes := #[39] }) 3,
  sw 88 (.move (.const (.int .i64 0))) 3]
def law3_sameClass_r6 : List Sop := [
  sw 89 (.binOp .lss 3 (.tmp 88) (.tmp 87) 3) 0]
def law3_sameClass_r7 : List Sop := [
  sq 90 (.move (.tmp 88)) 3,
  sw 5 (.assign (.tmp 90)) 3]
def law3_sameClass_r8 : List (Sop × List Sop) := [
  (sq 91 (.fieldAddr 43 (.tmp 2) 6) 0, []),
  (sq 92 (.load 39 (.tmp 91)) 39, []),
  (sq 93 (.move (.tmp 5)) 3, []),
  (sq 94 (.indexAddr 39 (.tmp 92) (.tmp 93)) 0, []),
  (sq 95 (.load 38 (.tmp 94)) 38, []),
  (sq 96 (.fieldAddr 43 (.tmp 3) 6) 0, []),
  (sq 97 (.load 39 (.tmp 96)) 39, []),
  (sq 98 (.move (.tmp 5)) 3, []),
  (sq 99 (.indexAddr 39 (.tmp 97) (.tmp 98)) 0, []),
  (sq 100 (.load 38 (.tmp 99)) 38, []),
  (sw 101 (.binOp .neq 38 (.tmp 95) (.tmp 100) 38) 4, [])]
def law3_sameClass_r9 : List Sop := [
  sw 4 (.assign (.const (.bool false))) 4]
def law3_sameClass_r10 : List Sop := [
  sq 102 (.binOp .add 3 (.tmp 88) (.const (.int .i64 1)) 3) 3,
  sw 88 (.move (.tmp 102)) 3]
def law3_sameClass_r11 : List Sop := [
  sq 103 (.fieldAddr 43 (.tmp 2) 7) 0,
  sq 104 (.load 40 (.tmp 103)) 40,
  sw 105 (.call { callee := .builtin .len, args := #[.tmp 104], argTypes := #[40] }) 3,
  sw 106 (.move (.const (.int .i64 0))) 3]
def law3_sameClass_r12 : List Sop := [
  sw 107 (.binOp .lss 3 (.tmp 106) (.tmp 105) 3) 0]
def law3_sameClass_r13 : List Sop := [
  sq 108 (.move (.tmp 106)) 3,
  sw 6 (.assign (.tmp 108)) 3]
def law3_sameClass_r14 : List (Sop × List Sop) := [
  (sq 109 (.fieldAddr 43 (.tmp 2) 7) 0, []),
  (sq 110 (.load 40 (.tmp 109)) 40, []),
  (sq 111 (.move (.tmp 6)) 3, []),
  (sq 112 (.indexAddr 40 (.tmp 110) (.tmp 111)) 0, []),
  (sq 113 (.load 89 (.tmp 112)) 89, []),
  (sq 114 (.fieldAddr 43 (.tmp 3) 7) 0, []),
  (sq 115 (.load 40 (.tmp 114)) 40, []),
  (sq 116 (.move (.tmp 6)) 3, []),
  (sq 117 (.indexAddr 40 (.tmp 115) (.tmp 116)) 0, []),
  (sq 118 (.load 89 (.tmp 117)) 89, []),
  (sw 119 (.binOp .neq 89 (.tmp 113) (.tmp 118) 89) 4, [])]
def law3_sameClass_r15 : List Sop := [
  sw 4 (.assign (.const (.bool false))) 4]
def law3_sameClass_r16 : List Sop := [
  sq 120 (.binOp .add 3 (.tmp 106) (.const (.int .i64 1)) 3) 3,
  sw 106 (.move (.tmp 120)) 3]
def law3_sameClass_r17 : List Sop := [
  sq 121 (.fieldAddr 43 (.tmp 2) 8) 0,
  sq 122 (.load 41 (.tmp 121)) 41,
  sw 123 (.call { callee := .builtin .len, args := #[.tmp 122], argTypes := #[41] }) 3,
  sw 124 (.move (.const (.int .i64 0))) 3]
def law3_sameClass_r18 : List Sop := [
  sw 125 (.binOp .lss 3 (.tmp 124) (.tmp 123) 3) 0]
def law3_sameClass_r19 : List Sop := [
  sq 126 (.move (.tmp 124)) 3,
  sw 7 (.assign (.tmp 126)) 3]
def law3_sameClass_r20 : List Sop := [
  sq 127 (.fieldAddr 43 (.tmp 2) 8) 0,
  sq 128 (.load 41 (.tmp 127)) 41,
  sq 129 (.move (.tmp 7)) 3,
  sq 130 (.indexAddr 41 (.tmp 128) (.tmp 129)) 0,
  sq 131 (.load 81 (.tmp 130)) 81,
  sa 8 (.alloc 81) 0,
  ss (.store 81 (.tmp 8) (.tmp 131))]
def law3_sameClass_r21 : List Sop := [
  sq 132 (.fieldAddr 43 (.tmp 3) 8) 0,
  sq 133 (.load 41 (.tmp 132)) 41,
  sq 134 (.move (.tmp 7)) 3,
  sq 135 (.indexAddr 41 (.tmp 133) (.tmp 134)) 0,
  sq 136 (.load 81 (.tmp 135)) 81,
  sa 9 (.alloc 81) 0,
  ss (.store 81 (.tmp 9) (.tmp 136))]
def law3_sameClass_r22 : List Sop := [
  sq 137 (.fieldAddr 81 (.tmp 8) 0) 0,
  sq 138 (.load 38 (.tmp 137)) 38,
  sq 139 (.fieldAddr 81 (.tmp 9) 0) 0,
  sq 140 (.load 38 (.tmp 139)) 38,
  sq 141 (.binOp .neq 38 (.tmp 138) (.tmp 140) 38) 4,
  sq 142 (.move (.tmp 141)) 4,
  ⟨some (143, false), .fieldAddr 81 (.tmp 8) 1, 0, some (142, false), true⟩,
  ⟨some (144, false), .load 38 (.tmp 143), 38, some (142, false), true⟩,
  ⟨some (145, false), .fieldAddr 81 (.tmp 9) 1, 0, some (142, false), true⟩,
  ⟨some (146, false), .load 38 (.tmp 145), 38, some (142, false), true⟩,
  ⟨some (147, false), .binOp .neq 38 (.tmp 144) (.tmp 146) 38, 4, some (142, false), true⟩,
  sq 148 (.pick (.tmp 142) (.const (.bool true)) (.tmp 147)) 4,
  sq 149 (.move (.tmp 148)) 4,
  ⟨some (150, false), .fieldAddr 81 (.tmp 8) 2, 0, some (149, false), true⟩,
  ⟨some (151, false), .load 38 (.tmp 150), 38, some (149, false), true⟩,
  ⟨some (152, false), .fieldAddr 81 (.tmp 9) 2, 0, some (149, false), true⟩,
  ⟨some (153, false), .load 38 (.tmp 152), 38, some (149, false), true⟩,
  ⟨some (154, false), .binOp .neq 38 (.tmp 151) (.tmp 153) 38, 4, some (149, false), true⟩,
  sq 155 (.pick (.tmp 149) (.const (.bool true)) (.tmp 154)) 4,
  sq 156 (.move (.tmp 155)) 4,
  ⟨some (157, false), .fieldAddr 81 (.tmp 8) 3, 0, some (156, false), true⟩,
  ⟨some (158, false), .load 4 (.tmp 157), 4, some (156, false), true⟩,
  ⟨some (159, false), .fieldAddr 81 (.tmp 9) 3, 0, some (156, false), true⟩,
  ⟨some (160, false), .load 4 (.tmp 159), 4, some (156, false), true⟩,
  ⟨some (161, false), .binOp .neq 4 (.tmp 158) (.tmp 160) 4, 4, some (156, false), true⟩,
  sq 162 (.pick (.tmp 156) (.const (.bool true)) (.tmp 161)) 4,
  sq 163 (.move (.tmp 162)) 4,
  ⟨some (164, false), .fieldAddr 81 (.tmp 8) 4, 0, some (163, false), true⟩,
  ⟨some (165, false), .load 79 (.tmp 164), 79, some (163, false), true⟩,
  ⟨some (166, false), .fieldAddr 81 (.tmp 9) 4, 0, some (163, false), true⟩,
  ⟨some (167, false), .load 79 (.tmp 166), 79, some (163, false), true⟩,
  ⟨some (168, false), .call { callee := .value (.func 51), args := #[.tmp 165, .tmp 167], argTypes := #[79, 79] }, 4, some (163, false), false⟩,
  ⟨some (169, false), .unOp .not 4 (.tmp 168), 4, some (163, false), true⟩,
  sw 170 (.pick (.tmp 163) (.const (.bool true)) (.tmp 169)) 4]
def law3_sameClass_r23 : List Sop := [
  sw 4 (.assign (.const (.bool false))) 4]
def law3_sameClass_r24 : List Sop := [
  sq 171 (.binOp .add 3 (.tmp 124) (.const (.int .i64 1)) 3) 3,
  sw 124 (.move (.tmp 171)) 3]
def law3_sameClass_r25 : List Sop := [
  sw 4 (.assign (.const (.bool true))) 4]
def law3_sameClass_l0 : Cd := .seq (.region law3_sameClass_r6) (.seq (.cond (.tmp 89) (.skip) (.exit 0)) (.seq (.block 1 (.seq (.region law3_sameClass_r7) (.seq (.draw law3_sameClass_r8) (.cond (.tmp 101) (.seq (.region law3_sameClass_r9) (.ret)) (.skip))))) (.region law3_sameClass_r10)))
def law3_sameClass_l1 : Cd := .seq (.region law3_sameClass_r12) (.seq (.cond (.tmp 107) (.skip) (.exit 2)) (.seq (.block 3 (.seq (.region law3_sameClass_r13) (.seq (.draw law3_sameClass_r14) (.cond (.tmp 119) (.seq (.region law3_sameClass_r15) (.ret)) (.skip))))) (.region law3_sameClass_r16)))
def law3_sameClass_l2 : Cd := .seq (.region law3_sameClass_r18) (.seq (.cond (.tmp 125) (.skip) (.exit 4)) (.seq (.block 5 (.seq (.region law3_sameClass_r19) (.seq (.region law3_sameClass_r20) (.seq (.region law3_sameClass_r21) (.seq (.region law3_sameClass_r22) (.cond (.tmp 170) (.seq (.region law3_sameClass_r23) (.ret)) (.skip))))))) (.region law3_sameClass_r24)))
def law3_sameClass : Cd := .seq (.region law3_sameClass_r0) (.seq (.seq (.region law3_sameClass_r1) (.cond (.tmp 78) (.seq (.region law3_sameClass_r2) (.ret)) (.skip))) (.seq (.seq (.region law3_sameClass_r3) (.cond (.tmp 84) (.seq (.region law3_sameClass_r4) (.ret)) (.skip))) (.seq (.seq (.region law3_sameClass_r5) (.block 0 (.loop law3_sameClass_l0))) (.seq (.seq (.region law3_sameClass_r11) (.block 2 (.loop law3_sameClass_l1))) (.seq (.seq (.region law3_sameClass_r17) (.block 4 (.loop law3_sameClass_l2))) (.seq (.region law3_sameClass_r25) (.ret)))))))
theorem law3_sameClass_calls {args : List Value} {h : Heap} {R : Value → Heap → Prop} (hl : args.length = 2) (hv : Cd.vc Try.prog law3_sameClass (retQ Try.prog [(4, none)] R) (initEnv args [0, 1, 2, 3, 4, 5, 6, 7, 8, 9, 78, 84, 87, 88, 89, 101, 105, 106, 107, 119, 123, 124, 125, 170]) h) : HCalls Try.prog 18 args.toArray h R :=
  hcalls_of_vc (by kernel_rfl) Try.func18 (cd := law3_sameClass) (L := [0, 1, 2, 3, 4, 5, 6, 7, 8, 9, 78, 84, 87, 88, 89, 101, 105, 106, 107, 119, 123, 124, 125, 170]) (by kernel_rfl) (by kernel_rfl) ⟨by rw [hl, Try.ntmps18]; decide, by rw [Try.ntmps18]; decide⟩ hv
def law3_sameClass_gos := And.intro (@goVc Try.prog _ _ law3_sameClass.eq_1) (And.intro (@goOps Try.prog _ _ law3_sameClass_r0.eq_1) (And.intro (@goOps Try.prog _ _ law3_sameClass_r1.eq_1) (And.intro (@goOps Try.prog _ _ law3_sameClass_r2.eq_1) (And.intro (@goOps Try.prog _ _ law3_sameClass_r3.eq_1) (And.intro (@goOps Try.prog _ _ law3_sameClass_r4.eq_1) (And.intro (@goOps Try.prog _ _ law3_sameClass_r5.eq_1) (And.intro (@goOps Try.prog _ _ law3_sameClass_r6.eq_1) (And.intro (@goOps Try.prog _ _ law3_sameClass_r7.eq_1) (And.intro (@goDraw Try.prog _ _ law3_sameClass_r8.eq_1) (And.intro (@goOps Try.prog _ _ law3_sameClass_r9.eq_1) (And.intro (@goOps Try.prog _ _ law3_sameClass_r10.eq_1) (And.intro (@goOps Try.prog _ _ law3_sameClass_r11.eq_1) (And.intro (@goOps Try.prog _ _ law3_sameClass_r12.eq_1) (And.intro (@goOps Try.prog _ _ law3_sameClass_r13.eq_1) (And.intro (@goDraw Try.prog _ _ law3_sameClass_r14.eq_1) (And.intro (@goOps Try.prog _ _ law3_sameClass_r15.eq_1) (And.intro (@goOps Try.prog _ _ law3_sameClass_r16.eq_1) (And.intro (@goOps Try.prog _ _ law3_sameClass_r17.eq_1) (And.intro (@goOps Try.prog _ _ law3_sameClass_r18.eq_1) (And.intro (@goOps Try.prog _ _ law3_sameClass_r19.eq_1) (And.intro (@goOps Try.prog _ _ law3_sameClass_r20.eq_1) (And.intro (@goOps Try.prog _ _ law3_sameClass_r21.eq_1) (And.intro (@goOps Try.prog _ _ law3_sameClass_r22.eq_1) (And.intro (@goOps Try.prog _ _ law3_sameClass_r23.eq_1) (And.intro (@goOps Try.prog _ _ law3_sameClass_r24.eq_1) (And.intro (@goOps Try.prog _ _ law3_sameClass_r25.eq_1) (And.intro (@goVc Try.prog _ _ law3_sameClass_l0.eq_1) (And.intro (@goVc Try.prog _ _ law3_sameClass_l1.eq_1) (@goVc Try.prog _ _ law3_sameClass_l2.eq_1)))))))))))))))))))))))))))))

/-! jvmcore/jvmcorelaw3.sameCode: function 51: slots [0, 1, 2, 3, 4, 5, 40, 43, 44, 45, 57] -/
def law3_sameCode_r0 : List Sop := [
  sa 2 (.box 79 (.tmp 0)) 0,
  sa 3 (.box 79 (.tmp 1)) 0,
  sw 4 (.assign (.const (.bool false))) 4]
def law3_sameCode_r1 : List Sop := [
  sq 6 (.fieldAddr 79 (.tmp 2) 0) 0,
  sq 7 (.load 3 (.tmp 6)) 3,
  sq 8 (.fieldAddr 79 (.tmp 3) 0) 0,
  sq 9 (.load 3 (.tmp 8)) 3,
  sq 10 (.binOp .neq 3 (.tmp 7) (.tmp 9) 3) 4,
  sq 11 (.move (.tmp 10)) 4,
  ⟨some (12, false), .fieldAddr 79 (.tmp 2) 1, 0, some (11, false), true⟩,
  ⟨some (13, false), .load 3 (.tmp 12), 3, some (11, false), true⟩,
  ⟨some (14, false), .fieldAddr 79 (.tmp 3) 1, 0, some (11, false), true⟩,
  ⟨some (15, false), .load 3 (.tmp 14), 3, some (11, false), true⟩,
  ⟨some (16, false), .binOp .neq 3 (.tmp 13) (.tmp 15) 3, 4, some (11, false), true⟩,
  sq 17 (.pick (.tmp 11) (.const (.bool true)) (.tmp 16)) 4,
  sq 18 (.move (.tmp 17)) 4,
  ⟨some (19, false), .fieldAddr 79 (.tmp 2) 2, 0, some (18, false), true⟩,
  ⟨some (20, false), .load 9 (.tmp 19), 9, some (18, false), true⟩,
  ⟨some (21, false), .fieldAddr 79 (.tmp 3) 2, 0, some (18, false), true⟩,
  ⟨some (22, false), .load 9 (.tmp 21), 9, some (18, false), true⟩,
  ⟨some (23, false), .binOp .neq 9 (.tmp 20) (.tmp 22) 9, 4, some (18, false), true⟩,
  sq 24 (.pick (.tmp 18) (.const (.bool true)) (.tmp 23)) 4,
  sq 25 (.move (.tmp 24)) 4,
  ⟨some (26, false), .fieldAddr 79 (.tmp 2) 4, 0, some (25, false), true⟩,
  ⟨some (27, false), .load 9 (.tmp 26), 9, some (25, false), true⟩,
  ⟨some (28, false), .fieldAddr 79 (.tmp 3) 4, 0, some (25, false), true⟩,
  ⟨some (29, false), .load 9 (.tmp 28), 9, some (25, false), true⟩,
  ⟨some (30, false), .binOp .neq 9 (.tmp 27) (.tmp 29) 9, 4, some (25, false), true⟩,
  sq 31 (.pick (.tmp 25) (.const (.bool true)) (.tmp 30)) 4,
  sq 32 (.move (.tmp 31)) 4,
  ⟨some (33, false), .fieldAddr 79 (.tmp 2) 3, 0, some (32, false), true⟩,
  ⟨some (34, false), .load 77 (.tmp 33), 77, some (32, false), true⟩,
  ⟨some (35, false), .call { callee := .builtin .len, args := #[.tmp 34], argTypes := #[77] }, 3, some (32, false), true⟩,
  ⟨some (36, false), .fieldAddr 79 (.tmp 3) 3, 0, some (32, false), true⟩,
  ⟨some (37, false), .load 77 (.tmp 36), 77, some (32, false), true⟩,
  ⟨some (38, false), .call { callee := .builtin .len, args := #[.tmp 37], argTypes := #[77] }, 3, some (32, false), true⟩,
  ⟨some (39, false), .binOp .neq 3 (.tmp 35) (.tmp 38) 3, 4, some (32, false), true⟩,
  sw 40 (.pick (.tmp 32) (.const (.bool true)) (.tmp 39)) 4]
def law3_sameCode_r2 : List Sop := [
  sw 4 (.assign (.const (.bool false))) 4]
def law3_sameCode_r3 : List Sop := [
  sq 41 (.fieldAddr 79 (.tmp 2) 3) 0,
  sq 42 (.load 77 (.tmp 41)) 77,
  sw 43 (.call { callee := .builtin .len, args := #[.tmp 42], argTypes := #[77] }) 3,
  sw 44 (.move (.const (.int .i64 0))) 3]
def law3_sameCode_r4 : List Sop := [
  sw 45 (.binOp .lss 3 (.tmp 44) (.tmp 43) 3) 0]
def law3_sameCode_r5 : List Sop := [
  sq 46 (.move (.tmp 44)) 3,
  sw 5 (.assign (.tmp 46)) 3]
def law3_sameCode_r6 : List (Sop × List Sop) := [
  (sq 47 (.fieldAddr 79 (.tmp 2) 3) 0, []),
  (sq 48 (.load 77 (.tmp 47)) 77, []),
  (sq 49 (.move (.tmp 5)) 3, []),
  (sq 50 (.indexAddr 77 (.tmp 48) (.tmp 49)) 0, []),
  (sq 51 (.load 132 (.tmp 50)) 132, []),
  (sq 52 (.fieldAddr 79 (.tmp 3) 3) 0, []),
  (sq 53 (.load 77 (.tmp 52)) 77, []),
  (sq 54 (.move (.tmp 5)) 3, []),
  (sq 55 (.indexAddr 77 (.tmp 53) (.tmp 54)) 0, []),
  (sq 56 (.load 132 (.tmp 55)) 132, []),
  (sw 57 (.binOp .neq 132 (.tmp 51) (.tmp 56) 132) 4, [])]
def law3_sameCode_r7 : List Sop := [
  sw 4 (.assign (.const (.bool false))) 4]
def law3_sameCode_r8 : List Sop := [
  sq 58 (.binOp .add 3 (.tmp 44) (.const (.int .i64 1)) 3) 3,
  sw 44 (.move (.tmp 58)) 3]
def law3_sameCode_r9 : List Sop := [
  sw 4 (.assign (.const (.bool true))) 4]
def law3_sameCode_l0 : Cd := .seq (.region law3_sameCode_r4) (.seq (.cond (.tmp 45) (.skip) (.exit 0)) (.seq (.block 1 (.seq (.region law3_sameCode_r5) (.seq (.draw law3_sameCode_r6) (.cond (.tmp 57) (.seq (.region law3_sameCode_r7) (.ret)) (.skip))))) (.region law3_sameCode_r8)))
def law3_sameCode : Cd := .seq (.region law3_sameCode_r0) (.seq (.seq (.region law3_sameCode_r1) (.cond (.tmp 40) (.seq (.region law3_sameCode_r2) (.ret)) (.skip))) (.seq (.seq (.region law3_sameCode_r3) (.block 0 (.loop law3_sameCode_l0))) (.seq (.region law3_sameCode_r9) (.ret))))
theorem law3_sameCode_calls {args : List Value} {h : Heap} {R : Value → Heap → Prop} (hl : args.length = 2) (hv : Cd.vc Try.prog law3_sameCode (retQ Try.prog [(4, none)] R) (initEnv args [0, 1, 2, 3, 4, 5, 40, 43, 44, 45, 57]) h) : HCalls Try.prog 51 args.toArray h R :=
  hcalls_of_vc (by kernel_rfl) Try.func51 (cd := law3_sameCode) (L := [0, 1, 2, 3, 4, 5, 40, 43, 44, 45, 57]) (by kernel_rfl) (by kernel_rfl) ⟨by rw [hl, Try.ntmps51]; decide, by rw [Try.ntmps51]; decide⟩ hv
def law3_sameCode_gos := And.intro (@goVc Try.prog _ _ law3_sameCode.eq_1) (And.intro (@goOps Try.prog _ _ law3_sameCode_r0.eq_1) (And.intro (@goOps Try.prog _ _ law3_sameCode_r1.eq_1) (And.intro (@goOps Try.prog _ _ law3_sameCode_r2.eq_1) (And.intro (@goOps Try.prog _ _ law3_sameCode_r3.eq_1) (And.intro (@goOps Try.prog _ _ law3_sameCode_r4.eq_1) (And.intro (@goOps Try.prog _ _ law3_sameCode_r5.eq_1) (And.intro (@goDraw Try.prog _ _ law3_sameCode_r6.eq_1) (And.intro (@goOps Try.prog _ _ law3_sameCode_r7.eq_1) (And.intro (@goOps Try.prog _ _ law3_sameCode_r8.eq_1) (And.intro (@goOps Try.prog _ _ law3_sameCode_r9.eq_1) (@goVc Try.prog _ _ law3_sameCode_l0.eq_1)))))))))))

/-! jvmcore/jvmcorelaw3.samePool: function 50: slots [0, 1, 4, 5, 10, 12, 13, 14, 24] -/
def law3_samePool_r0 : List Sop := [
  sw 4 (.assign (.const (.bool false))) 4]
def law3_samePool_r1 : List Sop := [
  sq 6 (.move (.tmp 0)) 22,
  sq 7 (.call { callee := .builtin .len, args := #[.tmp 6], argTypes := #[22] }) 3,
  sq 8 (.move (.tmp 1)) 22,
  sq 9 (.call { callee := .builtin .len, args := #[.tmp 8], argTypes := #[22] }) 3,
  sw 10 (.binOp .neq 3 (.tmp 7) (.tmp 9) 3) 4]
def law3_samePool_r2 : List Sop := [
  sw 4 (.assign (.const (.bool false))) 4]
def law3_samePool_r3 : List Sop := [
  sq 11 (.move (.tmp 0)) 22,
  sw 12 (.call { callee := .builtin .len, args := #[.tmp 11], argTypes := #[22] }) 3,
  sw 13 (.move (.const (.int .i64 0))) 3]
def law3_samePool_r4 : List Sop := [
  sw 14 (.binOp .lss 3 (.tmp 13) (.tmp 12) 3) 0]
def law3_samePool_r5 : List Sop := [
  sq 15 (.move (.tmp 13)) 3,
  sw 5 (.assign (.tmp 15)) 3]
def law3_samePool_r6 : List (Sop × List Sop) := [
  (sq 16 (.move (.tmp 0)) 22, []),
  (sq 17 (.move (.tmp 5)) 3, []),
  (sq 18 (.indexAddr 22 (.tmp 16) (.tmp 17)) 0, []),
  (sq 19 (.load 76 (.tmp 18)) 76, []),
  (sq 20 (.move (.tmp 1)) 22, []),
  (sq 21 (.move (.tmp 5)) 3, []),
  (sq 22 (.indexAddr 22 (.tmp 20) (.tmp 21)) 0, []),
  (sq 23 (.load 76 (.tmp 22)) 76, []),
  (sw 24 (.binOp .neq 76 (.tmp 19) (.tmp 23) 76) 4, [])]
def law3_samePool_r7 : List Sop := [
  sw 4 (.assign (.const (.bool false))) 4]
def law3_samePool_r8 : List Sop := [
  sq 25 (.binOp .add 3 (.tmp 13) (.const (.int .i64 1)) 3) 3,
  sw 13 (.move (.tmp 25)) 3]
def law3_samePool_r9 : List Sop := [
  sw 4 (.assign (.const (.bool true))) 4]
def law3_samePool_l0 : Cd := .seq (.region law3_samePool_r4) (.seq (.cond (.tmp 14) (.skip) (.exit 0)) (.seq (.block 1 (.seq (.region law3_samePool_r5) (.seq (.draw law3_samePool_r6) (.cond (.tmp 24) (.seq (.region law3_samePool_r7) (.ret)) (.skip))))) (.region law3_samePool_r8)))
def law3_samePool : Cd := .seq (.region law3_samePool_r0) (.seq (.seq (.region law3_samePool_r1) (.cond (.tmp 10) (.seq (.region law3_samePool_r2) (.ret)) (.skip))) (.seq (.seq (.region law3_samePool_r3) (.block 0 (.loop law3_samePool_l0))) (.seq (.region law3_samePool_r9) (.ret))))
theorem law3_samePool_calls {args : List Value} {h : Heap} {R : Value → Heap → Prop} (hl : args.length = 2) (hv : Cd.vc Try.prog law3_samePool (retQ Try.prog [(4, none)] R) (initEnv args [0, 1, 4, 5, 10, 12, 13, 14, 24]) h) : HCalls Try.prog 50 args.toArray h R :=
  hcalls_of_vc (by kernel_rfl) Try.func50 (cd := law3_samePool) (L := [0, 1, 4, 5, 10, 12, 13, 14, 24]) (by kernel_rfl) (by kernel_rfl) ⟨by rw [hl, Try.ntmps50]; decide, by rw [Try.ntmps50]; decide⟩ hv
def law3_samePool_gos := And.intro (@goVc Try.prog _ _ law3_samePool.eq_1) (And.intro (@goOps Try.prog _ _ law3_samePool_r0.eq_1) (And.intro (@goOps Try.prog _ _ law3_samePool_r1.eq_1) (And.intro (@goOps Try.prog _ _ law3_samePool_r2.eq_1) (And.intro (@goOps Try.prog _ _ law3_samePool_r3.eq_1) (And.intro (@goOps Try.prog _ _ law3_samePool_r4.eq_1) (And.intro (@goOps Try.prog _ _ law3_samePool_r5.eq_1) (And.intro (@goDraw Try.prog _ _ law3_samePool_r6.eq_1) (And.intro (@goOps Try.prog _ _ law3_samePool_r7.eq_1) (And.intro (@goOps Try.prog _ _ law3_samePool_r8.eq_1) (And.intro (@goOps Try.prog _ _ law3_samePool_r9.eq_1) (@goVc Try.prog _ _ law3_samePool_l0.eq_1)))))))))))

end Go.Proofs.Ytohkbpnblkkdgaa.C
