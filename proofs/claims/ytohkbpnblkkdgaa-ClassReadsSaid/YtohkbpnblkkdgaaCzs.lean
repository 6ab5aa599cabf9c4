/- The stripped code of some functions of this seat's program, printed by a program; that it is that code is proved by the kernel. No condition. -/

import Derived.Test.YtohkbpnblkkdgaaProg

import Derived.Test.YtohkbpnblkkdgaaVcJ

set_option maxRecDepth 100000

set_option linter.defProp false

namespace Go.Proofs.Ytohkbpnblkkdgaa.C

open Go.Vc

/-! jvmcore/jvmcoreref3.ReadClass: function 20: slots [0, 2, 3, 4, 5, 6, 7, 8, 9, 10, 11, 12, 13, 14, 16, 17, 28, 53, 66, 83, 141, 167, 193, 219, 241, 261] -/
def ref3_ReadClass_r0 : List Sop := [
  ⟨some (2, true), .alloc 43, 0, none, false⟩,
  ⟨some (3, true), .assign (.const (.int .i64 0)), 27, none, true⟩,
  ⟨some (4, true), .assign (.const (.int .i64 0)), 3, none, true⟩]
def ref3_ReadClass_r0_go := @goOps Try.prog _ _ ref3_ReadClass_r0.eq_1
def ref3_ReadClass_r1 : List Sop := [
  ⟨some (18, false), .move (.tmp 0), 9, none, true⟩,
  ⟨some (19, false), .build 66 #[(0, .tmp 18)], 66, none, true⟩,
  ⟨some (20, false), .box 66 (.tmp 19), 64, none, false⟩,
  ⟨some (21, false), .build 112 #[(0, .tmp 20)], 112, none, true⟩,
  ⟨some (22, false), .box 112 (.tmp 21), 110, none, false⟩,
  ⟨some (5, true), .assign (.tmp 22), 110, none, true⟩]
def ref3_ReadClass_r1_go := @goOps Try.prog _ _ ref3_ReadClass_r1.eq_1
def ref3_ReadClass_r2 : List Sop := [
  ⟨some (23, false), .move (.tmp 5), 110, none, true⟩,
  ⟨some (24, false), .nilCheck (.tmp 23), 0, none, true⟩,
  ⟨some (25, false), .fieldAddr 112 (.tmp 24) 0, 0, none, true⟩,
  ⟨some (26, false), .load 64 (.tmp 25), 64, none, true⟩,
  ⟨some (27, false), .call { callee := .value (.func 58), args := #[.tmp 26, .const (.int .i64 4)], argTypes := #[64, 3] }, 9, none, false⟩,
  ⟨some (28, true), .binOp .neq 9 (.tmp 27) (.const (.string { data := #[202, 254, 186, 190] })) 9, 4, none, true⟩]
def ref3_ReadClass_r2_go := @goOps Try.prog _ _ ref3_ReadClass_r2.eq_1
def ref3_ReadClass_r3 : List Sop := [
  ⟨some (29, false), .move (.tmp 5), 110, none, true⟩,
  ⟨some (30, false), .nilCheck (.tmp 29), 0, none, true⟩,
  ⟨some (31, false), .fieldAddr 112 (.tmp 30) 0, 0, none, true⟩,
  ⟨some (32, false), .load 64 (.tmp 31), 64, none, true⟩,
  ⟨some (33, false), .call { callee := .value (.func 34), args := #[.tmp 32, .const (.int .i64 3), .const (.int .i64 0)], argTypes := #[64, 27, 3] }, 0, none, false⟩]
def ref3_ReadClass_r3_go := @goOps Try.prog _ _ ref3_ReadClass_r3.eq_1
def ref3_ReadClass_r4 : List Sop := [
  ⟨some (34, false), .build 43 #[], 43, none, true⟩,
  ⟨some (6, true), .alloc 43, 0, none, false⟩,
  ⟨none, .store 43 (.tmp 6) (.tmp 34), 0, none, false⟩]
def ref3_ReadClass_r4_go := @goOps Try.prog _ _ ref3_ReadClass_r4.eq_1
def ref3_ReadClass_r5 : List Sop := [
  ⟨some (35, false), .move (.tmp 5), 110, none, true⟩,
  ⟨some (36, false), .call { callee := .value (.func 59), args := #[.tmp 35], argTypes := #[110] }, 38, none, false⟩,
  ⟨some (37, false), .fieldAddr 43 (.tmp 6) 0, 0, none, true⟩,
  ⟨none, .store 38 (.tmp 37) (.tmp 36), 0, none, false⟩]
def ref3_ReadClass_r5_go := @goOps Try.prog _ _ ref3_ReadClass_r5.eq_1
def ref3_ReadClass_r6 : List Sop := [
  ⟨some (38, false), .move (.tmp 5), 110, none, true⟩,
  ⟨some (39, false), .call { callee := .value (.func 59), args := #[.tmp 38], argTypes := #[110] }, 38, none, false⟩,
  ⟨some (40, false), .fieldAddr 43 (.tmp 6) 1, 0, none, true⟩,
  ⟨none, .store 38 (.tmp 40) (.tmp 39), 0, none, false⟩]
def ref3_ReadClass_r6_go := @goOps Try.prog _ _ ref3_ReadClass_r6.eq_1
def ref3_ReadClass_r7 : List Sop := [
  ⟨some (41, false), .fieldAddr 43 (.tmp 6) 0, 0, none, true⟩,
  ⟨some (42, false), .load 38 (.tmp 41), 38, none, true⟩,
  ⟨some (43, false), .binOp .neq 38 (.tmp 42) (.const (.int .u16 0)) 38, 4, none, true⟩,
  ⟨some (44, false), .move (.tmp 43), 4, none, true⟩,
  ⟨some (45, false), .fieldAddr 43 (.tmp 6) 1, 0, some (44, false), true⟩,
  ⟨some (46, false), .load 38 (.tmp 45), 38, some (44, false), true⟩,
  ⟨some (47, false), .binOp .neq 38 (.tmp 46) (.const (.int .u16 50)) 38, 4, some (44, false), true⟩,
  ⟨some (48, false), .move (.tmp 47), 4, some (44, false), true⟩,
  ⟨some (49, false), .fieldAddr 43 (.tmp 6) 1, 0, some (48, true), true⟩,
  ⟨some (50, false), .load 38 (.tmp 49), 38, some (48, true), true⟩,
  ⟨some (51, false), .binOp .neq 38 (.tmp 50) (.const (.int .u16 51)) 38, 4, some (48, true), true⟩,
  ⟨some (52, false), .pick (.tmp 48) (.tmp 51) (.const (.bool false)), 4, some (44, false), true⟩,
  ⟨some (53, true), .pick (.tmp 44) (.const (.bool true)) (.tmp 52), 4, none, true⟩]
def ref3_ReadClass_r7_go := @goOps Try.prog _ _ ref3_ReadClass_r7.eq_1
def ref3_ReadClass_r8 : List Sop := [
  ⟨some (54, false), .move (.tmp 5), 110, none, true⟩,
  ⟨some (55, false), .nilCheck (.tmp 54), 0, none, true⟩,
  ⟨some (56, false), .fieldAddr 112 (.tmp 55) 0, 0, none, true⟩,
  ⟨some (57, false), .load 64 (.tmp 56), 64, none, true⟩,
  ⟨some (58, false), .call { callee := .value (.func 34), args := #[.tmp 57, .const (.int .i64 4), .const (.int .i64 4)], argTypes := #[64, 27, 3] }, 0, none, false⟩]
def ref3_ReadClass_r8_go := @goOps Try.prog _ _ ref3_ReadClass_r8.eq_1
def ref3_ReadClass_r9 : List Sop := [
  ⟨some (59, false), .move (.tmp 5), 110, none, true⟩,
  ⟨some (60, false), .nilCheck (.tmp 59), 0, none, true⟩,
  ⟨some (61, false), .fieldAddr 112 (.tmp 60) 0, 0, none, true⟩,
  ⟨some (62, false), .load 64 (.tmp 61), 64, none, true⟩,
  ⟨some (63, false), .nilCheck (.tmp 62), 0, none, true⟩,
  ⟨some (64, false), .fieldAddr 66 (.tmp 63) 2, 0, none, true⟩,
  ⟨some (65, false), .load 27 (.tmp 64), 27, none, true⟩,
  ⟨some (66, true), .binOp .eql 27 (.tmp 65) (.const (.int .i64 0)) 27, 4, none, true⟩]
def ref3_ReadClass_r9_go := @goOps Try.prog _ _ ref3_ReadClass_r9.eq_1
def ref3_ReadClass_r10 : List Sop := [
  ⟨some (68, false), .move (.tmp 0), 9, none, true⟩,
  ⟨some (69, false), .move (.tmp 5), 110, none, true⟩,
  ⟨some (70, false), .nilCheck (.tmp 69), 0, none, true⟩,
  ⟨some (71, false), .fieldAddr 112 (.tmp 70) 0, 0, none, true⟩,
  ⟨some (72, false), .load 64 (.tmp 71), 64, none, true⟩,
  ⟨some (73, false), .nilCheck (.tmp 72), 0, none, true⟩,
  ⟨some (74, false), .fieldAddr 66 (.tmp 73) 1, 0, none, true⟩,
  ⟨some (75, false), .load 3 (.tmp 74), 3, none, true⟩,
  ⟨some (76, false), .slice 9 (.tmp 68) (some (.tmp 75)) none none, 9, none, true⟩,
  ⟨some (77, false), .call { callee := .value (.func 60), args := #[.tmp 76], argTypes := #[9] }, 114, none, false⟩,
  ⟨some (67, false), .move (.tmp 77), 114, none, true⟩,
  ⟨some (78, false), .extract (.tmp 67) 0, 22, none, true⟩,
  ⟨some (79, false), .extract (.tmp 67) 1, 3, none, true⟩,
  ⟨some (80, false), .extract (.tmp 67) 2, 27, none, true⟩,
  ⟨some (81, false), .extract (.tmp 67) 3, 3, none, true⟩,
  ⟨some (7, true), .assign (.tmp 78), 22, none, true⟩,
  ⟨some (8, true), .assign (.tmp 79), 3, none, true⟩,
  ⟨some (9, true), .assign (.tmp 80), 27, none, true⟩,
  ⟨some (10, true), .assign (.tmp 81), 3, none, true⟩]
def ref3_ReadClass_r10_go := @goOps Try.prog _ _ ref3_ReadClass_r10.eq_1
def ref3_ReadClass_r11 : List Sop := [
  ⟨some (82, false), .move (.tmp 9), 27, none, true⟩,
  ⟨some (83, true), .binOp .neq 27 (.tmp 82) (.const (.int .i64 0)) 27, 4, none, true⟩]
def ref3_ReadClass_r11_go := @goOps Try.prog _ _ ref3_ReadClass_r11.eq_1
def ref3_ReadClass_r12 : List (Sop × List Sop) := [
  (⟨some (84, false), .move (.tmp 5), 110, none, true⟩, []),
  (⟨some (85, false), .nilCheck (.tmp 84), 0, none, true⟩, []),
  (⟨some (86, false), .fieldAddr 112 (.tmp 85) 0, 0, none, true⟩, []),
  (⟨some (87, false), .load 64 (.tmp 86), 64, none, true⟩, []),
  (⟨some (88, false), .move (.tmp 9), 27, none, true⟩, []),
  (⟨some (89, false), .move (.tmp 5), 110, none, true⟩, []),
  (⟨some (90, false), .nilCheck (.tmp 89), 0, none, true⟩, []),
  (⟨some (91, false), .fieldAddr 112 (.tmp 90) 0, 0, none, true⟩, []),
  (⟨some (92, false), .load 64 (.tmp 91), 64, none, true⟩, []),
  (⟨some (93, false), .nilCheck (.tmp 92), 0, none, true⟩, []),
  (⟨some (94, false), .fieldAddr 66 (.tmp 93) 1, 0, none, true⟩, []),
  (⟨some (95, false), .load 3 (.tmp 94), 3, none, true⟩, []),
  (⟨some (96, false), .move (.tmp 10), 3, none, true⟩, []),
  (⟨some (97, false), .binOp .add 3 (.tmp 95) (.tmp 96) 3, 3, none, true⟩, []),
  (⟨some (98, false), .call { callee := .value (.func 34), args := #[.tmp 87, .tmp 88, .tmp 97], argTypes := #[64, 27, 3] }, 0, none, false⟩, [])]
def ref3_ReadClass_r12_go := @goDraw Try.prog _ _ ref3_ReadClass_r12.eq_1
def ref3_ReadClass_r13 : List Sop := [
  ⟨some (99, false), .move (.tmp 5), 110, none, true⟩,
  ⟨some (100, false), .nilCheck (.tmp 99), 0, none, true⟩,
  ⟨some (101, false), .fieldAddr 112 (.tmp 100) 0, 0, none, true⟩,
  ⟨some (102, false), .load 64 (.tmp 101), 64, none, true⟩,
  ⟨some (103, false), .nilCheck (.tmp 102), 0, none, true⟩,
  ⟨some (104, false), .fieldAddr 66 (.tmp 103) 1, 0, none, true⟩,
  ⟨some (105, false), .load 3 (.tmp 104), 3, none, true⟩,
  ⟨some (106, false), .move (.tmp 8), 3, none, true⟩,
  ⟨some (107, false), .binOp .add 3 (.tmp 105) (.tmp 106) 3, 3, none, true⟩,
  ⟨some (108, false), .nilCheck (.tmp 102), 0, none, true⟩,
  ⟨some (109, false), .fieldAddr 66 (.tmp 108) 1, 0, none, true⟩,
  ⟨none, .store 3 (.tmp 109) (.tmp 107), 0, none, false⟩]
def ref3_ReadClass_r13_go := @goOps Try.prog _ _ ref3_ReadClass_r13.eq_1
def ref3_ReadClass_r14 : List Sop := [
  ⟨some (110, false), .move (.tmp 5), 110, none, true⟩,
  ⟨some (111, false), .move (.tmp 7), 22, none, true⟩,
  ⟨some (112, false), .nilCheck (.tmp 110), 0, none, true⟩,
  ⟨some (113, false), .fieldAddr 112 (.tmp 112) 1, 0, none, true⟩,
  ⟨none, .store 22 (.tmp 113) (.tmp 111), 0, none, false⟩]
def ref3_ReadClass_r14_go := @goOps Try.prog _ _ ref3_ReadClass_r14.eq_1
def ref3_ReadClass_r15 : List Sop := [
  ⟨some (114, false), .move (.tmp 7), 22, none, true⟩,
  ⟨some (115, false), .fieldAddr 43 (.tmp 6) 5, 0, none, true⟩,
  ⟨none, .store 22 (.tmp 115) (.tmp 114), 0, none, false⟩]
def ref3_ReadClass_r15_go := @goOps Try.prog _ _ ref3_ReadClass_r15.eq_1
def ref3_ReadClass_r16 : List Sop := [
  ⟨some (116, false), .move (.tmp 5), 110, none, true⟩,
  ⟨some (117, false), .call { callee := .value (.func 59), args := #[.tmp 116], argTypes := #[110] }, 38, none, false⟩,
  ⟨some (118, false), .fieldAddr 43 (.tmp 6) 2, 0, none, true⟩,
  ⟨none, .store 38 (.tmp 118) (.tmp 117), 0, none, false⟩]
def ref3_ReadClass_r16_go := @goOps Try.prog _ _ ref3_ReadClass_r16.eq_1
def ref3_ReadClass_r17 : List Sop := [
  ⟨some (119, false), .move (.tmp 5), 110, none, true⟩,
  ⟨some (120, false), .call { callee := .value (.func 59), args := #[.tmp 119], argTypes := #[110] }, 38, none, false⟩,
  ⟨some (121, false), .fieldAddr 43 (.tmp 6) 3, 0, none, true⟩,
  ⟨none, .store 38 (.tmp 121) (.tmp 120), 0, none, false⟩]
def ref3_ReadClass_r17_go := @goOps Try.prog _ _ ref3_ReadClass_r17.eq_1
def ref3_ReadClass_r18 : List Sop := [
  ⟨some (122, false), .move (.tmp 5), 110, none, true⟩,
  ⟨some (123, false), .call { callee := .value (.func 59), args := #[.tmp 122], argTypes := #[110] }, 38, none, false⟩,
  ⟨some (124, false), .fieldAddr 43 (.tmp 6) 4, 0, none, true⟩,
  ⟨none, .store 38 (.tmp 124) (.tmp 123), 0, none, false⟩]
def ref3_ReadClass_r18_go := @goOps Try.prog _ _ ref3_ReadClass_r18.eq_1
def ref3_ReadClass_r19 : List Sop := [
  ⟨some (125, false), .move (.tmp 5), 110, none, true⟩,
  ⟨some (126, false), .nilCheck (.tmp 125), 0, none, true⟩,
  ⟨some (127, false), .fieldAddr 112 (.tmp 126) 0, 0, none, true⟩,
  ⟨some (128, false), .load 64 (.tmp 127), 64, none, true⟩,
  ⟨some (129, false), .call { callee := .value (.func 31), args := #[.tmp 128, .const (.int .i64 2)], argTypes := #[64, 3] }, 3, none, false⟩,
  ⟨some (11, true), .assign (.tmp 129), 3, none, true⟩]
def ref3_ReadClass_r19_go := @goOps Try.prog _ _ ref3_ReadClass_r19.eq_1
def ref3_ReadClass_r20 : List Sop := [
  ⟨some (130, false), .move (.tmp 11), 3, none, true⟩,
  ⟨some (131, false), .binOp .gtr 3 (.tmp 130) (.const (.int .i64 0)) 3, 4, none, true⟩,
  ⟨some (132, false), .move (.tmp 131), 4, none, true⟩,
  ⟨some (133, false), .move (.tmp 5), 110, some (132, true), true⟩,
  ⟨some (134, false), .nilCheck (.tmp 133), 0, some (132, true), true⟩,
  ⟨some (135, false), .fieldAddr 112 (.tmp 134) 0, 0, some (132, true), true⟩,
  ⟨some (136, false), .load 64 (.tmp 135), 64, some (132, true), true⟩,
  ⟨some (137, false), .nilCheck (.tmp 136), 0, some (132, true), true⟩,
  ⟨some (138, false), .fieldAddr 66 (.tmp 137) 2, 0, some (132, true), true⟩,
  ⟨some (139, false), .load 27 (.tmp 138), 27, some (132, true), true⟩,
  ⟨some (140, false), .binOp .eql 27 (.tmp 139) (.const (.int .i64 0)) 27, 4, some (132, true), true⟩,
  ⟨some (141, true), .pick (.tmp 132) (.tmp 140) (.const (.bool false)), 4, none, true⟩]
def ref3_ReadClass_r20_go := @goOps Try.prog _ _ ref3_ReadClass_r20.eq_1
def ref3_ReadClass_r21 : List (Sop × List Sop) := [
  (⟨some (144, false), .fieldAddr 43 (.tmp 6) 6, 0, none, true⟩, []),
  (⟨some (145, false), .load 39 (.tmp 144), 39, none, true⟩, []),
  (⟨some (146, false), .move (.tmp 5), 110, none, true⟩, []),
  (⟨some (147, false), .call { callee := .value (.func 59), args := #[.tmp 146], argTypes := #[110] }, 38, none, false⟩, [⟨some (144, false), .fieldAddr 43 (.tmp 6) 6, 0, none, true⟩, ⟨some (145, false), .load 39 (.tmp 144), 39, none, true⟩]),
  (⟨some (148, false), .buildSlice 39 1 #[(0, .tmp 147)], 39, none, false⟩, [⟨some (144, false), .fieldAddr 43 (.tmp 6) 6, 0, none, true⟩, ⟨some (145, false), .load 39 (.tmp 144), 39, none, true⟩]),
  (⟨some (149, false), .call { callee := .builtin .append, args := #[.tmp 145, .tmp 148], argTypes := #[39, 39] }, 39, none, false⟩, []),
  (⟨some (150, false), .fieldAddr 43 (.tmp 6) 6, 0, none, true⟩, []),
  (⟨none, .store 39 (.tmp 150) (.tmp 149), 0, none, false⟩, [])]
def ref3_ReadClass_r21_go := @goDraw Try.prog _ _ ref3_ReadClass_r21.eq_1
def ref3_ReadClass_r22 : List Sop := [
  ⟨some (142, false), .move (.tmp 11), 3, none, true⟩,
  ⟨some (143, false), .binOp .sub 3 (.tmp 142) (.const (.int .i64 1)) 3, 3, none, true⟩,
  ⟨some (11, true), .assign (.tmp 143), 3, none, true⟩]
def ref3_ReadClass_r22_go := @goOps Try.prog _ _ ref3_ReadClass_r22.eq_1
def ref3_ReadClass_r23 : List Sop := [
  ⟨some (151, false), .move (.tmp 5), 110, none, true⟩,
  ⟨some (152, false), .nilCheck (.tmp 151), 0, none, true⟩,
  ⟨some (153, false), .fieldAddr 112 (.tmp 152) 0, 0, none, true⟩,
  ⟨some (154, false), .load 64 (.tmp 153), 64, none, true⟩,
  ⟨some (155, false), .call { callee := .value (.func 31), args := #[.tmp 154, .const (.int .i64 2)], argTypes := #[64, 3] }, 3, none, false⟩,
  ⟨some (12, true), .assign (.tmp 155), 3, none, true⟩]
def ref3_ReadClass_r23_go := @goOps Try.prog _ _ ref3_ReadClass_r23.eq_1
def ref3_ReadClass_r24 : List Sop := [
  ⟨some (156, false), .move (.tmp 12), 3, none, true⟩,
  ⟨some (157, false), .binOp .gtr 3 (.tmp 156) (.const (.int .i64 0)) 3, 4, none, true⟩,
  ⟨some (158, false), .move (.tmp 157), 4, none, true⟩,
  ⟨some (159, false), .move (.tmp 5), 110, some (158, true), true⟩,
  ⟨some (160, false), .nilCheck (.tmp 159), 0, some (158, true), true⟩,
  ⟨some (161, false), .fieldAddr 112 (.tmp 160) 0, 0, some (158, true), true⟩,
  ⟨some (162, false), .load 64 (.tmp 161), 64, some (158, true), true⟩,
  ⟨some (163, false), .nilCheck (.tmp 162), 0, some (158, true), true⟩,
  ⟨some (164, false), .fieldAddr 66 (.tmp 163) 2, 0, some (158, true), true⟩,
  ⟨some (165, false), .load 27 (.tmp 164), 27, some (158, true), true⟩,
  ⟨some (166, false), .binOp .eql 27 (.tmp 165) (.const (.int .i64 0)) 27, 4, some (158, true), true⟩,
  ⟨some (167, true), .pick (.tmp 158) (.tmp 166) (.const (.bool false)), 4, none, true⟩]
def ref3_ReadClass_r24_go := @goOps Try.prog _ _ ref3_ReadClass_r24.eq_1
def ref3_ReadClass_r25 : List (Sop × List Sop) := [
  (⟨some (170, false), .fieldAddr 43 (.tmp 6) 7, 0, none, true⟩, []),
  (⟨some (171, false), .load 40 (.tmp 170), 40, none, true⟩, []),
  (⟨some (172, false), .move (.tmp 5), 110, none, true⟩, []),
  (⟨some (173, false), .call { callee := .value (.func 61), args := #[.tmp 172], argTypes := #[110] }, 89, none, false⟩, [⟨some (170, false), .fieldAddr 43 (.tmp 6) 7, 0, none, true⟩, ⟨some (171, false), .load 40 (.tmp 170), 40, none, true⟩]),
  (⟨some (174, false), .buildSlice 40 1 #[(0, .tmp 173)], 40, none, false⟩, [⟨some (170, false), .fieldAddr 43 (.tmp 6) 7, 0, none, true⟩, ⟨some (171, false), .load 40 (.tmp 170), 40, none, true⟩]),
  (⟨some (175, false), .call { callee := .builtin .append, args := #[.tmp 171, .tmp 174], argTypes := #[40, 40] }, 40, none, false⟩, []),
  (⟨some (176, false), .fieldAddr 43 (.tmp 6) 7, 0, none, true⟩, []),
  (⟨none, .store 40 (.tmp 176) (.tmp 175), 0, none, false⟩, [])]
def ref3_ReadClass_r25_go := @goDraw Try.prog _ _ ref3_ReadClass_r25.eq_1
def ref3_ReadClass_r26 : List Sop := [
  ⟨some (168, false), .move (.tmp 12), 3, none, true⟩,
  ⟨some (169, false), .binOp .sub 3 (.tmp 168) (.const (.int .i64 1)) 3, 3, none, true⟩,
  ⟨some (12, true), .assign (.tmp 169), 3, none, true⟩]
def ref3_ReadClass_r26_go := @goOps Try.prog _ _ ref3_ReadClass_r26.eq_1
def ref3_ReadClass_r27 : List Sop := [
  ⟨some (177, false), .move (.tmp 5), 110, none, true⟩,
  ⟨some (178, false), .nilCheck (.tmp 177), 0, none, true⟩,
  ⟨some (179, false), .fieldAddr 112 (.tmp 178) 0, 0, none, true⟩,
  ⟨some (180, false), .load 64 (.tmp 179), 64, none, true⟩,
  ⟨some (181, false), .call { callee := .value (.func 31), args := #[.tmp 180, .const (.int .i64 2)], argTypes := #[64, 3] }, 3, none, false⟩,
  ⟨some (13, true), .assign (.tmp 181), 3, none, true⟩]
def ref3_ReadClass_r27_go := @goOps Try.prog _ _ ref3_ReadClass_r27.eq_1
def ref3_ReadClass_r28 : List Sop := [
  ⟨some (182, false), .move (.tmp 13), 3, none, true⟩,
  ⟨some (183, false), .binOp .gtr 3 (.tmp 182) (.const (.int .i64 0)) 3, 4, none, true⟩,
  ⟨some (184, false), .move (.tmp 183), 4, none, true⟩,
  ⟨some (185, false), .move (.tmp 5), 110, some (184, true), true⟩,
  ⟨some (186, false), .nilCheck (.tmp 185), 0, some (184, true), true⟩,
  ⟨some (187, false), .fieldAddr 112 (.tmp 186) 0, 0, some (184, true), true⟩,
  ⟨some (188, false), .load 64 (.tmp 187), 64, some (184, true), true⟩,
  ⟨some (189, false), .nilCheck (.tmp 188), 0, some (184, true), true⟩,
  ⟨some (190, false), .fieldAddr 66 (.tmp 189) 2, 0, some (184, true), true⟩,
  ⟨some (191, false), .load 27 (.tmp 190), 27, some (184, true), true⟩,
  ⟨some (192, false), .binOp .eql 27 (.tmp 191) (.const (.int .i64 0)) 27, 4, some (184, true), true⟩,
  ⟨some (193, true), .pick (.tmp 184) (.tmp 192) (.const (.bool false)), 4, none, true⟩]
def ref3_ReadClass_r28_go := @goOps Try.prog _ _ ref3_ReadClass_r28.eq_1
def ref3_ReadClass_r29 : List (Sop × List Sop) := [
  (⟨some (196, false), .fieldAddr 43 (.tmp 6) 8, 0, none, true⟩, []),
  (⟨some (197, false), .load 41 (.tmp 196), 41, none, true⟩, []),
  (⟨some (198, false), .move (.tmp 5), 110, none, true⟩, []),
  (⟨some (199, false), .call { callee := .value (.func 62), args := #[.tmp 198], argTypes := #[110] }, 81, none, false⟩, [⟨some (196, false), .fieldAddr 43 (.tmp 6) 8, 0, none, true⟩, ⟨some (197, false), .load 41 (.tmp 196), 41, none, true⟩]),
  (⟨some (200, false), .buildSlice 41 1 #[(0, .tmp 199)], 41, none, false⟩, [⟨some (196, false), .fieldAddr 43 (.tmp 6) 8, 0, none, true⟩, ⟨some (197, false), .load 41 (.tmp 196), 41, none, true⟩]),
  (⟨some (201, false), .call { callee := .builtin .append, args := #[.tmp 197, .tmp 200], argTypes := #[41, 41] }, 41, none, false⟩, []),
  (⟨some (202, false), .fieldAddr 43 (.tmp 6) 8, 0, none, true⟩, []),
  (⟨none, .store 41 (.tmp 202) (.tmp 201), 0, none, false⟩, [])]
def ref3_ReadClass_r29_go := @goDraw Try.prog _ _ ref3_ReadClass_r29.eq_1
def ref3_ReadClass_r30 : List Sop := [
  ⟨some (194, false), .move (.tmp 13), 3, none, true⟩,
  ⟨some (195, false), .binOp .sub 3 (.tmp 194) (.const (.int .i64 1)) 3, 3, none, true⟩,
  ⟨some (13, true), .assign (.tmp 195), 3, none, true⟩]
def ref3_ReadClass_r30_go := @goOps Try.prog _ _ ref3_ReadClass_r30.eq_1
def ref3_ReadClass_r31 : List Sop := [
  ⟨some (203, false), .move (.tmp 5), 110, none, true⟩,
  ⟨some (204, false), .nilCheck (.tmp 203), 0, none, true⟩,
  ⟨some (205, false), .fieldAddr 112 (.tmp 204) 0, 0, none, true⟩,
  ⟨some (206, false), .load 64 (.tmp 205), 64, none, true⟩,
  ⟨some (207, false), .call { callee := .value (.func 31), args := #[.tmp 206, .const (.int .i64 2)], argTypes := #[64, 3] }, 3, none, false⟩,
  ⟨some (14, true), .assign (.tmp 207), 3, none, true⟩]
def ref3_ReadClass_r31_go := @goOps Try.prog _ _ ref3_ReadClass_r31.eq_1
def ref3_ReadClass_r32 : List Sop := [
  ⟨some (208, false), .move (.tmp 14), 3, none, true⟩,
  ⟨some (209, false), .binOp .gtr 3 (.tmp 208) (.const (.int .i64 0)) 3, 4, none, true⟩,
  ⟨some (210, false), .move (.tmp 209), 4, none, true⟩,
  ⟨some (211, false), .move (.tmp 5), 110, some (210, true), true⟩,
  ⟨some (212, false), .nilCheck (.tmp 211), 0, some (210, true), true⟩,
  ⟨some (213, false), .fieldAddr 112 (.tmp 212) 0, 0, some (210, true), true⟩,
  ⟨some (214, false), .load 64 (.tmp 213), 64, some (210, true), true⟩,
  ⟨some (215, false), .nilCheck (.tmp 214), 0, some (210, true), true⟩,
  ⟨some (216, false), .fieldAddr 66 (.tmp 215) 2, 0, some (210, true), true⟩,
  ⟨some (217, false), .load 27 (.tmp 216), 27, some (210, true), true⟩,
  ⟨some (218, false), .binOp .eql 27 (.tmp 217) (.const (.int .i64 0)) 27, 4, some (210, true), true⟩,
  ⟨some (219, true), .pick (.tmp 210) (.tmp 218) (.const (.bool false)), 4, none, true⟩]
def ref3_ReadClass_r32_go := @goOps Try.prog _ _ ref3_ReadClass_r32.eq_1
def ref3_ReadClass_r33 : List Sop := [
  ⟨some (223, false), .move (.tmp 5), 110, none, true⟩,
  ⟨some (224, false), .call { callee := .value (.func 63), args := #[.tmp 223], argTypes := #[110] }, 116, none, false⟩,
  ⟨some (222, false), .move (.tmp 224), 116, none, true⟩,
  ⟨some (225, false), .extract (.tmp 222) 0, 9, none, true⟩,
  ⟨some (226, false), .extract (.tmp 222) 1, 3, none, true⟩,
  ⟨some (227, false), .extract (.tmp 222) 2, 3, none, true⟩,
  ⟨some (15, false), .assign (.tmp 225), 9, none, true⟩,
  ⟨some (16, true), .assign (.tmp 226), 3, none, true⟩,
  ⟨some (17, true), .assign (.tmp 227), 3, none, true⟩]
def ref3_ReadClass_r33_go := @goOps Try.prog _ _ ref3_ReadClass_r33.eq_1
def ref3_ReadClass_r34 : List Sop := [
  ⟨some (228, false), .move (.tmp 5), 110, none, true⟩,
  ⟨some (229, false), .move (.tmp 16), 3, none, true⟩,
  ⟨some (230, false), .move (.tmp 17), 3, none, true⟩,
  ⟨some (231, false), .call { callee := .value (.func 64), args := #[.tmp 228, .const (.bool false), .tmp 229, .tmp 230], argTypes := #[110, 4, 3, 3] }, 0, none, false⟩]
def ref3_ReadClass_r34_go := @goOps Try.prog _ _ ref3_ReadClass_r34.eq_1
def ref3_ReadClass_r35 : List Sop := [
  ⟨some (220, false), .move (.tmp 14), 3, none, true⟩,
  ⟨some (221, false), .binOp .sub 3 (.tmp 220) (.const (.int .i64 1)) 3, 3, none, true⟩,
  ⟨some (14, true), .assign (.tmp 221), 3, none, true⟩]
def ref3_ReadClass_r35_go := @goOps Try.prog _ _ ref3_ReadClass_r35.eq_1
def ref3_ReadClass_r36 : List Sop := [
  ⟨some (232, false), .move (.tmp 5), 110, none, true⟩,
  ⟨some (233, false), .nilCheck (.tmp 232), 0, none, true⟩,
  ⟨some (234, false), .fieldAddr 112 (.tmp 233) 0, 0, none, true⟩,
  ⟨some (235, false), .load 64 (.tmp 234), 64, none, true⟩,
  ⟨some (236, false), .nilCheck (.tmp 235), 0, none, true⟩,
  ⟨some (237, false), .fieldAddr 66 (.tmp 236) 1, 0, none, true⟩,
  ⟨some (238, false), .load 3 (.tmp 237), 3, none, true⟩,
  ⟨some (239, false), .move (.tmp 0), 9, none, true⟩,
  ⟨some (240, false), .call { callee := .builtin .len, args := #[.tmp 239], argTypes := #[9] }, 3, none, true⟩,
  ⟨some (241, true), .binOp .lss 3 (.tmp 238) (.tmp 240) 3, 4, none, true⟩]
def ref3_ReadClass_r36_go := @goOps Try.prog _ _ ref3_ReadClass_r36.eq_1
def ref3_ReadClass_r37 : List (Sop × List Sop) := [
  (⟨some (242, false), .move (.tmp 5), 110, none, true⟩, []),
  (⟨some (243, false), .nilCheck (.tmp 242), 0, none, true⟩, []),
  (⟨some (244, false), .fieldAddr 112 (.tmp 243) 0, 0, none, true⟩, []),
  (⟨some (245, false), .load 64 (.tmp 244), 64, none, true⟩, []),
  (⟨some (246, false), .move (.tmp 5), 110, none, true⟩, []),
  (⟨some (247, false), .nilCheck (.tmp 246), 0, none, true⟩, []),
  (⟨some (248, false), .fieldAddr 112 (.tmp 247) 0, 0, none, true⟩, []),
  (⟨some (249, false), .load 64 (.tmp 248), 64, none, true⟩, []),
  (⟨some (250, false), .nilCheck (.tmp 249), 0, none, true⟩, []),
  (⟨some (251, false), .fieldAddr 66 (.tmp 250) 1, 0, none, true⟩, []),
  (⟨some (252, false), .load 3 (.tmp 251), 3, none, true⟩, []),
  (⟨some (253, false), .call { callee := .value (.func 34), args := #[.tmp 245, .const (.int .i64 2), .tmp 252], argTypes := #[64, 27, 3] }, 0, none, false⟩, [])]
def ref3_ReadClass_r37_go := @goDraw Try.prog _ _ ref3_ReadClass_r37.eq_1
def ref3_ReadClass_r38 : List Sop := [
  ⟨some (254, false), .move (.tmp 5), 110, none, true⟩,
  ⟨some (255, false), .nilCheck (.tmp 254), 0, none, true⟩,
  ⟨some (256, false), .fieldAddr 112 (.tmp 255) 0, 0, none, true⟩,
  ⟨some (257, false), .load 64 (.tmp 256), 64, none, true⟩,
  ⟨some (258, false), .nilCheck (.tmp 257), 0, none, true⟩,
  ⟨some (259, false), .fieldAddr 66 (.tmp 258) 2, 0, none, true⟩,
  ⟨some (260, false), .load 27 (.tmp 259), 27, none, true⟩,
  ⟨some (261, true), .binOp .neq 27 (.tmp 260) (.const (.int .i64 0)) 27, 4, none, true⟩]
def ref3_ReadClass_r38_go := @goOps Try.prog _ _ ref3_ReadClass_r38.eq_1
def ref3_ReadClass_r39 : List (Sop × List Sop) := [
  (⟨some (262, false), .build 43 #[], 43, none, true⟩, []),
  (⟨some (263, false), .move (.tmp 5), 110, none, true⟩, []),
  (⟨some (264, false), .nilCheck (.tmp 263), 0, none, true⟩, []),
  (⟨some (265, false), .fieldAddr 112 (.tmp 264) 0, 0, none, true⟩, []),
  (⟨some (266, false), .load 64 (.tmp 265), 64, none, true⟩, []),
  (⟨some (267, false), .nilCheck (.tmp 266), 0, none, true⟩, []),
  (⟨some (268, false), .fieldAddr 66 (.tmp 267) 2, 0, none, true⟩, []),
  (⟨some (269, false), .load 27 (.tmp 268), 27, none, true⟩, []),
  (⟨some (270, false), .move (.tmp 5), 110, none, true⟩, []),
  (⟨some (271, false), .nilCheck (.tmp 270), 0, none, true⟩, []),
  (⟨some (272, false), .fieldAddr 112 (.tmp 271) 0, 0, none, true⟩, []),
  (⟨some (273, false), .load 64 (.tmp 272), 64, none, true⟩, []),
  (⟨some (274, false), .nilCheck (.tmp 273), 0, none, true⟩, []),
  (⟨some (275, false), .fieldAddr 66 (.tmp 274) 3, 0, none, true⟩, []),
  (⟨some (276, false), .load 3 (.tmp 275), 3, none, true⟩, []),
  (⟨none, .store 43 (.tmp 2) (.tmp 262), 0, none, false⟩, [⟨some (264, false), .nilCheck (.tmp 263), 0, none, true⟩, ⟨some (265, false), .fieldAddr 112 (.tmp 264) 0, 0, none, true⟩, ⟨some (266, false), .load 64 (.tmp 265), 64, none, true⟩, ⟨some (267, false), .nilCheck (.tmp 266), 0, none, true⟩, ⟨some (268, false), .fieldAddr 66 (.tmp 267) 2, 0, none, true⟩, ⟨some (269, false), .load 27 (.tmp 268), 27, none, true⟩, ⟨some (271, false), .nilCheck (.tmp 270), 0, none, true⟩, ⟨some (272, false), .fieldAddr 112 (.tmp 271) 0, 0, none, true⟩, ⟨some (273, false), .load 64 (.tmp 272), 64, none, true⟩, ⟨some (274, false), .nilCheck (.tmp 273), 0, none, true⟩, ⟨some (275, false), .fieldAddr 66 (.tmp 274) 3, 0, none, true⟩, ⟨some (276, false), .load 3 (.tmp 275), 3, none, true⟩]),
  (⟨some (3, true), .assign (.tmp 269), 27, none, true⟩, []),
  (⟨some (4, true), .assign (.tmp 276), 3, none, true⟩, [])]
def ref3_ReadClass_r39_go := @goDraw Try.prog _ _ ref3_ReadClass_r39.eq_1
def ref3_ReadClass_r40 : List Sop := [
  ⟨some (277, false), .load 43 (.tmp 6), 43, none, true⟩,
  ⟨none, .store 43 (.tmp 2) (.tmp 277), 0, none, false⟩,
  ⟨some (3, true), .assign (.const (.int .i64 0)), 27, none, true⟩,
  ⟨some (4, true), .assign (.const (.int .i64 0)), 3, none, true⟩]
def ref3_ReadClass_r40_go := @goOps Try.prog _ _ ref3_ReadClass_r40.eq_1
def ref3_ReadClass_l0 : Cd := .seq (.seq (.region ref3_ReadClass_r20) (.cond (.tmp 141) (.skip) (.exit 0))) (.seq (.block 1 (.draw ref3_ReadClass_r21)) (.region ref3_ReadClass_r22))
def ref3_ReadClass_l0_go := @goVc Try.prog _ _ ref3_ReadClass_l0.eq_1
def ref3_ReadClass_l1 : Cd := .seq (.seq (.region ref3_ReadClass_r24) (.cond (.tmp 167) (.skip) (.exit 2))) (.seq (.block 3 (.draw ref3_ReadClass_r25)) (.region ref3_ReadClass_r26))
def ref3_ReadClass_l1_go := @goVc Try.prog _ _ ref3_ReadClass_l1.eq_1
def ref3_ReadClass_l2 : Cd := .seq (.seq (.region ref3_ReadClass_r28) (.cond (.tmp 193) (.skip) (.exit 4))) (.seq (.block 5 (.draw ref3_ReadClass_r29)) (.region ref3_ReadClass_r30))
def ref3_ReadClass_l2_go := @goVc Try.prog _ _ ref3_ReadClass_l2.eq_1
def ref3_ReadClass_l3 : Cd := .seq (.seq (.region ref3_ReadClass_r32) (.cond (.tmp 219) (.skip) (.exit 6))) (.seq (.block 7 (.seq (.region ref3_ReadClass_r33) (.region ref3_ReadClass_r34))) (.region ref3_ReadClass_r35))
def ref3_ReadClass_l3_go := @goVc Try.prog _ _ ref3_ReadClass_l3.eq_1
def ref3_ReadClass_t0 : Cd := .seq (.seq (.region ref3_ReadClass_r38) (.cond (.tmp 261) (.seq (.draw ref3_ReadClass_r39) (.ret)) (.skip))) (.seq (.region ref3_ReadClass_r40) (.ret))
def ref3_ReadClass_t0_go := @goVc Try.prog _ _ ref3_ReadClass_t0.eq_1
def ref3_ReadClass_t1 : Cd := .seq (.seq (.region ref3_ReadClass_r36) (.cond (.tmp 241) (.draw ref3_ReadClass_r37) (.skip))) (ref3_ReadClass_t0)
def ref3_ReadClass_t1_go := @goVc Try.prog _ _ ref3_ReadClass_t1.eq_1
def ref3_ReadClass_t2 : Cd := .seq (.seq (.region ref3_ReadClass_r31) (.block 6 (.loop ref3_ReadClass_l3))) (ref3_ReadClass_t1)
def ref3_ReadClass_t2_go := @goVc Try.prog _ _ ref3_ReadClass_t2.eq_1
def ref3_ReadClass_t3 : Cd := .seq (.seq (.region ref3_ReadClass_r27) (.block 4 (.loop ref3_ReadClass_l2))) (ref3_ReadClass_t2)
def ref3_ReadClass_t3_go := @goVc Try.prog _ _ ref3_ReadClass_t3.eq_1
def ref3_ReadClass_t4 : Cd := .seq (.seq (.region ref3_ReadClass_r23) (.block 2 (.loop ref3_ReadClass_l1))) (ref3_ReadClass_t3)
def ref3_ReadClass_t4_go := @goVc Try.prog _ _ ref3_ReadClass_t4.eq_1
def ref3_ReadClass_t5 : Cd := .seq (.seq (.region ref3_ReadClass_r19) (.block 0 (.loop ref3_ReadClass_l0))) (ref3_ReadClass_t4)
def ref3_ReadClass_t5_go := @goVc Try.prog _ _ ref3_ReadClass_t5.eq_1
def ref3_ReadClass_t6 : Cd := .seq (.region ref3_ReadClass_r16) (.seq (.region ref3_ReadClass_r17) (.seq (.region ref3_ReadClass_r18) (ref3_ReadClass_t5)))
def ref3_ReadClass_t6_go := @goVc Try.prog _ _ ref3_ReadClass_t6.eq_1
def ref3_ReadClass_t7 : Cd := .seq (.seq (.region ref3_ReadClass_r9) (.cond (.tmp 66) (.seq (.region ref3_ReadClass_r10) (.seq (.seq (.region ref3_ReadClass_r11) (.cond (.tmp 83) (.draw ref3_ReadClass_r12) (.skip))) (.seq (.region ref3_ReadClass_r13) (.seq (.region ref3_ReadClass_r14) (.region ref3_ReadClass_r15))))) (.skip))) (ref3_ReadClass_t6)
def ref3_ReadClass_t7_go := @goVc Try.prog _ _ ref3_ReadClass_t7.eq_1
def ref3_ReadClass_t8 : Cd := .seq (.region ref3_ReadClass_r4) (.seq (.region ref3_ReadClass_r5) (.seq (.region ref3_ReadClass_r6) (.seq (.seq (.region ref3_ReadClass_r7) (.cond (.tmp 53) (.region ref3_ReadClass_r8) (.skip))) (ref3_ReadClass_t7))))
def ref3_ReadClass_t8_go := @goVc Try.prog _ _ ref3_ReadClass_t8.eq_1
def ref3_ReadClass : Cd := .seq (.region ref3_ReadClass_r0) (.seq (.region ref3_ReadClass_r1) (.seq (.seq (.region ref3_ReadClass_r2) (.cond (.tmp 28) (.region ref3_ReadClass_r3) (.skip))) (ref3_ReadClass_t8)))
def ref3_ReadClass_go := @goVc Try.prog _ _ ref3_ReadClass.eq_1
theorem ref3_ReadClass_calls {args : List Value} {h : Heap} {R : Value → Heap → Prop} (hl : args.length = 1) (hv : Cd.vc Try.prog ref3_ReadClass (retQ Try.prog [(2, some 43), (3, none), (4, none)] R) (initEnv args [0, 2, 3, 4, 5, 6, 7, 8, 9, 10, 11, 12, 13, 14, 16, 17, 28, 53, 66, 83, 141, 167, 193, 219, 241, 261]) h) : HCalls Try.prog 20 args.toArray h R :=
  hcalls_of_vc (by kernel_rfl) Try.func20 (cd := ref3_ReadClass) (L := [0, 2, 3, 4, 5, 6, 7, 8, 9, 10, 11, 12, 13, 14, 16, 17, 28, 53, 66, 83, 141, 167, 193, 219, 241, 261]) (by kernel_rfl) (by kernel_rfl) ⟨by rw [hl, Try.ntmps20]; decide, by rw [Try.ntmps20]; decide⟩ hv
def ref3_ReadClass_gos := And.intro @ref3_ReadClass_go (And.intro @ref3_ReadClass_r0_go (And.intro @ref3_ReadClass_r1_go (And.intro @ref3_ReadClass_r2_go (And.intro @ref3_ReadClass_r3_go (And.intro @ref3_ReadClass_r4_go (And.intro @ref3_ReadClass_r5_go (And.intro @ref3_ReadClass_r6_go (And.intro @ref3_ReadClass_r7_go (And.intro @ref3_ReadClass_r8_go (And.intro @ref3_ReadClass_r9_go (And.intro @ref3_ReadClass_r10_go (And.intro @ref3_ReadClass_r11_go (And.intro @ref3_ReadClass_r12_go (And.intro @ref3_ReadClass_r13_go (And.intro @ref3_ReadClass_r14_go (And.intro @ref3_ReadClass_r15_go (And.intro @ref3_ReadClass_r16_go (And.intro @ref3_ReadClass_r17_go (And.intro @ref3_ReadClass_r18_go (And.intro @ref3_ReadClass_r19_go (And.intro @ref3_ReadClass_r20_go (And.intro @ref3_ReadClass_r21_go (And.intro @ref3_ReadClass_r22_go (And.intro @ref3_ReadClass_r23_go (And.intro @ref3_ReadClass_r24_go (And.intro @ref3_ReadClass_r25_go (And.intro @ref3_ReadClass_r26_go (And.intro @ref3_ReadClass_r27_go (And.intro @ref3_ReadClass_r28_go (And.intro @ref3_ReadClass_r29_go (And.intro @ref3_ReadClass_r30_go (And.intro @ref3_ReadClass_r31_go (And.intro @ref3_ReadClass_r32_go (And.intro @ref3_ReadClass_r33_go (And.intro @ref3_ReadClass_r34_go (And.intro @ref3_ReadClass_r35_go (And.intro @ref3_ReadClass_r36_go (And.intro @ref3_ReadClass_r37_go (And.intro @ref3_ReadClass_r38_go (And.intro @ref3_ReadClass_r39_go (And.intro @ref3_ReadClass_r40_go (And.intro @ref3_ReadClass_l0_go (And.intro @ref3_ReadClass_l1_go (And.intro @ref3_ReadClass_l2_go (@ref3_ReadClass_l3_go)))))))))))))))))))))))))))))))))))))))))))))

end Go.Proofs.Ytohkbpnblkkdgaa.C
