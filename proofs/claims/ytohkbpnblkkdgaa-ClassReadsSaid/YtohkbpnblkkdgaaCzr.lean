/- The stripped code of some functions of this seat's program, printed by a program; that it is that code is proved by the kernel. No condition. -/

import Derived.Test.YtohkbpnblkkdgaaProg

import Derived.Test.YtohkbpnblkkdgaaVcJ

set_option maxRecDepth 100000

set_option linter.defProp false

namespace Go.Proofs.Ytohkbpnblkkdgaa.C

open Go.Vc

/-! jvmcore/class.Read: function 19: slots [0, 2, 3, 4, 5, 6, 7, 8, 9, 10, 11, 21, 64, 116, 147, 175, 196, 216] -/
def class_Read_r0 : List Sop := [
  ⟨some (2, true), .alloc 43, 0, none, false⟩,
  ⟨some (3, true), .assign (.const (.int .i64 0)), 27, none, true⟩,
  ⟨some (4, true), .assign (.const (.int .i64 0)), 3, none, true⟩]
def class_Read_r0_go := @goOps Try.prog _ _ class_Read_r0.eq_1
def class_Read_r1 : List Sop := [
  ⟨some (12, false), .move (.tmp 0), 9, none, true⟩,
  ⟨some (13, false), .call { callee := .value (.func 22), args := #[.tmp 12], argTypes := #[9] }, 54, none, false⟩,
  ⟨some (14, false), .build 102 #[(0, .tmp 13)], 102, none, true⟩,
  ⟨some (15, false), .box 102 (.tmp 14), 100, none, false⟩,
  ⟨some (5, true), .assign (.tmp 15), 100, none, true⟩]
def class_Read_r1_go := @goOps Try.prog _ _ class_Read_r1.eq_1
def class_Read_r2 : List Sop := [
  ⟨some (16, false), .move (.tmp 5), 100, none, true⟩,
  ⟨some (17, false), .nilCheck (.tmp 16), 0, none, true⟩,
  ⟨some (18, false), .fieldAddr 102 (.tmp 17) 0, 0, none, true⟩,
  ⟨some (19, false), .load 54 (.tmp 18), 54, none, true⟩,
  ⟨some (20, false), .call { callee := .value (.func 23), args := #[.tmp 19, .const (.int .i64 4)], argTypes := #[54, 3] }, 3, none, false⟩,
  ⟨some (21, true), .binOp .neq 3 (.tmp 20) (.const (.int .i64 3405691582)) 3, 4, none, true⟩]
def class_Read_r2_go := @goOps Try.prog _ _ class_Read_r2.eq_1
def class_Read_r3 : List Sop := [
  ⟨some (22, false), .move (.tmp 5), 100, none, true⟩,
  ⟨some (23, false), .nilCheck (.tmp 22), 0, none, true⟩,
  ⟨some (24, false), .fieldAddr 102 (.tmp 23) 0, 0, none, true⟩,
  ⟨some (25, false), .load 54 (.tmp 24), 54, none, true⟩,
  ⟨some (26, false), .call { callee := .value (.func 28), args := #[.tmp 25, .const (.int .i64 3), .const (.int .i64 0)], argTypes := #[54, 27, 3] }, 0, none, false⟩]
def class_Read_r3_go := @goOps Try.prog _ _ class_Read_r3.eq_1
def class_Read_r4 : List Sop := [
  ⟨some (27, false), .move (.tmp 5), 100, none, true⟩,
  ⟨some (28, false), .nilCheck (.tmp 27), 0, none, true⟩,
  ⟨some (29, false), .fieldAddr 102 (.tmp 28) 1, 0, none, true⟩,
  ⟨some (6, true), .assign (.tmp 29), 103, none, true⟩]
def class_Read_r4_go := @goOps Try.prog _ _ class_Read_r4.eq_1
def class_Read_r5 : List (Sop × List Sop) := [
  (⟨some (30, false), .move (.tmp 6), 103, none, true⟩, []),
  (⟨some (31, false), .move (.tmp 6), 103, none, true⟩, []),
  (⟨some (32, false), .move (.tmp 5), 100, none, true⟩, []),
  (⟨some (33, false), .nilCheck (.tmp 32), 0, none, true⟩, []),
  (⟨some (34, false), .fieldAddr 102 (.tmp 33) 0, 0, none, true⟩, []),
  (⟨some (35, false), .load 54 (.tmp 34), 54, none, true⟩, []),
  (⟨some (37, false), .move (.tmp 5), 100, none, true⟩, []),
  (⟨some (38, false), .nilCheck (.tmp 37), 0, none, true⟩, []),
  (⟨some (39, false), .fieldAddr 102 (.tmp 38) 0, 0, none, true⟩, []),
  (⟨some (40, false), .load 54 (.tmp 39), 54, none, true⟩, []),
  (⟨some (36, false), .call { callee := .value (.func 52), args := #[.tmp 35], argTypes := #[54] }, 38, none, false⟩, [⟨some (38, false), .nilCheck (.tmp 37), 0, none, true⟩, ⟨some (39, false), .fieldAddr 102 (.tmp 38) 0, 0, none, true⟩, ⟨some (40, false), .load 54 (.tmp 39), 54, none, true⟩]),
  (⟨some (41, false), .call { callee := .value (.func 52), args := #[.tmp 40], argTypes := #[54] }, 38, none, false⟩, []),
  (⟨some (42, false), .nilCheck (.tmp 30), 0, none, true⟩, []),
  (⟨some (43, false), .fieldAddr 43 (.tmp 42) 0, 0, none, true⟩, []),
  (⟨none, .store 38 (.tmp 43) (.tmp 36), 0, none, false⟩, []),
  (⟨some (44, false), .nilCheck (.tmp 31), 0, none, true⟩, []),
  (⟨some (45, false), .fieldAddr 43 (.tmp 44) 1, 0, none, true⟩, []),
  (⟨none, .store 38 (.tmp 45) (.tmp 41), 0, none, false⟩, [])]
def class_Read_r5_go := @goDraw Try.prog _ _ class_Read_r5.eq_1
def class_Read_r6 : List Sop := [
  ⟨some (46, false), .move (.tmp 6), 103, none, true⟩,
  ⟨some (47, false), .nilCheck (.tmp 46), 0, none, true⟩,
  ⟨some (48, false), .fieldAddr 43 (.tmp 47) 1, 0, none, true⟩,
  ⟨some (49, false), .load 38 (.tmp 48), 38, none, true⟩,
  ⟨some (50, false), .binOp .neq 38 (.tmp 49) (.const (.int .u16 50)) 38, 4, none, true⟩,
  ⟨some (51, false), .move (.tmp 50), 4, none, true⟩,
  ⟨some (52, false), .move (.tmp 6), 103, some (51, true), true⟩,
  ⟨some (53, false), .nilCheck (.tmp 52), 0, some (51, true), true⟩,
  ⟨some (54, false), .fieldAddr 43 (.tmp 53) 1, 0, some (51, true), true⟩,
  ⟨some (55, false), .load 38 (.tmp 54), 38, some (51, true), true⟩,
  ⟨some (56, false), .binOp .neq 38 (.tmp 55) (.const (.int .u16 51)) 38, 4, some (51, true), true⟩,
  ⟨some (57, false), .pick (.tmp 51) (.tmp 56) (.const (.bool false)), 4, none, true⟩,
  ⟨some (58, false), .move (.tmp 57), 4, none, true⟩,
  ⟨some (59, false), .move (.tmp 6), 103, some (58, false), true⟩,
  ⟨some (60, false), .nilCheck (.tmp 59), 0, some (58, false), true⟩,
  ⟨some (61, false), .fieldAddr 43 (.tmp 60) 0, 0, some (58, false), true⟩,
  ⟨some (62, false), .load 38 (.tmp 61), 38, some (58, false), true⟩,
  ⟨some (63, false), .binOp .neq 38 (.tmp 62) (.const (.int .u16 0)) 38, 4, some (58, false), true⟩,
  ⟨some (64, true), .pick (.tmp 58) (.const (.bool true)) (.tmp 63), 4, none, true⟩]
def class_Read_r6_go := @goOps Try.prog _ _ class_Read_r6.eq_1
def class_Read_r7 : List Sop := [
  ⟨some (65, false), .move (.tmp 5), 100, none, true⟩,
  ⟨some (66, false), .nilCheck (.tmp 65), 0, none, true⟩,
  ⟨some (67, false), .fieldAddr 102 (.tmp 66) 0, 0, none, true⟩,
  ⟨some (68, false), .load 54 (.tmp 67), 54, none, true⟩,
  ⟨some (69, false), .call { callee := .value (.func 28), args := #[.tmp 68, .const (.int .i64 4), .const (.int .i64 4)], argTypes := #[54, 27, 3] }, 0, none, false⟩]
def class_Read_r7_go := @goOps Try.prog _ _ class_Read_r7.eq_1
def class_Read_r8 : List Sop := [
  ⟨some (70, false), .move (.tmp 6), 103, none, true⟩,
  ⟨some (71, false), .move (.tmp 5), 100, none, true⟩,
  ⟨some (72, false), .nilCheck (.tmp 71), 0, none, true⟩,
  ⟨some (73, false), .fieldAddr 102 (.tmp 72) 0, 0, none, true⟩,
  ⟨some (74, false), .load 54 (.tmp 73), 54, none, true⟩,
  ⟨some (75, false), .call { callee := .value (.func 53), args := #[.tmp 74], argTypes := #[54] }, 22, none, false⟩,
  ⟨some (76, false), .nilCheck (.tmp 70), 0, none, true⟩,
  ⟨some (77, false), .fieldAddr 43 (.tmp 76) 5, 0, none, true⟩,
  ⟨none, .store 22 (.tmp 77) (.tmp 75), 0, none, false⟩]
def class_Read_r8_go := @goOps Try.prog _ _ class_Read_r8.eq_1
def class_Read_r9 : List (Sop × List Sop) := [
  (⟨some (78, false), .move (.tmp 6), 103, none, true⟩, []),
  (⟨some (79, false), .move (.tmp 6), 103, none, true⟩, []),
  (⟨some (80, false), .move (.tmp 6), 103, none, true⟩, []),
  (⟨some (81, false), .move (.tmp 5), 100, none, true⟩, []),
  (⟨some (82, false), .nilCheck (.tmp 81), 0, none, true⟩, []),
  (⟨some (83, false), .fieldAddr 102 (.tmp 82) 0, 0, none, true⟩, []),
  (⟨some (84, false), .load 54 (.tmp 83), 54, none, true⟩, []),
  (⟨some (86, false), .move (.tmp 5), 100, none, true⟩, []),
  (⟨some (87, false), .nilCheck (.tmp 86), 0, none, true⟩, []),
  (⟨some (88, false), .fieldAddr 102 (.tmp 87) 0, 0, none, true⟩, []),
  (⟨some (89, false), .load 54 (.tmp 88), 54, none, true⟩, []),
  (⟨some (91, false), .move (.tmp 5), 100, none, true⟩, []),
  (⟨some (92, false), .nilCheck (.tmp 91), 0, none, true⟩, []),
  (⟨some (93, false), .fieldAddr 102 (.tmp 92) 0, 0, none, true⟩, []),
  (⟨some (94, false), .load 54 (.tmp 93), 54, none, true⟩, []),
  (⟨some (85, false), .call { callee := .value (.func 52), args := #[.tmp 84], argTypes := #[54] }, 38, none, false⟩, [⟨some (87, false), .nilCheck (.tmp 86), 0, none, true⟩, ⟨some (88, false), .fieldAddr 102 (.tmp 87) 0, 0, none, true⟩, ⟨some (89, false), .load 54 (.tmp 88), 54, none, true⟩, ⟨some (92, false), .nilCheck (.tmp 91), 0, none, true⟩, ⟨some (93, false), .fieldAddr 102 (.tmp 92) 0, 0, none, true⟩, ⟨some (94, false), .load 54 (.tmp 93), 54, none, true⟩]),
  (⟨some (90, false), .call { callee := .value (.func 52), args := #[.tmp 89], argTypes := #[54] }, 38, none, false⟩, [⟨some (92, false), .nilCheck (.tmp 91), 0, none, true⟩, ⟨some (93, false), .fieldAddr 102 (.tmp 92) 0, 0, none, true⟩, ⟨some (94, false), .load 54 (.tmp 93), 54, none, true⟩]),
  (⟨some (95, false), .call { callee := .value (.func 52), args := #[.tmp 94], argTypes := #[54] }, 38, none, false⟩, []),
  (⟨some (96, false), .nilCheck (.tmp 78), 0, none, true⟩, []),
  (⟨some (97, false), .fieldAddr 43 (.tmp 96) 2, 0, none, true⟩, []),
  (⟨none, .store 38 (.tmp 97) (.tmp 85), 0, none, false⟩, []),
  (⟨some (98, false), .nilCheck (.tmp 79), 0, none, true⟩, []),
  (⟨some (99, false), .fieldAddr 43 (.tmp 98) 3, 0, none, true⟩, []),
  (⟨none, .store 38 (.tmp 99) (.tmp 90), 0, none, false⟩, []),
  (⟨some (100, false), .nilCheck (.tmp 80), 0, none, true⟩, []),
  (⟨some (101, false), .fieldAddr 43 (.tmp 100) 4, 0, none, true⟩, []),
  (⟨none, .store 38 (.tmp 101) (.tmp 95), 0, none, false⟩, [])]
def class_Read_r9_go := @goDraw Try.prog _ _ class_Read_r9.eq_1
def class_Read_r10 : List Sop := [
  ⟨some (102, false), .move (.tmp 5), 100, none, true⟩,
  ⟨some (103, false), .nilCheck (.tmp 102), 0, none, true⟩,
  ⟨some (104, false), .fieldAddr 102 (.tmp 103) 0, 0, none, true⟩,
  ⟨some (105, false), .load 54 (.tmp 104), 54, none, true⟩,
  ⟨some (106, false), .call { callee := .value (.func 23), args := #[.tmp 105, .const (.int .i64 2)], argTypes := #[54, 3] }, 3, none, false⟩,
  ⟨some (7, true), .assign (.tmp 106), 3, none, true⟩]
def class_Read_r10_go := @goOps Try.prog _ _ class_Read_r10.eq_1
def class_Read_r11 : List Sop := [
  ⟨some (107, false), .move (.tmp 7), 3, none, true⟩,
  ⟨some (108, false), .binOp .gtr 3 (.tmp 107) (.const (.int .i64 0)) 3, 4, none, true⟩,
  ⟨some (109, false), .move (.tmp 108), 4, none, true⟩,
  ⟨some (110, false), .move (.tmp 5), 100, some (109, true), true⟩,
  ⟨some (111, false), .nilCheck (.tmp 110), 0, some (109, true), true⟩,
  ⟨some (112, false), .fieldAddr 102 (.tmp 111) 0, 0, some (109, true), true⟩,
  ⟨some (113, false), .load 54 (.tmp 112), 54, some (109, true), true⟩,
  ⟨some (114, false), .call { callee := .value (.func 25), args := #[.tmp 113], argTypes := #[54] }, 4, some (109, true), false⟩,
  ⟨some (115, false), .unOp .not 4 (.tmp 114), 4, some (109, true), true⟩,
  ⟨some (116, true), .pick (.tmp 109) (.tmp 115) (.const (.bool false)), 4, none, true⟩]
def class_Read_r11_go := @goOps Try.prog _ _ class_Read_r11.eq_1
def class_Read_r12 : List (Sop × List Sop) := [
  (⟨some (119, false), .move (.tmp 6), 103, none, true⟩, []),
  (⟨some (120, false), .move (.tmp 6), 103, none, true⟩, []),
  (⟨some (121, false), .nilCheck (.tmp 120), 0, none, true⟩, []),
  (⟨some (122, false), .fieldAddr 43 (.tmp 121) 6, 0, none, true⟩, []),
  (⟨some (123, false), .load 39 (.tmp 122), 39, none, true⟩, []),
  (⟨some (124, false), .move (.tmp 5), 100, none, true⟩, []),
  (⟨some (125, false), .nilCheck (.tmp 124), 0, none, true⟩, []),
  (⟨some (126, false), .fieldAddr 102 (.tmp 125) 0, 0, none, true⟩, []),
  (⟨some (127, false), .load 54 (.tmp 126), 54, none, true⟩, []),
  (⟨some (128, false), .call { callee := .value (.func 52), args := #[.tmp 127], argTypes := #[54] }, 38, none, false⟩, [⟨some (121, false), .nilCheck (.tmp 120), 0, none, true⟩, ⟨some (122, false), .fieldAddr 43 (.tmp 121) 6, 0, none, true⟩, ⟨some (123, false), .load 39 (.tmp 122), 39, none, true⟩]),
  (⟨some (129, false), .buildSlice 39 1 #[(0, .tmp 128)], 39, none, false⟩, [⟨some (121, false), .nilCheck (.tmp 120), 0, none, true⟩, ⟨some (122, false), .fieldAddr 43 (.tmp 121) 6, 0, none, true⟩, ⟨some (123, false), .load 39 (.tmp 122), 39, none, true⟩]),
  (⟨some (130, false), .call { callee := .builtin .append, args := #[.tmp 123, .tmp 129], argTypes := #[39, 39] }, 39, none, false⟩, []),
  (⟨some (131, false), .nilCheck (.tmp 119), 0, none, true⟩, []),
  (⟨some (132, false), .fieldAddr 43 (.tmp 131) 6, 0, none, true⟩, []),
  (⟨none, .store 39 (.tmp 132) (.tmp 130), 0, none, false⟩, [])]
def class_Read_r12_go := @goDraw Try.prog _ _ class_Read_r12.eq_1
def class_Read_r13 : List Sop := [
  ⟨some (117, false), .move (.tmp 7), 3, none, true⟩,
  ⟨some (118, false), .binOp .sub 3 (.tmp 117) (.const (.int .i64 1)) 3, 3, none, true⟩,
  ⟨some (7, true), .assign (.tmp 118), 3, none, true⟩]
def class_Read_r13_go := @goOps Try.prog _ _ class_Read_r13.eq_1
def class_Read_r14 : List Sop := [
  ⟨some (133, false), .move (.tmp 5), 100, none, true⟩,
  ⟨some (134, false), .nilCheck (.tmp 133), 0, none, true⟩,
  ⟨some (135, false), .fieldAddr 102 (.tmp 134) 0, 0, none, true⟩,
  ⟨some (136, false), .load 54 (.tmp 135), 54, none, true⟩,
  ⟨some (137, false), .call { callee := .value (.func 23), args := #[.tmp 136, .const (.int .i64 2)], argTypes := #[54, 3] }, 3, none, false⟩,
  ⟨some (8, true), .assign (.tmp 137), 3, none, true⟩]
def class_Read_r14_go := @goOps Try.prog _ _ class_Read_r14.eq_1
def class_Read_r15 : List Sop := [
  ⟨some (138, false), .move (.tmp 8), 3, none, true⟩,
  ⟨some (139, false), .binOp .gtr 3 (.tmp 138) (.const (.int .i64 0)) 3, 4, none, true⟩,
  ⟨some (140, false), .move (.tmp 139), 4, none, true⟩,
  ⟨some (141, false), .move (.tmp 5), 100, some (140, true), true⟩,
  ⟨some (142, false), .nilCheck (.tmp 141), 0, some (140, true), true⟩,
  ⟨some (143, false), .fieldAddr 102 (.tmp 142) 0, 0, some (140, true), true⟩,
  ⟨some (144, false), .load 54 (.tmp 143), 54, some (140, true), true⟩,
  ⟨some (145, false), .call { callee := .value (.func 25), args := #[.tmp 144], argTypes := #[54] }, 4, some (140, true), false⟩,
  ⟨some (146, false), .unOp .not 4 (.tmp 145), 4, some (140, true), true⟩,
  ⟨some (147, true), .pick (.tmp 140) (.tmp 146) (.const (.bool false)), 4, none, true⟩]
def class_Read_r15_go := @goOps Try.prog _ _ class_Read_r15.eq_1
def class_Read_r16 : List (Sop × List Sop) := [
  (⟨some (150, false), .move (.tmp 6), 103, none, true⟩, []),
  (⟨some (151, false), .move (.tmp 6), 103, none, true⟩, []),
  (⟨some (152, false), .nilCheck (.tmp 151), 0, none, true⟩, []),
  (⟨some (153, false), .fieldAddr 43 (.tmp 152) 7, 0, none, true⟩, []),
  (⟨some (154, false), .load 40 (.tmp 153), 40, none, true⟩, []),
  (⟨some (155, false), .move (.tmp 5), 100, none, true⟩, []),
  (⟨some (156, false), .call { callee := .value (.func 54), args := #[.tmp 155], argTypes := #[100] }, 89, none, false⟩, [⟨some (152, false), .nilCheck (.tmp 151), 0, none, true⟩, ⟨some (153, false), .fieldAddr 43 (.tmp 152) 7, 0, none, true⟩, ⟨some (154, false), .load 40 (.tmp 153), 40, none, true⟩]),
  (⟨some (157, false), .buildSlice 40 1 #[(0, .tmp 156)], 40, none, false⟩, [⟨some (152, false), .nilCheck (.tmp 151), 0, none, true⟩, ⟨some (153, false), .fieldAddr 43 (.tmp 152) 7, 0, none, true⟩, ⟨some (154, false), .load 40 (.tmp 153), 40, none, true⟩]),
  (⟨some (158, false), .call { callee := .builtin .append, args := #[.tmp 154, .tmp 157], argTypes := #[40, 40] }, 40, none, false⟩, []),
  (⟨some (159, false), .nilCheck (.tmp 150), 0, none, true⟩, []),
  (⟨some (160, false), .fieldAddr 43 (.tmp 159) 7, 0, none, true⟩, []),
  (⟨none, .store 40 (.tmp 160) (.tmp 158), 0, none, false⟩, [])]
def class_Read_r16_go := @goDraw Try.prog _ _ class_Read_r16.eq_1
def class_Read_r17 : List Sop := [
  ⟨some (148, false), .move (.tmp 8), 3, none, true⟩,
  ⟨some (149, false), .binOp .sub 3 (.tmp 148) (.const (.int .i64 1)) 3, 3, none, true⟩,
  ⟨some (8, true), .assign (.tmp 149), 3, none, true⟩]
def class_Read_r17_go := @goOps Try.prog _ _ class_Read_r17.eq_1
def class_Read_r18 : List Sop := [
  ⟨some (161, false), .move (.tmp 5), 100, none, true⟩,
  ⟨some (162, false), .nilCheck (.tmp 161), 0, none, true⟩,
  ⟨some (163, false), .fieldAddr 102 (.tmp 162) 0, 0, none, true⟩,
  ⟨some (164, false), .load 54 (.tmp 163), 54, none, true⟩,
  ⟨some (165, false), .call { callee := .value (.func 23), args := #[.tmp 164, .const (.int .i64 2)], argTypes := #[54, 3] }, 3, none, false⟩,
  ⟨some (9, true), .assign (.tmp 165), 3, none, true⟩]
def class_Read_r18_go := @goOps Try.prog _ _ class_Read_r18.eq_1
def class_Read_r19 : List Sop := [
  ⟨some (166, false), .move (.tmp 9), 3, none, true⟩,
  ⟨some (167, false), .binOp .gtr 3 (.tmp 166) (.const (.int .i64 0)) 3, 4, none, true⟩,
  ⟨some (168, false), .move (.tmp 167), 4, none, true⟩,
  ⟨some (169, false), .move (.tmp 5), 100, some (168, true), true⟩,
  ⟨some (170, false), .nilCheck (.tmp 169), 0, some (168, true), true⟩,
  ⟨some (171, false), .fieldAddr 102 (.tmp 170) 0, 0, some (168, true), true⟩,
  ⟨some (172, false), .load 54 (.tmp 171), 54, some (168, true), true⟩,
  ⟨some (173, false), .call { callee := .value (.func 25), args := #[.tmp 172], argTypes := #[54] }, 4, some (168, true), false⟩,
  ⟨some (174, false), .unOp .not 4 (.tmp 173), 4, some (168, true), true⟩,
  ⟨some (175, true), .pick (.tmp 168) (.tmp 174) (.const (.bool false)), 4, none, true⟩]
def class_Read_r19_go := @goOps Try.prog _ _ class_Read_r19.eq_1
def class_Read_r20 : List (Sop × List Sop) := [
  (⟨some (178, false), .move (.tmp 6), 103, none, true⟩, []),
  (⟨some (179, false), .move (.tmp 6), 103, none, true⟩, []),
  (⟨some (180, false), .nilCheck (.tmp 179), 0, none, true⟩, []),
  (⟨some (181, false), .fieldAddr 43 (.tmp 180) 8, 0, none, true⟩, []),
  (⟨some (182, false), .load 41 (.tmp 181), 41, none, true⟩, []),
  (⟨some (183, false), .move (.tmp 5), 100, none, true⟩, []),
  (⟨some (184, false), .call { callee := .value (.func 55), args := #[.tmp 183], argTypes := #[100] }, 81, none, false⟩, [⟨some (180, false), .nilCheck (.tmp 179), 0, none, true⟩, ⟨some (181, false), .fieldAddr 43 (.tmp 180) 8, 0, none, true⟩, ⟨some (182, false), .load 41 (.tmp 181), 41, none, true⟩]),
  (⟨some (185, false), .buildSlice 41 1 #[(0, .tmp 184)], 41, none, false⟩, [⟨some (180, false), .nilCheck (.tmp 179), 0, none, true⟩, ⟨some (181, false), .fieldAddr 43 (.tmp 180) 8, 0, none, true⟩, ⟨some (182, false), .load 41 (.tmp 181), 41, none, true⟩]),
  (⟨some (186, false), .call { callee := .builtin .append, args := #[.tmp 182, .tmp 185], argTypes := #[41, 41] }, 41, none, false⟩, []),
  (⟨some (187, false), .nilCheck (.tmp 178), 0, none, true⟩, []),
  (⟨some (188, false), .fieldAddr 43 (.tmp 187) 8, 0, none, true⟩, []),
  (⟨none, .store 41 (.tmp 188) (.tmp 186), 0, none, false⟩, [])]
def class_Read_r20_go := @goDraw Try.prog _ _ class_Read_r20.eq_1
def class_Read_r21 : List Sop := [
  ⟨some (176, false), .move (.tmp 9), 3, none, true⟩,
  ⟨some (177, false), .binOp .sub 3 (.tmp 176) (.const (.int .i64 1)) 3, 3, none, true⟩,
  ⟨some (9, true), .assign (.tmp 177), 3, none, true⟩]
def class_Read_r21_go := @goOps Try.prog _ _ class_Read_r21.eq_1
def class_Read_r22 : List Sop := [
  ⟨some (189, false), .move (.tmp 5), 100, none, true⟩,
  ⟨some (190, false), .call { callee := .value (.func 56), args := #[.tmp 189, .func 57], argTypes := #[100, 109] }, 0, none, false⟩]
def class_Read_r22_go := @goOps Try.prog _ _ class_Read_r22.eq_1
def class_Read_r23 : List Sop := [
  ⟨some (191, false), .move (.tmp 5), 100, none, true⟩,
  ⟨some (192, false), .nilCheck (.tmp 191), 0, none, true⟩,
  ⟨some (193, false), .fieldAddr 102 (.tmp 192) 0, 0, none, true⟩,
  ⟨some (194, false), .load 54 (.tmp 193), 54, none, true⟩,
  ⟨some (195, false), .call { callee := .value (.func 27), args := #[.tmp 194], argTypes := #[54] }, 3, none, false⟩,
  ⟨some (196, true), .binOp .gtr 3 (.tmp 195) (.const (.int .i64 0)) 3, 4, none, true⟩]
def class_Read_r23_go := @goOps Try.prog _ _ class_Read_r23.eq_1
def class_Read_r24 : List (Sop × List Sop) := [
  (⟨some (197, false), .move (.tmp 5), 100, none, true⟩, []),
  (⟨some (198, false), .nilCheck (.tmp 197), 0, none, true⟩, []),
  (⟨some (199, false), .fieldAddr 102 (.tmp 198) 0, 0, none, true⟩, []),
  (⟨some (200, false), .load 54 (.tmp 199), 54, none, true⟩, []),
  (⟨some (201, false), .move (.tmp 5), 100, none, true⟩, []),
  (⟨some (202, false), .nilCheck (.tmp 201), 0, none, true⟩, []),
  (⟨some (203, false), .fieldAddr 102 (.tmp 202) 0, 0, none, true⟩, []),
  (⟨some (204, false), .load 54 (.tmp 203), 54, none, true⟩, []),
  (⟨some (205, false), .call { callee := .value (.func 29), args := #[.tmp 204], argTypes := #[54] }, 3, none, false⟩, [⟨some (198, false), .nilCheck (.tmp 197), 0, none, true⟩, ⟨some (199, false), .fieldAddr 102 (.tmp 198) 0, 0, none, true⟩, ⟨some (200, false), .load 54 (.tmp 199), 54, none, true⟩]),
  (⟨some (206, false), .call { callee := .value (.func 28), args := #[.tmp 200, .const (.int .i64 2), .tmp 205], argTypes := #[54, 27, 3] }, 0, none, false⟩, [])]
def class_Read_r24_go := @goDraw Try.prog _ _ class_Read_r24.eq_1
def class_Read_r25 : List Sop := [
  ⟨some (208, false), .move (.tmp 5), 100, none, true⟩,
  ⟨some (209, false), .nilCheck (.tmp 208), 0, none, true⟩,
  ⟨some (210, false), .fieldAddr 102 (.tmp 209) 0, 0, none, true⟩,
  ⟨some (211, false), .load 54 (.tmp 210), 54, none, true⟩,
  ⟨some (212, false), .call { callee := .value (.func 30), args := #[.tmp 211], argTypes := #[54] }, 62, none, false⟩,
  ⟨some (207, false), .move (.tmp 212), 62, none, true⟩,
  ⟨some (213, false), .extract (.tmp 207) 0, 27, none, true⟩,
  ⟨some (214, false), .extract (.tmp 207) 1, 3, none, true⟩,
  ⟨some (10, true), .assign (.tmp 213), 27, none, true⟩,
  ⟨some (11, true), .assign (.tmp 214), 3, none, true⟩]
def class_Read_r25_go := @goOps Try.prog _ _ class_Read_r25.eq_1
def class_Read_r26 : List Sop := [
  ⟨some (215, false), .move (.tmp 10), 27, none, true⟩,
  ⟨some (216, true), .binOp .neq 27 (.tmp 215) (.const (.int .i64 0)) 27, 4, none, true⟩]
def class_Read_r26_go := @goOps Try.prog _ _ class_Read_r26.eq_1
def class_Read_r27 : List Sop := [
  ⟨some (217, false), .build 43 #[], 43, none, true⟩,
  ⟨some (218, false), .move (.tmp 10), 27, none, true⟩,
  ⟨some (219, false), .move (.tmp 11), 3, none, true⟩,
  ⟨none, .store 43 (.tmp 2) (.tmp 217), 0, none, false⟩,
  ⟨some (3, true), .assign (.tmp 218), 27, none, true⟩,
  ⟨some (4, true), .assign (.tmp 219), 3, none, true⟩]
def class_Read_r27_go := @goOps Try.prog _ _ class_Read_r27.eq_1
def class_Read_r28 : List Sop := [
  ⟨some (220, false), .move (.tmp 6), 103, none, true⟩,
  ⟨some (221, false), .nilCheck (.tmp 220), 0, none, true⟩,
  ⟨some (222, false), .load 43 (.tmp 221), 43, none, true⟩,
  ⟨none, .store 43 (.tmp 2) (.tmp 222), 0, none, false⟩,
  ⟨some (3, true), .assign (.const (.int .i64 0)), 27, none, true⟩,
  ⟨some (4, true), .assign (.const (.int .i64 0)), 3, none, true⟩]
def class_Read_r28_go := @goOps Try.prog _ _ class_Read_r28.eq_1
def class_Read_l0 : Cd := .seq (.seq (.region class_Read_r11) (.cond (.tmp 116) (.skip) (.exit 0))) (.seq (.block 1 (.draw class_Read_r12)) (.region class_Read_r13))
def class_Read_l0_go := @goVc Try.prog _ _ class_Read_l0.eq_1
def class_Read_l1 : Cd := .seq (.seq (.region class_Read_r15) (.cond (.tmp 147) (.skip) (.exit 2))) (.seq (.block 3 (.draw class_Read_r16)) (.region class_Read_r17))
def class_Read_l1_go := @goVc Try.prog _ _ class_Read_l1.eq_1
def class_Read_l2 : Cd := .seq (.seq (.region class_Read_r19) (.cond (.tmp 175) (.skip) (.exit 4))) (.seq (.block 5 (.draw class_Read_r20)) (.region class_Read_r21))
def class_Read_l2_go := @goVc Try.prog _ _ class_Read_l2.eq_1
def class_Read_t0 : Cd := .seq (.seq (.region class_Read_r25) (.seq (.region class_Read_r26) (.cond (.tmp 216) (.seq (.region class_Read_r27) (.ret)) (.skip)))) (.seq (.region class_Read_r28) (.ret))
def class_Read_t0_go := @goVc Try.prog _ _ class_Read_t0.eq_1
def class_Read_t1 : Cd := .seq (.region class_Read_r22) (.seq (.seq (.region class_Read_r23) (.cond (.tmp 196) (.draw class_Read_r24) (.skip))) (class_Read_t0))
def class_Read_t1_go := @goVc Try.prog _ _ class_Read_t1.eq_1
def class_Read_t2 : Cd := .seq (.seq (.region class_Read_r18) (.block 4 (.loop class_Read_l2))) (class_Read_t1)
def class_Read_t2_go := @goVc Try.prog _ _ class_Read_t2.eq_1
def class_Read_t3 : Cd := .seq (.seq (.region class_Read_r14) (.block 2 (.loop class_Read_l1))) (class_Read_t2)
def class_Read_t3_go := @goVc Try.prog _ _ class_Read_t3.eq_1
def class_Read_t4 : Cd := .seq (.seq (.region class_Read_r10) (.block 0 (.loop class_Read_l0))) (class_Read_t3)
def class_Read_t4_go := @goVc Try.prog _ _ class_Read_t4.eq_1
def class_Read_t5 : Cd := .seq (.region class_Read_r8) (.seq (.draw class_Read_r9) (class_Read_t4))
def class_Read_t5_go := @goVc Try.prog _ _ class_Read_t5.eq_1
def class_Read_t6 : Cd := .seq (.region class_Read_r4) (.seq (.draw class_Read_r5) (.seq (.seq (.region class_Read_r6) (.cond (.tmp 64) (.region class_Read_r7) (.skip))) (class_Read_t5)))
def class_Read_t6_go := @goVc Try.prog _ _ class_Read_t6.eq_1
def class_Read : Cd := .seq (.region class_Read_r0) (.seq (.region class_Read_r1) (.seq (.seq (.region class_Read_r2) (.cond (.tmp 21) (.region class_Read_r3) (.skip))) (class_Read_t6)))
def class_Read_go := @goVc Try.prog _ _ class_Read.eq_1
theorem class_Read_calls {args : List Value} {h : Heap} {R : Value → Heap → Prop} (hl : args.length = 1) (hv : Cd.vc Try.prog class_Read (retQ Try.prog [(2, some 43), (3, none), (4, none)] R) (initEnv args [0, 2, 3, 4, 5, 6, 7, 8, 9, 10, 11, 21, 64, 116, 147, 175, 196, 216]) h) : HCalls Try.prog 19 args.toArray h R :=
  hcalls_of_vc (by kernel_rfl) Try.func19 (cd := class_Read) (L := [0, 2, 3, 4, 5, 6, 7, 8, 9, 10, 11, 21, 64, 116, 147, 175, 196, 216]) (by kernel_rfl) (by kernel_rfl) ⟨by rw [hl, Try.ntmps19]; decide, by rw [Try.ntmps19]; decide⟩ hv
def class_Read_gos := And.intro @class_Read_go (And.intro @class_Read_r0_go (And.intro @class_Read_r1_go (And.intro @class_Read_r2_go (And.intro @class_Read_r3_go (And.intro @class_Read_r4_go (And.intro @class_Read_r5_go (And.intro @class_Read_r6_go (And.intro @class_Read_r7_go (And.intro @class_Read_r8_go (And.intro @class_Read_r9_go (And.intro @class_Read_r10_go (And.intro @class_Read_r11_go (And.intro @class_Read_r12_go (And.intro @class_Read_r13_go (And.intro @class_Read_r14_go (And.intro @class_Read_r15_go (And.intro @class_Read_r16_go (And.intro @class_Read_r17_go (And.intro @class_Read_r18_go (And.intro @class_Read_r19_go (And.intro @class_Read_r20_go (And.intro @class_Read_r21_go (And.intro @class_Read_r22_go (And.intro @class_Read_r23_go (And.intro @class_Read_r24_go (And.intro @class_Read_r25_go (And.intro @class_Read_r26_go (And.intro @class_Read_r27_go (And.intro @class_Read_r28_go (And.intro @class_Read_l0_go (And.intro @class_Read_l1_go (@class_Read_l2_go))))))))))))))))))))))))))))))))

/-! jvmcore/class.Read.1: function 57: slots [6] -/
def class_Read_1_r0 : List Sop := [
  ⟨some (6, true), .assign (.const (.bool false)), 4, none, true⟩]
def class_Read_1_r0_go := @goOps Try.prog _ _ class_Read_1_r0.eq_1
def class_Read_1_r1 : List Sop := [
  ⟨some (6, true), .assign (.const (.bool false)), 4, none, true⟩]
def class_Read_1_r1_go := @goOps Try.prog _ _ class_Read_1_r1.eq_1
def class_Read_1 : Cd := .seq (.region class_Read_1_r0) (.seq (.region class_Read_1_r1) (.ret))
def class_Read_1_go := @goVc Try.prog _ _ class_Read_1.eq_1
theorem class_Read_1_calls {args : List Value} {h : Heap} {R : Value → Heap → Prop} (hl : args.length = 3) (hv : Cd.vc Try.prog class_Read_1 (retQ Try.prog [(6, none)] R) (initEnv args [6]) h) : HCalls Try.prog 57 args.toArray h R :=
  hcalls_of_vc (by kernel_rfl) Try.func57 (cd := class_Read_1) (L := [6]) (by kernel_rfl) (by kernel_rfl) ⟨by rw [hl, Try.ntmps57]; decide, by rw [Try.ntmps57]; decide⟩ hv
def class_Read_1_gos := And.intro @class_Read_1_go (And.intro @class_Read_1_r0_go (@class_Read_1_r1_go))

end Go.Proofs.Ytohkbpnblkkdgaa.C
