/- The stripped code of some functions of this seat's program, printed by a program; that it is that code is proved by the kernel. No condition. -/

import Derived.Test.YtohkbpnblkkdgaaProg

import Derived.Test.YtohkbpnblkkdgaaVcJ

set_option maxRecDepth 100000

set_option linter.defProp false

namespace Go.Proofs.Ytohkbpnblkkdgaa.C

open Go.Vc

/-! jvmcore/pool.Units: function 73: slots [0, 1, 2, 3, 4, 5, 6, 7, 8, 9, 10, 11, 12, 13, 14, 15, 20, 24, 38, 64, 71, 107] -/
def pool_Units_r0 : List Sop := [
  ⟨some (1, true), .box 9 (.tmp 0), 0, none, false⟩,
  ⟨some (2, true), .assign (.const (.slice none 0 0)), 39, none, true⟩,
  ⟨some (3, true), .assign (.const (.bool false)), 4, none, true⟩]
def pool_Units_r0_go := @goOps Try.prog _ _ pool_Units_r0.eq_1
def pool_Units_r1 : List Sop := [
  ⟨some (4, true), .assign (.const (.slice none 0 0)), 39, none, true⟩]
def pool_Units_r1_go := @goOps Try.prog _ _ pool_Units_r1.eq_1
def pool_Units_r2 : List Sop := [
  ⟨some (16, false), .makeFunc (.func 90) #[] #[.tmp 1], 145, none, true⟩,
  ⟨some (5, true), .assign (.tmp 16), 145, none, true⟩]
def pool_Units_r2_go := @goOps Try.prog _ _ pool_Units_r2.eq_1
def pool_Units_r3 : List Sop := [
  ⟨some (6, true), .assign (.const (.int .i64 0)), 3, none, true⟩]
def pool_Units_r3_go := @goOps Try.prog _ _ pool_Units_r3.eq_1
def pool_Units_r4 : List Sop := [
  ⟨some (17, false), .move (.tmp 6), 3, none, true⟩,
  ⟨some (18, false), .load 9 (.tmp 1), 9, none, true⟩,
  ⟨some (19, false), .call { callee := .builtin .len, args := #[.tmp 18], argTypes := #[9] }, 3, none, true⟩,
  ⟨some (20, true), .binOp .lss 3 (.tmp 17) (.tmp 19) 3, 4, none, true⟩]
def pool_Units_r4_go := @goOps Try.prog _ _ pool_Units_r4.eq_1
def pool_Units_r5 : List Sop := [
  ⟨some (21, false), .load 9 (.tmp 1), 9, none, true⟩,
  ⟨some (22, false), .move (.tmp 6), 3, none, true⟩,
  ⟨some (23, false), .index 9 (.tmp 21) (.tmp 22), 5, none, true⟩,
  ⟨some (7, true), .assign (.tmp 23), 5, none, true⟩]
def pool_Units_r5_go := @goOps Try.prog _ _ pool_Units_r5.eq_1
def pool_Units_r6 : List Sop := [
  ⟨some (25, false), .move (.tmp 7), 5, none, true⟩,
  ⟨some (26, false), .binOp .gtr 5 (.tmp 25) (.const (.int .u8 0)) 5, 4, none, true⟩,
  ⟨some (27, false), .move (.tmp 26), 4, none, true⟩,
  ⟨some (28, false), .move (.tmp 7), 5, some (27, true), true⟩,
  ⟨some (29, false), .binOp .lss 5 (.tmp 28) (.const (.int .u8 128)) 5, 4, some (27, true), true⟩,
  ⟨some (30, false), .pick (.tmp 27) (.tmp 29) (.const (.bool false)), 4, none, true⟩,
  ⟨some (24, true), .assign (.tmp 30), 4, none, true⟩]
def pool_Units_r6_go := @goOps Try.prog _ _ pool_Units_r6.eq_1
def pool_Units_r7 : List Sop := [
  ⟨some (31, false), .move (.tmp 4), 39, none, true⟩,
  ⟨some (32, false), .move (.tmp 7), 5, none, true⟩,
  ⟨some (33, false), .convert 5 38 (.tmp 32), 38, none, true⟩,
  ⟨some (34, false), .buildSlice 39 1 #[(0, .tmp 33)], 39, none, false⟩,
  ⟨some (35, false), .call { callee := .builtin .append, args := #[.tmp 31, .tmp 34], argTypes := #[39, 39] }, 39, none, false⟩,
  ⟨some (4, true), .assign (.tmp 35), 39, none, true⟩]
def pool_Units_r7_go := @goOps Try.prog _ _ pool_Units_r7.eq_1
def pool_Units_r8 : List Sop := [
  ⟨some (36, false), .move (.tmp 6), 3, none, true⟩,
  ⟨some (37, false), .binOp .add 3 (.tmp 36) (.const (.int .i64 1)) 3, 3, none, true⟩,
  ⟨some (6, true), .assign (.tmp 37), 3, none, true⟩]
def pool_Units_r8_go := @goOps Try.prog _ _ pool_Units_r8.eq_1
def pool_Units_r9 : List Sop := [
  ⟨some (39, false), .move (.tmp 7), 5, none, true⟩,
  ⟨some (40, false), .binOp .and 5 (.tmp 39) (.const (.int .u8 224)) 5, 5, none, true⟩,
  ⟨some (41, false), .binOp .eql 5 (.tmp 40) (.const (.int .u8 192)) 5, 4, none, true⟩,
  ⟨some (38, true), .assign (.tmp 41), 4, none, true⟩]
def pool_Units_r9_go := @goOps Try.prog _ _ pool_Units_r9.eq_1
def pool_Units_r10 : List Sop := [
  ⟨some (43, false), .move (.tmp 5), 145, none, true⟩,
  ⟨some (44, false), .move (.tmp 6), 3, none, true⟩,
  ⟨some (45, false), .binOp .add 3 (.tmp 44) (.const (.int .i64 1)) 3, 3, none, true⟩,
  ⟨some (46, false), .call { callee := .value (.tmp 43), args := #[.tmp 45], argTypes := #[3] }, 146, none, false⟩,
  ⟨some (42, false), .move (.tmp 46), 146, none, true⟩,
  ⟨some (47, false), .extract (.tmp 42) 0, 38, none, true⟩,
  ⟨some (48, false), .extract (.tmp 42) 1, 4, none, true⟩,
  ⟨some (8, true), .assign (.tmp 47), 38, none, true⟩,
  ⟨some (9, true), .assign (.tmp 48), 4, none, true⟩]
def pool_Units_r10_go := @goOps Try.prog _ _ pool_Units_r10.eq_1
def pool_Units_r11 : List Sop := [
  ⟨some (49, false), .move (.tmp 7), 5, none, true⟩,
  ⟨some (50, false), .binOp .and 5 (.tmp 49) (.const (.int .u8 31)) 5, 5, none, true⟩,
  ⟨some (51, false), .convert 5 38 (.tmp 50), 38, none, true⟩,
  ⟨some (52, false), .binOp .shl 38 (.tmp 51) (.const (.int .u64 6)) 121, 38, none, true⟩,
  ⟨some (53, false), .move (.tmp 8), 38, none, true⟩,
  ⟨some (54, false), .binOp .or 38 (.tmp 52) (.tmp 53) 38, 38, none, true⟩,
  ⟨some (10, true), .assign (.tmp 54), 38, none, true⟩]
def pool_Units_r11_go := @goOps Try.prog _ _ pool_Units_r11.eq_1
def pool_Units_r12 : List Sop := [
  ⟨some (55, false), .move (.tmp 9), 4, none, true⟩,
  ⟨some (56, false), .unOp .not 4 (.tmp 55), 4, none, true⟩,
  ⟨some (57, false), .move (.tmp 56), 4, none, true⟩,
  ⟨some (58, false), .move (.tmp 10), 38, some (57, false), true⟩,
  ⟨some (59, false), .binOp .lss 38 (.tmp 58) (.const (.int .u16 128)) 38, 4, some (57, false), true⟩,
  ⟨some (60, false), .move (.tmp 59), 4, some (57, false), true⟩,
  ⟨some (61, false), .move (.tmp 10), 38, some (60, true), true⟩,
  ⟨some (62, false), .binOp .neq 38 (.tmp 61) (.const (.int .u16 0)) 38, 4, some (60, true), true⟩,
  ⟨some (63, false), .pick (.tmp 60) (.tmp 62) (.const (.bool false)), 4, some (57, false), true⟩,
  ⟨some (64, true), .pick (.tmp 57) (.const (.bool true)) (.tmp 63), 4, none, true⟩]
def pool_Units_r12_go := @goOps Try.prog _ _ pool_Units_r12.eq_1
def pool_Units_r13 : List Sop := [
  ⟨some (2, true), .assign (.const (.slice none 0 0)), 39, none, true⟩,
  ⟨some (3, true), .assign (.const (.bool false)), 4, none, true⟩]
def pool_Units_r13_go := @goOps Try.prog _ _ pool_Units_r13.eq_1
def pool_Units_r14 : List Sop := [
  ⟨some (65, false), .move (.tmp 4), 39, none, true⟩,
  ⟨some (66, false), .move (.tmp 10), 38, none, true⟩,
  ⟨some (67, false), .buildSlice 39 1 #[(0, .tmp 66)], 39, none, false⟩,
  ⟨some (68, false), .call { callee := .builtin .append, args := #[.tmp 65, .tmp 67], argTypes := #[39, 39] }, 39, none, false⟩,
  ⟨some (4, true), .assign (.tmp 68), 39, none, true⟩]
def pool_Units_r14_go := @goOps Try.prog _ _ pool_Units_r14.eq_1
def pool_Units_r15 : List Sop := [
  ⟨some (69, false), .move (.tmp 6), 3, none, true⟩,
  ⟨some (70, false), .binOp .add 3 (.tmp 69) (.const (.int .i64 2)) 3, 3, none, true⟩,
  ⟨some (6, true), .assign (.tmp 70), 3, none, true⟩]
def pool_Units_r15_go := @goOps Try.prog _ _ pool_Units_r15.eq_1
def pool_Units_r16 : List Sop := [
  ⟨some (72, false), .move (.tmp 7), 5, none, true⟩,
  ⟨some (73, false), .binOp .and 5 (.tmp 72) (.const (.int .u8 240)) 5, 5, none, true⟩,
  ⟨some (74, false), .binOp .eql 5 (.tmp 73) (.const (.int .u8 224)) 5, 4, none, true⟩,
  ⟨some (71, true), .assign (.tmp 74), 4, none, true⟩]
def pool_Units_r16_go := @goOps Try.prog _ _ pool_Units_r16.eq_1
def pool_Units_r17 : List Sop := [
  ⟨some (76, false), .move (.tmp 5), 145, none, true⟩,
  ⟨some (77, false), .move (.tmp 6), 3, none, true⟩,
  ⟨some (78, false), .binOp .add 3 (.tmp 77) (.const (.int .i64 1)) 3, 3, none, true⟩,
  ⟨some (79, false), .call { callee := .value (.tmp 76), args := #[.tmp 78], argTypes := #[3] }, 146, none, false⟩,
  ⟨some (75, false), .move (.tmp 79), 146, none, true⟩,
  ⟨some (80, false), .extract (.tmp 75) 0, 38, none, true⟩,
  ⟨some (81, false), .extract (.tmp 75) 1, 4, none, true⟩,
  ⟨some (11, true), .assign (.tmp 80), 38, none, true⟩,
  ⟨some (12, true), .assign (.tmp 81), 4, none, true⟩]
def pool_Units_r17_go := @goOps Try.prog _ _ pool_Units_r17.eq_1
def pool_Units_r18 : List Sop := [
  ⟨some (83, false), .move (.tmp 5), 145, none, true⟩,
  ⟨some (84, false), .move (.tmp 6), 3, none, true⟩,
  ⟨some (85, false), .binOp .add 3 (.tmp 84) (.const (.int .i64 2)) 3, 3, none, true⟩,
  ⟨some (86, false), .call { callee := .value (.tmp 83), args := #[.tmp 85], argTypes := #[3] }, 146, none, false⟩,
  ⟨some (82, false), .move (.tmp 86), 146, none, true⟩,
  ⟨some (87, false), .extract (.tmp 82) 0, 38, none, true⟩,
  ⟨some (88, false), .extract (.tmp 82) 1, 4, none, true⟩,
  ⟨some (13, true), .assign (.tmp 87), 38, none, true⟩,
  ⟨some (14, true), .assign (.tmp 88), 4, none, true⟩]
def pool_Units_r18_go := @goOps Try.prog _ _ pool_Units_r18.eq_1
def pool_Units_r19 : List Sop := [
  ⟨some (89, false), .move (.tmp 7), 5, none, true⟩,
  ⟨some (90, false), .binOp .and 5 (.tmp 89) (.const (.int .u8 15)) 5, 5, none, true⟩,
  ⟨some (91, false), .convert 5 38 (.tmp 90), 38, none, true⟩,
  ⟨some (92, false), .binOp .shl 38 (.tmp 91) (.const (.int .u64 12)) 121, 38, none, true⟩,
  ⟨some (93, false), .move (.tmp 11), 38, none, true⟩,
  ⟨some (94, false), .binOp .shl 38 (.tmp 93) (.const (.int .u64 6)) 121, 38, none, true⟩,
  ⟨some (95, false), .binOp .or 38 (.tmp 92) (.tmp 94) 38, 38, none, true⟩,
  ⟨some (96, false), .move (.tmp 13), 38, none, true⟩,
  ⟨some (97, false), .binOp .or 38 (.tmp 95) (.tmp 96) 38, 38, none, true⟩,
  ⟨some (15, true), .assign (.tmp 97), 38, none, true⟩]
def pool_Units_r19_go := @goOps Try.prog _ _ pool_Units_r19.eq_1
def pool_Units_r20 : List Sop := [
  ⟨some (98, false), .move (.tmp 12), 4, none, true⟩,
  ⟨some (99, false), .unOp .not 4 (.tmp 98), 4, none, true⟩,
  ⟨some (100, false), .move (.tmp 99), 4, none, true⟩,
  ⟨some (101, false), .move (.tmp 14), 4, some (100, false), true⟩,
  ⟨some (102, false), .unOp .not 4 (.tmp 101), 4, some (100, false), true⟩,
  ⟨some (103, false), .pick (.tmp 100) (.const (.bool true)) (.tmp 102), 4, none, true⟩,
  ⟨some (104, false), .move (.tmp 103), 4, none, true⟩,
  ⟨some (105, false), .move (.tmp 15), 38, some (104, false), true⟩,
  ⟨some (106, false), .binOp .lss 38 (.tmp 105) (.const (.int .u16 2048)) 38, 4, some (104, false), true⟩,
  ⟨some (107, true), .pick (.tmp 104) (.const (.bool true)) (.tmp 106), 4, none, true⟩]
def pool_Units_r20_go := @goOps Try.prog _ _ pool_Units_r20.eq_1
def pool_Units_r21 : List Sop := [
  ⟨some (2, true), .assign (.const (.slice none 0 0)), 39, none, true⟩,
  ⟨some (3, true), .assign (.const (.bool false)), 4, none, true⟩]
def pool_Units_r21_go := @goOps Try.prog _ _ pool_Units_r21.eq_1
def pool_Units_r22 : List Sop := [
  ⟨some (108, false), .move (.tmp 4), 39, none, true⟩,
  ⟨some (109, false), .move (.tmp 15), 38, none, true⟩,
  ⟨some (110, false), .buildSlice 39 1 #[(0, .tmp 109)], 39, none, false⟩,
  ⟨some (111, false), .call { callee := .builtin .append, args := #[.tmp 108, .tmp 110], argTypes := #[39, 39] }, 39, none, false⟩,
  ⟨some (4, true), .assign (.tmp 111), 39, none, true⟩]
def pool_Units_r22_go := @goOps Try.prog _ _ pool_Units_r22.eq_1
def pool_Units_r23 : List Sop := [
  ⟨some (112, false), .move (.tmp 6), 3, none, true⟩,
  ⟨some (113, false), .binOp .add 3 (.tmp 112) (.const (.int .i64 3)) 3, 3, none, true⟩,
  ⟨some (6, true), .assign (.tmp 113), 3, none, true⟩]
def pool_Units_r23_go := @goOps Try.prog _ _ pool_Units_r23.eq_1
def pool_Units_r24 : List Sop := [
  ⟨some (2, true), .assign (.const (.slice none 0 0)), 39, none, true⟩,
  ⟨some (3, true), .assign (.const (.bool false)), 4, none, true⟩]
def pool_Units_r24_go := @goOps Try.prog _ _ pool_Units_r24.eq_1
def pool_Units_r25 : List Sop := [
  ⟨some (114, false), .move (.tmp 4), 39, none, true⟩,
  ⟨some (2, true), .assign (.tmp 114), 39, none, true⟩,
  ⟨some (3, true), .assign (.const (.bool true)), 4, none, true⟩]
def pool_Units_r25_go := @goOps Try.prog _ _ pool_Units_r25.eq_1
def pool_Units_l0 : Cd := .seq (.seq (.region pool_Units_r4) (.cond (.tmp 20) (.skip) (.exit 0))) (.block 1 (.seq (.region pool_Units_r5) (.block 2 (.seq (.region pool_Units_r6) (.cond (.tmp 24) (.seq (.region pool_Units_r7) (.region pool_Units_r8)) (.seq (.region pool_Units_r9) (.cond (.tmp 38) (.seq (.region pool_Units_r10) (.seq (.region pool_Units_r11) (.seq (.seq (.region pool_Units_r12) (.cond (.tmp 64) (.seq (.region pool_Units_r13) (.ret)) (.skip))) (.seq (.region pool_Units_r14) (.region pool_Units_r15))))) (.seq (.region pool_Units_r16) (.cond (.tmp 71) (.seq (.region pool_Units_r17) (.seq (.region pool_Units_r18) (.seq (.region pool_Units_r19) (.seq (.seq (.region pool_Units_r20) (.cond (.tmp 107) (.seq (.region pool_Units_r21) (.ret)) (.skip))) (.seq (.region pool_Units_r22) (.region pool_Units_r23)))))) (.seq (.region pool_Units_r24) (.ret)))))))))))
def pool_Units_l0_go := @goVc Try.prog _ _ pool_Units_l0.eq_1
def pool_Units : Cd := .seq (.region pool_Units_r0) (.seq (.region pool_Units_r1) (.seq (.region pool_Units_r2) (.seq (.seq (.region pool_Units_r3) (.block 0 (.loop pool_Units_l0))) (.seq (.region pool_Units_r25) (.ret)))))
def pool_Units_go := @goVc Try.prog _ _ pool_Units.eq_1
theorem pool_Units_calls {args : List Value} {h : Heap} {R : Value → Heap → Prop} (hl : args.length = 1) (hv : Cd.vc Try.prog pool_Units (retQ Try.prog [(2, none), (3, none)] R) (initEnv args [0, 1, 2, 3, 4, 5, 6, 7, 8, 9, 10, 11, 12, 13, 14, 15, 20, 24, 38, 64, 71, 107]) h) : HCalls Try.prog 73 args.toArray h R :=
  hcalls_of_vc (by kernel_rfl) Try.func73 (cd := pool_Units) (L := [0, 1, 2, 3, 4, 5, 6, 7, 8, 9, 10, 11, 12, 13, 14, 15, 20, 24, 38, 64, 71, 107]) (by kernel_rfl) (by kernel_rfl) ⟨by rw [hl, Try.ntmps73]; decide, by rw [Try.ntmps73]; decide⟩ hv
def pool_Units_gos := And.intro @pool_Units_go (And.intro @pool_Units_r0_go (And.intro @pool_Units_r1_go (And.intro @pool_Units_r2_go (And.intro @pool_Units_r3_go (And.intro @pool_Units_r4_go (And.intro @pool_Units_r5_go (And.intro @pool_Units_r6_go (And.intro @pool_Units_r7_go (And.intro @pool_Units_r8_go (And.intro @pool_Units_r9_go (And.intro @pool_Units_r10_go (And.intro @pool_Units_r11_go (And.intro @pool_Units_r12_go (And.intro @pool_Units_r13_go (And.intro @pool_Units_r14_go (And.intro @pool_Units_r15_go (And.intro @pool_Units_r16_go (And.intro @pool_Units_r17_go (And.intro @pool_Units_r18_go (And.intro @pool_Units_r19_go (And.intro @pool_Units_r20_go (And.intro @pool_Units_r21_go (And.intro @pool_Units_r22_go (And.intro @pool_Units_r23_go (And.intro @pool_Units_r24_go (And.intro @pool_Units_r25_go (@pool_Units_l0_go)))))))))))))))))))))))))))

/-! jvmcore/pool.Units.1: function 90: slots [0, 1, 3, 4, 15] -/
def pool_Units_1_r0 : List Sop := [
  ⟨some (3, true), .assign (.const (.int .u16 0)), 38, none, true⟩,
  ⟨some (4, true), .assign (.const (.bool false)), 4, none, true⟩]
def pool_Units_1_r0_go := @goOps Try.prog _ _ pool_Units_1_r0.eq_1
def pool_Units_1_r1 : List Sop := [
  ⟨some (5, false), .move (.tmp 0), 3, none, true⟩,
  ⟨some (6, false), .load 9 (.tmp 1), 9, none, true⟩,
  ⟨some (7, false), .call { callee := .builtin .len, args := #[.tmp 6], argTypes := #[9] }, 3, none, true⟩,
  ⟨some (8, false), .binOp .geq 3 (.tmp 5) (.tmp 7) 3, 4, none, true⟩,
  ⟨some (9, false), .move (.tmp 8), 4, none, true⟩,
  ⟨some (10, false), .load 9 (.tmp 1), 9, some (9, false), true⟩,
  ⟨some (11, false), .move (.tmp 0), 3, some (9, false), true⟩,
  ⟨some (12, false), .index 9 (.tmp 10) (.tmp 11), 5, some (9, false), true⟩,
  ⟨some (13, false), .binOp .and 5 (.tmp 12) (.const (.int .u8 192)) 5, 5, some (9, false), true⟩,
  ⟨some (14, false), .binOp .neq 5 (.tmp 13) (.const (.int .u8 128)) 5, 4, some (9, false), true⟩,
  ⟨some (15, true), .pick (.tmp 9) (.const (.bool true)) (.tmp 14), 4, none, true⟩]
def pool_Units_1_r1_go := @goOps Try.prog _ _ pool_Units_1_r1.eq_1
def pool_Units_1_r2 : List Sop := [
  ⟨some (3, true), .assign (.const (.int .u16 0)), 38, none, true⟩,
  ⟨some (4, true), .assign (.const (.bool false)), 4, none, true⟩]
def pool_Units_1_r2_go := @goOps Try.prog _ _ pool_Units_1_r2.eq_1
def pool_Units_1_r3 : List Sop := [
  ⟨some (16, false), .load 9 (.tmp 1), 9, none, true⟩,
  ⟨some (17, false), .move (.tmp 0), 3, none, true⟩,
  ⟨some (18, false), .index 9 (.tmp 16) (.tmp 17), 5, none, true⟩,
  ⟨some (19, false), .binOp .and 5 (.tmp 18) (.const (.int .u8 63)) 5, 5, none, true⟩,
  ⟨some (20, false), .convert 5 38 (.tmp 19), 38, none, true⟩,
  ⟨some (3, true), .assign (.tmp 20), 38, none, true⟩,
  ⟨some (4, true), .assign (.const (.bool true)), 4, none, true⟩]
def pool_Units_1_r3_go := @goOps Try.prog _ _ pool_Units_1_r3.eq_1
def pool_Units_1 : Cd := .seq (.region pool_Units_1_r0) (.seq (.seq (.region pool_Units_1_r1) (.cond (.tmp 15) (.seq (.region pool_Units_1_r2) (.ret)) (.skip))) (.seq (.region pool_Units_1_r3) (.ret)))
def pool_Units_1_go := @goVc Try.prog _ _ pool_Units_1.eq_1
theorem pool_Units_1_calls {args : List Value} {h : Heap} {R : Value → Heap → Prop} (hl : args.length = 2) (hv : Cd.vc Try.prog pool_Units_1 (retQ Try.prog [(3, none), (4, none)] R) (initEnv args [0, 1, 3, 4, 15]) h) : HCalls Try.prog 90 args.toArray h R :=
  hcalls_of_vc (by kernel_rfl) Try.func90 (cd := pool_Units_1) (L := [0, 1, 3, 4, 15]) (by kernel_rfl) (by kernel_rfl) ⟨by rw [hl, Try.ntmps90]; decide, by rw [Try.ntmps90]; decide⟩ hv
def pool_Units_1_gos := And.intro @pool_Units_1_go (And.intro @pool_Units_1_r0_go (And.intro @pool_Units_1_r1_go (And.intro @pool_Units_1_r2_go (@pool_Units_1_r3_go))))

/-! jvmcore/jvmcoreref1.unit: function 91: slots [0, 2, 8, 14] -/
def ref1_unit_r0 : List Sop := [
  ⟨some (2, true), .assign (.const (.string { data := #[] })), 9, none, true⟩]
def ref1_unit_r0_go := @goOps Try.prog _ _ ref1_unit_r0.eq_1
def ref1_unit_r1 : List Sop := [
  ⟨some (3, false), .move (.tmp 0), 3, none, true⟩,
  ⟨some (4, false), .binOp .gtr 3 (.tmp 3) (.const (.int .i64 0)) 3, 4, none, true⟩,
  ⟨some (5, false), .move (.tmp 4), 4, none, true⟩,
  ⟨some (6, false), .move (.tmp 0), 3, some (5, true), true⟩,
  ⟨some (7, false), .binOp .lss 3 (.tmp 6) (.const (.int .i64 128)) 3, 4, some (5, true), true⟩,
  ⟨some (8, true), .pick (.tmp 5) (.tmp 7) (.const (.bool false)), 4, none, true⟩]
def ref1_unit_r1_go := @goOps Try.prog _ _ ref1_unit_r1.eq_1
def ref1_unit_r2 : List Sop := [
  ⟨some (9, false), .move (.tmp 0), 3, none, true⟩,
  ⟨some (10, false), .convert 3 5 (.tmp 9), 5, none, true⟩,
  ⟨some (11, false), .buildSlice 69 1 #[(0, .tmp 10)], 69, none, false⟩,
  ⟨some (12, false), .convert 69 9 (.tmp 11), 9, none, true⟩,
  ⟨some (2, true), .assign (.tmp 12), 9, none, true⟩]
def ref1_unit_r2_go := @goOps Try.prog _ _ ref1_unit_r2.eq_1
def ref1_unit_r3 : List Sop := [
  ⟨some (13, false), .move (.tmp 0), 3, none, true⟩,
  ⟨some (14, true), .binOp .lss 3 (.tmp 13) (.const (.int .i64 2048)) 3, 4, none, true⟩]
def ref1_unit_r3_go := @goOps Try.prog _ _ ref1_unit_r3.eq_1
def ref1_unit_r4 : List Sop := [
  ⟨some (15, false), .move (.tmp 0), 3, none, true⟩,
  ⟨some (16, false), .binOp .quo 3 (.tmp 15) (.const (.int .i64 64)) 3, 3, none, true⟩,
  ⟨some (17, false), .binOp .add 3 (.const (.int .i64 192)) (.tmp 16) 3, 3, none, true⟩,
  ⟨some (18, false), .convert 3 5 (.tmp 17), 5, none, true⟩,
  ⟨some (19, false), .move (.tmp 0), 3, none, true⟩,
  ⟨some (20, false), .binOp .rem 3 (.tmp 19) (.const (.int .i64 64)) 3, 3, none, true⟩,
  ⟨some (21, false), .binOp .add 3 (.const (.int .i64 128)) (.tmp 20) 3, 3, none, true⟩,
  ⟨some (22, false), .convert 3 5 (.tmp 21), 5, none, true⟩,
  ⟨some (23, false), .buildSlice 69 2 #[(0, .tmp 18), (1, .tmp 22)], 69, none, false⟩,
  ⟨some (24, false), .convert 69 9 (.tmp 23), 9, none, true⟩,
  ⟨some (2, true), .assign (.tmp 24), 9, none, true⟩]
def ref1_unit_r4_go := @goOps Try.prog _ _ ref1_unit_r4.eq_1
def ref1_unit_r5 : List Sop := [
  ⟨some (25, false), .move (.tmp 0), 3, none, true⟩,
  ⟨some (26, false), .binOp .quo 3 (.tmp 25) (.const (.int .i64 4096)) 3, 3, none, true⟩,
  ⟨some (27, false), .binOp .add 3 (.const (.int .i64 224)) (.tmp 26) 3, 3, none, true⟩,
  ⟨some (28, false), .convert 3 5 (.tmp 27), 5, none, true⟩,
  ⟨some (29, false), .move (.tmp 0), 3, none, true⟩,
  ⟨some (30, false), .binOp .quo 3 (.tmp 29) (.const (.int .i64 64)) 3, 3, none, true⟩,
  ⟨some (31, false), .binOp .rem 3 (.tmp 30) (.const (.int .i64 64)) 3, 3, none, true⟩,
  ⟨some (32, false), .binOp .add 3 (.const (.int .i64 128)) (.tmp 31) 3, 3, none, true⟩,
  ⟨some (33, false), .convert 3 5 (.tmp 32), 5, none, true⟩,
  ⟨some (34, false), .move (.tmp 0), 3, none, true⟩,
  ⟨some (35, false), .binOp .rem 3 (.tmp 34) (.const (.int .i64 64)) 3, 3, none, true⟩,
  ⟨some (36, false), .binOp .add 3 (.const (.int .i64 128)) (.tmp 35) 3, 3, none, true⟩,
  ⟨some (37, false), .convert 3 5 (.tmp 36), 5, none, true⟩,
  ⟨some (38, false), .buildSlice 69 3 #[(0, .tmp 28), (1, .tmp 33), (2, .tmp 37)], 69, none, false⟩,
  ⟨some (39, false), .convert 69 9 (.tmp 38), 9, none, true⟩,
  ⟨some (2, true), .assign (.tmp 39), 9, none, true⟩]
def ref1_unit_r5_go := @goOps Try.prog _ _ ref1_unit_r5.eq_1
def ref1_unit : Cd := .seq (.region ref1_unit_r0) (.seq (.seq (.region ref1_unit_r1) (.cond (.tmp 8) (.seq (.region ref1_unit_r2) (.ret)) (.skip))) (.seq (.seq (.region ref1_unit_r3) (.cond (.tmp 14) (.seq (.region ref1_unit_r4) (.ret)) (.skip))) (.seq (.region ref1_unit_r5) (.ret))))
def ref1_unit_go := @goVc Try.prog _ _ ref1_unit.eq_1
theorem ref1_unit_calls {args : List Value} {h : Heap} {R : Value → Heap → Prop} (hl : args.length = 1) (hv : Cd.vc Try.prog ref1_unit (retQ Try.prog [(2, none)] R) (initEnv args [0, 2, 8, 14]) h) : HCalls Try.prog 91 args.toArray h R :=
  hcalls_of_vc (by kernel_rfl) Try.func91 (cd := ref1_unit) (L := [0, 2, 8, 14]) (by kernel_rfl) (by kernel_rfl) ⟨by rw [hl, Try.ntmps91]; decide, by rw [Try.ntmps91]; decide⟩ hv
def ref1_unit_gos := And.intro @ref1_unit_go (And.intro @ref1_unit_r0_go (And.intro @ref1_unit_r1_go (And.intro @ref1_unit_r2_go (And.intro @ref1_unit_r3_go (And.intro @ref1_unit_r4_go (@ref1_unit_r5_go))))))

/-! jvmcore/jvmcoreref1.Units: function 77: slots [0, 2, 3, 4, 5, 6, 7, 9, 19, 40, 55] -/
def ref1_Units_r0 : List Sop := [
  ⟨some (2, true), .assign (.const (.slice none 0 0)), 134, none, true⟩,
  ⟨some (3, true), .assign (.const (.bool false)), 4, none, true⟩]
def ref1_Units_r0_go := @goOps Try.prog _ _ ref1_Units_r0.eq_1
def ref1_Units_r1 : List Sop := [
  ⟨some (4, true), .assign (.const (.slice none 0 0)), 134, none, true⟩]
def ref1_Units_r1_go := @goOps Try.prog _ _ ref1_Units_r1.eq_1
def ref1_Units_r2 : List Sop := [
  ⟨some (8, false), .move (.tmp 0), 9, none, true⟩,
  ⟨some (9, true), .binOp .neq 9 (.tmp 8) (.const (.string { data := #[] })) 9, 4, none, true⟩]
def ref1_Units_r2_go := @goOps Try.prog _ _ ref1_Units_r2.eq_1
def ref1_Units_r3 : List Sop := [
  ⟨some (5, true), .assign (.const (.int .i64 0)), 3, none, true⟩]
def ref1_Units_r3_go := @goOps Try.prog _ _ ref1_Units_r3.eq_1
def ref1_Units_r4 : List Sop := [
  ⟨some (6, true), .assign (.const (.int .i64 1)), 3, none, true⟩]
def ref1_Units_r4_go := @goOps Try.prog _ _ ref1_Units_r4.eq_1
def ref1_Units_r5 : List Sop := [
  ⟨some (10, false), .move (.tmp 0), 9, none, true⟩,
  ⟨some (11, false), .index 9 (.tmp 10) (.const (.int .i64 0)), 5, none, true⟩,
  ⟨some (12, false), .convert 5 3 (.tmp 11), 3, none, true⟩,
  ⟨some (7, true), .assign (.tmp 12), 3, none, true⟩]
def ref1_Units_r5_go := @goOps Try.prog _ _ ref1_Units_r5.eq_1
def ref1_Units_r6 : List Sop := [
  ⟨some (13, false), .move (.tmp 7), 3, none, true⟩,
  ⟨some (14, false), .binOp .geq 3 (.tmp 13) (.const (.int .i64 224)) 3, 4, none, true⟩,
  ⟨some (15, false), .move (.tmp 14), 4, none, true⟩,
  ⟨some (16, false), .move (.tmp 0), 9, some (15, true), true⟩,
  ⟨some (17, false), .call { callee := .builtin .len, args := #[.tmp 16], argTypes := #[9] }, 3, some (15, true), true⟩,
  ⟨some (18, false), .binOp .geq 3 (.tmp 17) (.const (.int .i64 3)) 3, 4, some (15, true), true⟩,
  ⟨some (19, true), .pick (.tmp 15) (.tmp 18) (.const (.bool false)), 4, none, true⟩]
def ref1_Units_r6_go := @goOps Try.prog _ _ ref1_Units_r6.eq_1
def ref1_Units_r7 : List (Sop × List Sop) := [
  (⟨some (20, false), .move (.tmp 7), 3, none, true⟩, []),
  (⟨some (21, false), .binOp .rem 3 (.tmp 20) (.const (.int .i64 16)) 3, 3, none, true⟩, []),
  (⟨some (22, false), .binOp .mul 3 (.tmp 21) (.const (.int .i64 4096)) 3, 3, none, true⟩, []),
  (⟨some (23, false), .move (.tmp 0), 9, none, true⟩, []),
  (⟨some (24, false), .index 9 (.tmp 23) (.const (.int .i64 1)), 5, none, true⟩, []),
  (⟨some (25, false), .convert 5 3 (.tmp 24), 3, none, true⟩, []),
  (⟨some (26, false), .binOp .rem 3 (.tmp 25) (.const (.int .i64 64)) 3, 3, none, true⟩, []),
  (⟨some (27, false), .binOp .mul 3 (.tmp 26) (.const (.int .i64 64)) 3, 3, none, true⟩, []),
  (⟨some (28, false), .binOp .add 3 (.tmp 22) (.tmp 27) 3, 3, none, true⟩, []),
  (⟨some (29, false), .move (.tmp 0), 9, none, true⟩, []),
  (⟨some (30, false), .index 9 (.tmp 29) (.const (.int .i64 2)), 5, none, true⟩, []),
  (⟨some (31, false), .convert 5 3 (.tmp 30), 3, none, true⟩, []),
  (⟨some (32, false), .binOp .rem 3 (.tmp 31) (.const (.int .i64 64)) 3, 3, none, true⟩, []),
  (⟨some (33, false), .binOp .add 3 (.tmp 28) (.tmp 32) 3, 3, none, true⟩, []),
  (⟨some (5, true), .assign (.tmp 33), 3, none, true⟩, [])]
def ref1_Units_r7_go := @goDraw Try.prog _ _ ref1_Units_r7.eq_1
def ref1_Units_r8 : List Sop := [
  ⟨some (6, true), .assign (.const (.int .i64 3)), 3, none, true⟩]
def ref1_Units_r8_go := @goOps Try.prog _ _ ref1_Units_r8.eq_1
def ref1_Units_r9 : List Sop := [
  ⟨some (34, false), .move (.tmp 7), 3, none, true⟩,
  ⟨some (35, false), .binOp .geq 3 (.tmp 34) (.const (.int .i64 192)) 3, 4, none, true⟩,
  ⟨some (36, false), .move (.tmp 35), 4, none, true⟩,
  ⟨some (37, false), .move (.tmp 0), 9, some (36, true), true⟩,
  ⟨some (38, false), .call { callee := .builtin .len, args := #[.tmp 37], argTypes := #[9] }, 3, some (36, true), true⟩,
  ⟨some (39, false), .binOp .geq 3 (.tmp 38) (.const (.int .i64 2)) 3, 4, some (36, true), true⟩,
  ⟨some (40, true), .pick (.tmp 36) (.tmp 39) (.const (.bool false)), 4, none, true⟩]
def ref1_Units_r9_go := @goOps Try.prog _ _ ref1_Units_r9.eq_1
def ref1_Units_r10 : List Sop := [
  ⟨some (41, false), .move (.tmp 7), 3, none, true⟩,
  ⟨some (42, false), .binOp .rem 3 (.tmp 41) (.const (.int .i64 32)) 3, 3, none, true⟩,
  ⟨some (43, false), .binOp .mul 3 (.tmp 42) (.const (.int .i64 64)) 3, 3, none, true⟩,
  ⟨some (44, false), .move (.tmp 0), 9, none, true⟩,
  ⟨some (45, false), .index 9 (.tmp 44) (.const (.int .i64 1)), 5, none, true⟩,
  ⟨some (46, false), .convert 5 3 (.tmp 45), 3, none, true⟩,
  ⟨some (47, false), .binOp .rem 3 (.tmp 46) (.const (.int .i64 64)) 3, 3, none, true⟩,
  ⟨some (48, false), .binOp .add 3 (.tmp 43) (.tmp 47) 3, 3, none, true⟩,
  ⟨some (5, true), .assign (.tmp 48), 3, none, true⟩]
def ref1_Units_r10_go := @goOps Try.prog _ _ ref1_Units_r10.eq_1
def ref1_Units_r11 : List Sop := [
  ⟨some (6, true), .assign (.const (.int .i64 2)), 3, none, true⟩]
def ref1_Units_r11_go := @goOps Try.prog _ _ ref1_Units_r11.eq_1
def ref1_Units_r12 : List Sop := [
  ⟨some (49, false), .move (.tmp 7), 3, none, true⟩,
  ⟨some (5, true), .assign (.tmp 49), 3, none, true⟩]
def ref1_Units_r12_go := @goOps Try.prog _ _ ref1_Units_r12.eq_1
def ref1_Units_r13 : List (Sop × List Sop) := [
  (⟨some (50, false), .move (.tmp 5), 3, none, true⟩, []),
  (⟨some (52, false), .move (.tmp 0), 9, none, true⟩, []),
  (⟨some (53, false), .move (.tmp 6), 3, none, true⟩, []),
  (⟨some (54, false), .slice 9 (.tmp 52) none (some (.tmp 53)) none, 9, none, true⟩, []),
  (⟨some (51, false), .call { callee := .value (.func 91), args := #[.tmp 50], argTypes := #[3] }, 9, none, false⟩, [⟨some (54, false), .slice 9 (.tmp 52) none (some (.tmp 53)) none, 9, none, true⟩]),
  (⟨some (55, true), .binOp .neq 9 (.tmp 51) (.tmp 54) 9, 4, none, true⟩, [])]
def ref1_Units_r13_go := @goDraw Try.prog _ _ ref1_Units_r13.eq_1
def ref1_Units_r14 : List Sop := [
  ⟨some (2, true), .assign (.const (.slice none 0 0)), 134, none, true⟩,
  ⟨some (3, true), .assign (.const (.bool false)), 4, none, true⟩]
def ref1_Units_r14_go := @goOps Try.prog _ _ ref1_Units_r14.eq_1
def ref1_Units_r15 : List Sop := [
  ⟨some (56, false), .move (.tmp 4), 134, none, true⟩,
  ⟨some (57, false), .move (.tmp 5), 3, none, true⟩,
  ⟨some (58, false), .buildSlice 134 1 #[(0, .tmp 57)], 134, none, false⟩,
  ⟨some (59, false), .call { callee := .builtin .append, args := #[.tmp 56, .tmp 58], argTypes := #[134, 134] }, 134, none, false⟩,
  ⟨some (4, true), .assign (.tmp 59), 134, none, true⟩]
def ref1_Units_r15_go := @goOps Try.prog _ _ ref1_Units_r15.eq_1
def ref1_Units_r16 : List Sop := [
  ⟨some (60, false), .move (.tmp 0), 9, none, true⟩,
  ⟨some (61, false), .move (.tmp 6), 3, none, true⟩,
  ⟨some (62, false), .slice 9 (.tmp 60) (some (.tmp 61)) none none, 9, none, true⟩,
  ⟨some (0, true), .assign (.tmp 62), 9, none, true⟩]
def ref1_Units_r16_go := @goOps Try.prog _ _ ref1_Units_r16.eq_1
def ref1_Units_r17 : List Sop := [
  ⟨some (63, false), .move (.tmp 4), 134, none, true⟩,
  ⟨some (2, true), .assign (.tmp 63), 134, none, true⟩,
  ⟨some (3, true), .assign (.const (.bool true)), 4, none, true⟩]
def ref1_Units_r17_go := @goOps Try.prog _ _ ref1_Units_r17.eq_1
def ref1_Units_l0 : Cd := .seq (.seq (.region ref1_Units_r2) (.cond (.tmp 9) (.skip) (.exit 0))) (.block 1 (.seq (.region ref1_Units_r3) (.seq (.region ref1_Units_r4) (.seq (.region ref1_Units_r5) (.seq (.seq (.region ref1_Units_r6) (.cond (.tmp 19) (.seq (.draw ref1_Units_r7) (.region ref1_Units_r8)) (.seq (.region ref1_Units_r9) (.cond (.tmp 40) (.seq (.region ref1_Units_r10) (.region ref1_Units_r11)) (.region ref1_Units_r12))))) (.seq (.seq (.draw ref1_Units_r13) (.cond (.tmp 55) (.seq (.region ref1_Units_r14) (.ret)) (.skip))) (.seq (.region ref1_Units_r15) (.region ref1_Units_r16))))))))
def ref1_Units_l0_go := @goVc Try.prog _ _ ref1_Units_l0.eq_1
def ref1_Units : Cd := .seq (.region ref1_Units_r0) (.seq (.region ref1_Units_r1) (.seq (.block 0 (.loop ref1_Units_l0)) (.seq (.region ref1_Units_r17) (.ret))))
def ref1_Units_go := @goVc Try.prog _ _ ref1_Units.eq_1
theorem ref1_Units_calls {args : List Value} {h : Heap} {R : Value → Heap → Prop} (hl : args.length = 1) (hv : Cd.vc Try.prog ref1_Units (retQ Try.prog [(2, none), (3, none)] R) (initEnv args [0, 2, 3, 4, 5, 6, 7, 9, 19, 40, 55]) h) : HCalls Try.prog 77 args.toArray h R :=
  hcalls_of_vc (by kernel_rfl) Try.func77 (cd := ref1_Units) (L := [0, 2, 3, 4, 5, 6, 7, 9, 19, 40, 55]) (by kernel_rfl) (by kernel_rfl) ⟨by rw [hl, Try.ntmps77]; decide, by rw [Try.ntmps77]; decide⟩ hv
def ref1_Units_gos := And.intro @ref1_Units_go (And.intro @ref1_Units_r0_go (And.intro @ref1_Units_r1_go (And.intro @ref1_Units_r2_go (And.intro @ref1_Units_r3_go (And.intro @ref1_Units_r4_go (And.intro @ref1_Units_r5_go (And.intro @ref1_Units_r6_go (And.intro @ref1_Units_r7_go (And.intro @ref1_Units_r8_go (And.intro @ref1_Units_r9_go (And.intro @ref1_Units_r10_go (And.intro @ref1_Units_r11_go (And.intro @ref1_Units_r12_go (And.intro @ref1_Units_r13_go (And.intro @ref1_Units_r14_go (And.intro @ref1_Units_r15_go (And.intro @ref1_Units_r16_go (And.intro @ref1_Units_r17_go (@ref1_Units_l0_go)))))))))))))))))))

/-! jvmcore/jvmcoreref1.sizes: function 76: slots [0, 2, 3, 4, 8, 15] -/
def ref1_sizes_r0 : List Sop := [
  ⟨some (2, true), .assign (.const (.int .i64 0)), 3, none, true⟩]
def ref1_sizes_r0_go := @goOps Try.prog _ _ ref1_sizes_r0.eq_1
def ref1_sizes_r1 : List Sop := [
  ⟨some (3, true), .move (.tmp 0), 5, none, true⟩]
def ref1_sizes_r1_go := @goOps Try.prog _ _ ref1_sizes_r1.eq_1
def ref1_sizes_r2 : List Sop := [
  ⟨some (5, false), .binOp .eql 5 (.tmp 3) (.const (.int .u8 1)) 5, 4, none, true⟩,
  ⟨some (4, true), .assign (.tmp 5), 4, none, true⟩]
def ref1_sizes_r2_go := @goOps Try.prog _ _ ref1_sizes_r2.eq_1
def ref1_sizes_r3 : List Sop := [
  ⟨some (6, false), .binOp .eql 5 (.tmp 3) (.const (.int .u8 7)) 5, 4, none, true⟩,
  ⟨some (4, true), .assign (.tmp 6), 4, none, true⟩]
def ref1_sizes_r3_go := @goOps Try.prog _ _ ref1_sizes_r3.eq_1
def ref1_sizes_r4 : List Sop := [
  ⟨some (7, false), .binOp .eql 5 (.tmp 3) (.const (.int .u8 8)) 5, 4, none, true⟩,
  ⟨some (4, true), .assign (.tmp 7), 4, none, true⟩]
def ref1_sizes_r4_go := @goOps Try.prog _ _ ref1_sizes_r4.eq_1
def ref1_sizes_r5 : List Sop := [
  ⟨some (2, true), .assign (.const (.int .i64 2)), 3, none, true⟩]
def ref1_sizes_r5_go := @goOps Try.prog _ _ ref1_sizes_r5.eq_1
def ref1_sizes_r6 : List Sop := [
  ⟨some (9, false), .binOp .eql 5 (.tmp 3) (.const (.int .u8 3)) 5, 4, none, true⟩,
  ⟨some (8, true), .assign (.tmp 9), 4, none, true⟩]
def ref1_sizes_r6_go := @goOps Try.prog _ _ ref1_sizes_r6.eq_1
def ref1_sizes_r7 : List Sop := [
  ⟨some (10, false), .binOp .eql 5 (.tmp 3) (.const (.int .u8 4)) 5, 4, none, true⟩,
  ⟨some (8, true), .assign (.tmp 10), 4, none, true⟩]
def ref1_sizes_r7_go := @goOps Try.prog _ _ ref1_sizes_r7.eq_1
def ref1_sizes_r8 : List Sop := [
  ⟨some (11, false), .binOp .eql 5 (.tmp 3) (.const (.int .u8 9)) 5, 4, none, true⟩,
  ⟨some (8, true), .assign (.tmp 11), 4, none, true⟩]
def ref1_sizes_r8_go := @goOps Try.prog _ _ ref1_sizes_r8.eq_1
def ref1_sizes_r9 : List Sop := [
  ⟨some (12, false), .binOp .eql 5 (.tmp 3) (.const (.int .u8 10)) 5, 4, none, true⟩,
  ⟨some (8, true), .assign (.tmp 12), 4, none, true⟩]
def ref1_sizes_r9_go := @goOps Try.prog _ _ ref1_sizes_r9.eq_1
def ref1_sizes_r10 : List Sop := [
  ⟨some (13, false), .binOp .eql 5 (.tmp 3) (.const (.int .u8 11)) 5, 4, none, true⟩,
  ⟨some (8, true), .assign (.tmp 13), 4, none, true⟩]
def ref1_sizes_r10_go := @goOps Try.prog _ _ ref1_sizes_r10.eq_1
def ref1_sizes_r11 : List Sop := [
  ⟨some (14, false), .binOp .eql 5 (.tmp 3) (.const (.int .u8 12)) 5, 4, none, true⟩,
  ⟨some (8, true), .assign (.tmp 14), 4, none, true⟩]
def ref1_sizes_r11_go := @goOps Try.prog _ _ ref1_sizes_r11.eq_1
def ref1_sizes_r12 : List Sop := [
  ⟨some (2, true), .assign (.const (.int .i64 4)), 3, none, true⟩]
def ref1_sizes_r12_go := @goOps Try.prog _ _ ref1_sizes_r12.eq_1
def ref1_sizes_r13 : List Sop := [
  ⟨some (16, false), .binOp .eql 5 (.tmp 3) (.const (.int .u8 5)) 5, 4, none, true⟩,
  ⟨some (15, true), .assign (.tmp 16), 4, none, true⟩]
def ref1_sizes_r13_go := @goOps Try.prog _ _ ref1_sizes_r13.eq_1
def ref1_sizes_r14 : List Sop := [
  ⟨some (17, false), .binOp .eql 5 (.tmp 3) (.const (.int .u8 6)) 5, 4, none, true⟩,
  ⟨some (15, true), .assign (.tmp 17), 4, none, true⟩]
def ref1_sizes_r14_go := @goOps Try.prog _ _ ref1_sizes_r14.eq_1
def ref1_sizes_r15 : List Sop := [
  ⟨some (2, true), .assign (.const (.int .i64 8)), 3, none, true⟩]
def ref1_sizes_r15_go := @goOps Try.prog _ _ ref1_sizes_r15.eq_1
def ref1_sizes_r16 : List Sop := [
  ⟨some (2, true), .assign (.const (.int .i64 (-1))), 3, none, true⟩]
def ref1_sizes_r16_go := @goOps Try.prog _ _ ref1_sizes_r16.eq_1
def ref1_sizes : Cd := .seq (.region ref1_sizes_r0) (.seq (.seq (.region ref1_sizes_r1) (.block 0 (.seq (.seq (.region ref1_sizes_r2) (.cond (.tmp 4) (.skip) (.seq (.region ref1_sizes_r3) (.cond (.tmp 4) (.skip) (.region ref1_sizes_r4))))) (.cond (.tmp 4) (.seq (.region ref1_sizes_r5) (.ret)) (.seq (.seq (.region ref1_sizes_r6) (.cond (.tmp 8) (.skip) (.seq (.region ref1_sizes_r7) (.cond (.tmp 8) (.skip) (.seq (.region ref1_sizes_r8) (.cond (.tmp 8) (.skip) (.seq (.region ref1_sizes_r9) (.cond (.tmp 8) (.skip) (.seq (.region ref1_sizes_r10) (.cond (.tmp 8) (.skip) (.region ref1_sizes_r11))))))))))) (.cond (.tmp 8) (.seq (.region ref1_sizes_r12) (.ret)) (.seq (.seq (.region ref1_sizes_r13) (.cond (.tmp 15) (.skip) (.region ref1_sizes_r14))) (.cond (.tmp 15) (.seq (.region ref1_sizes_r15) (.ret)) (.skip))))))))) (.seq (.region ref1_sizes_r16) (.ret)))
def ref1_sizes_go := @goVc Try.prog _ _ ref1_sizes.eq_1
theorem ref1_sizes_calls {args : List Value} {h : Heap} {R : Value → Heap → Prop} (hl : args.length = 1) (hv : Cd.vc Try.prog ref1_sizes (retQ Try.prog [(2, none)] R) (initEnv args [0, 2, 3, 4, 8, 15]) h) : HCalls Try.prog 76 args.toArray h R :=
  hcalls_of_vc (by kernel_rfl) Try.func76 (cd := ref1_sizes) (L := [0, 2, 3, 4, 8, 15]) (by kernel_rfl) (by kernel_rfl) ⟨by rw [hl, Try.ntmps76]; decide, by rw [Try.ntmps76]; decide⟩ hv
def ref1_sizes_gos := And.intro @ref1_sizes_go (And.intro @ref1_sizes_r0_go (And.intro @ref1_sizes_r1_go (And.intro @ref1_sizes_r2_go (And.intro @ref1_sizes_r3_go (And.intro @ref1_sizes_r4_go (And.intro @ref1_sizes_r5_go (And.intro @ref1_sizes_r6_go (And.intro @ref1_sizes_r7_go (And.intro @ref1_sizes_r8_go (And.intro @ref1_sizes_r9_go (And.intro @ref1_sizes_r10_go (And.intro @ref1_sizes_r11_go (And.intro @ref1_sizes_r12_go (And.intro @ref1_sizes_r13_go (And.intro @ref1_sizes_r14_go (And.intro @ref1_sizes_r15_go (@ref1_sizes_r16_go)))))))))))))))))

end Go.Proofs.Ytohkbpnblkkdgaa.C
