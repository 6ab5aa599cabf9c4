/- The stripped code of some functions of this seat's program, printed by a program; that it is that code is proved by the kernel. No condition. -/

import Derived.Test.YtohkbpnblkkdgaaProg

import Derived.Test.YtohkbpnblkkdgaaVcJ

set_option maxRecDepth 100000

set_option linter.defProp false

namespace Go.Proofs.Ytohkbpnblkkdgaa.C

open Go.Vc

/-! (*jvmcore/pool.Reader).Pool: function 53: slots [0, 2, 3, 4, 5, 6, 7, 15, 29, 47, 55] -/
def Reader_Pool_r0 : List Sop := [
  ⟨some (2, true), .assign (.const (.slice none 0 0)), 22, none, true⟩]
def Reader_Pool_r0_go := @goOps Try.prog _ _ Reader_Pool_r0.eq_1
def Reader_Pool_r1 : List Sop := [
  ⟨some (8, false), .move (.tmp 0), 54, none, true⟩,
  ⟨some (9, false), .nilCheck (.tmp 8), 0, none, true⟩,
  ⟨some (10, false), .fieldAddr 120 (.tmp 9) 1, 0, none, true⟩,
  ⟨some (11, false), .load 3 (.tmp 10), 3, none, true⟩,
  ⟨some (3, true), .assign (.tmp 11), 3, none, true⟩]
def Reader_Pool_r1_go := @goOps Try.prog _ _ Reader_Pool_r1.eq_1
def Reader_Pool_r2 : List Sop := [
  ⟨some (12, false), .move (.tmp 0), 54, none, true⟩,
  ⟨some (13, false), .call { callee := .value (.func 23), args := #[.tmp 12, .const (.int .i64 2)], argTypes := #[54, 3] }, 3, none, false⟩,
  ⟨some (4, true), .assign (.tmp 13), 3, none, true⟩]
def Reader_Pool_r2_go := @goOps Try.prog _ _ Reader_Pool_r2.eq_1
def Reader_Pool_r3 : List Sop := [
  ⟨some (14, false), .move (.tmp 4), 3, none, true⟩,
  ⟨some (15, true), .binOp .eql 3 (.tmp 14) (.const (.int .i64 0)) 3, 4, none, true⟩]
def Reader_Pool_r3_go := @goOps Try.prog _ _ Reader_Pool_r3.eq_1
def Reader_Pool_r4 : List Sop := [
  ⟨some (16, false), .move (.tmp 0), 54, none, true⟩,
  ⟨some (17, false), .move (.tmp 3), 3, none, true⟩,
  ⟨some (18, false), .call { callee := .value (.func 28), args := #[.tmp 16, .const (.int .i64 12), .tmp 17], argTypes := #[54, 27, 3] }, 0, none, false⟩]
def Reader_Pool_r4_go := @goOps Try.prog _ _ Reader_Pool_r4.eq_1
def Reader_Pool_r5 : List Sop := [
  ⟨some (19, false), .build 76 #[], 76, none, true⟩,
  ⟨some (20, false), .buildSlice 22 1 #[(0, .tmp 19)], 22, none, false⟩,
  ⟨some (5, true), .assign (.tmp 20), 22, none, true⟩]
def Reader_Pool_r5_go := @goOps Try.prog _ _ Reader_Pool_r5.eq_1
def Reader_Pool_r6 : List Sop := [
  ⟨some (21, false), .move (.tmp 5), 22, none, true⟩,
  ⟨some (22, false), .call { callee := .builtin .len, args := #[.tmp 21], argTypes := #[22] }, 3, none, true⟩,
  ⟨some (23, false), .move (.tmp 4), 3, none, true⟩,
  ⟨some (24, false), .binOp .lss 3 (.tmp 22) (.tmp 23) 3, 4, none, true⟩,
  ⟨some (25, false), .move (.tmp 24), 4, none, true⟩,
  ⟨some (26, false), .move (.tmp 0), 54, some (25, true), true⟩,
  ⟨some (27, false), .call { callee := .value (.func 25), args := #[.tmp 26], argTypes := #[54] }, 4, some (25, true), false⟩,
  ⟨some (28, false), .unOp .not 4 (.tmp 27), 4, some (25, true), true⟩,
  ⟨some (29, true), .pick (.tmp 25) (.tmp 28) (.const (.bool false)), 4, none, true⟩]
def Reader_Pool_r6_go := @goOps Try.prog _ _ Reader_Pool_r6.eq_1
def Reader_Pool_r7 : List Sop := [
  ⟨some (30, false), .move (.tmp 0), 54, none, true⟩,
  ⟨some (31, false), .nilCheck (.tmp 30), 0, none, true⟩,
  ⟨some (32, false), .fieldAddr 120 (.tmp 31) 1, 0, none, true⟩,
  ⟨some (33, false), .load 3 (.tmp 32), 3, none, true⟩,
  ⟨some (6, true), .assign (.tmp 33), 3, none, true⟩]
def Reader_Pool_r7_go := @goOps Try.prog _ _ Reader_Pool_r7.eq_1
def Reader_Pool_r8 : List Sop := [
  ⟨some (34, false), .move (.tmp 0), 54, none, true⟩,
  ⟨some (35, false), .call { callee := .value (.func 78), args := #[.tmp 34], argTypes := #[54] }, 76, none, false⟩,
  ⟨some (7, true), .alloc 76, 0, none, false⟩,
  ⟨none, .store 76 (.tmp 7) (.tmp 35), 0, none, false⟩]
def Reader_Pool_r8_go := @goOps Try.prog _ _ Reader_Pool_r8.eq_1
def Reader_Pool_r9 : List Sop := [
  ⟨some (36, false), .move (.tmp 5), 22, none, true⟩,
  ⟨some (37, false), .load 76 (.tmp 7), 76, none, true⟩,
  ⟨some (38, false), .buildSlice 22 1 #[(0, .tmp 37)], 22, none, false⟩,
  ⟨some (39, false), .call { callee := .builtin .append, args := #[.tmp 36, .tmp 38], argTypes := #[22, 22] }, 22, none, false⟩,
  ⟨some (5, true), .assign (.tmp 39), 22, none, true⟩]
def Reader_Pool_r9_go := @goOps Try.prog _ _ Reader_Pool_r9.eq_1
def Reader_Pool_r10 : List Sop := [
  ⟨some (40, false), .fieldAddr 76 (.tmp 7) 0, 0, none, true⟩,
  ⟨some (41, false), .load 5 (.tmp 40), 5, none, true⟩,
  ⟨some (42, false), .binOp .eql 5 (.tmp 41) (.const (.int .u8 5)) 5, 4, none, true⟩,
  ⟨some (43, false), .move (.tmp 42), 4, none, true⟩,
  ⟨some (44, false), .fieldAddr 76 (.tmp 7) 0, 0, some (43, false), true⟩,
  ⟨some (45, false), .load 5 (.tmp 44), 5, some (43, false), true⟩,
  ⟨some (46, false), .binOp .eql 5 (.tmp 45) (.const (.int .u8 6)) 5, 4, some (43, false), true⟩,
  ⟨some (47, true), .pick (.tmp 43) (.const (.bool true)) (.tmp 46), 4, none, true⟩]
def Reader_Pool_r10_go := @goOps Try.prog _ _ Reader_Pool_r10.eq_1
def Reader_Pool_r11 : List Sop := [
  ⟨some (48, false), .move (.tmp 5), 22, none, true⟩,
  ⟨some (49, false), .build 76 #[], 76, none, true⟩,
  ⟨some (50, false), .buildSlice 22 1 #[(0, .tmp 49)], 22, none, false⟩,
  ⟨some (51, false), .call { callee := .builtin .append, args := #[.tmp 48, .tmp 50], argTypes := #[22, 22] }, 22, none, false⟩,
  ⟨some (5, true), .assign (.tmp 51), 22, none, true⟩]
def Reader_Pool_r11_go := @goOps Try.prog _ _ Reader_Pool_r11.eq_1
def Reader_Pool_r12 : List Sop := [
  ⟨some (52, false), .move (.tmp 5), 22, none, true⟩,
  ⟨some (53, false), .call { callee := .builtin .len, args := #[.tmp 52], argTypes := #[22] }, 3, none, true⟩,
  ⟨some (54, false), .move (.tmp 4), 3, none, true⟩,
  ⟨some (55, true), .binOp .gtr 3 (.tmp 53) (.tmp 54) 3, 4, none, true⟩]
def Reader_Pool_r12_go := @goOps Try.prog _ _ Reader_Pool_r12.eq_1
def Reader_Pool_r13 : List Sop := [
  ⟨some (56, false), .move (.tmp 0), 54, none, true⟩,
  ⟨some (57, false), .move (.tmp 6), 3, none, true⟩,
  ⟨some (58, false), .call { callee := .value (.func 28), args := #[.tmp 56, .const (.int .i64 12), .tmp 57], argTypes := #[54, 27, 3] }, 0, none, false⟩]
def Reader_Pool_r13_go := @goOps Try.prog _ _ Reader_Pool_r13.eq_1
def Reader_Pool_r14 : List Sop := [
  ⟨some (59, false), .move (.tmp 5), 22, none, true⟩,
  ⟨some (2, true), .assign (.tmp 59), 22, none, true⟩]
def Reader_Pool_r14_go := @goOps Try.prog _ _ Reader_Pool_r14.eq_1
def Reader_Pool_l0 : Cd := .seq (.seq (.region Reader_Pool_r6) (.cond (.tmp 29) (.skip) (.exit 0))) (.block 1 (.seq (.region Reader_Pool_r7) (.seq (.region Reader_Pool_r8) (.seq (.region Reader_Pool_r9) (.seq (.region Reader_Pool_r10) (.cond (.tmp 47) (.seq (.region Reader_Pool_r11) (.seq (.region Reader_Pool_r12) (.cond (.tmp 55) (.region Reader_Pool_r13) (.skip)))) (.skip)))))))
def Reader_Pool_l0_go := @goVc Try.prog _ _ Reader_Pool_l0.eq_1
def Reader_Pool : Cd := .seq (.region Reader_Pool_r0) (.seq (.region Reader_Pool_r1) (.seq (.region Reader_Pool_r2) (.seq (.seq (.region Reader_Pool_r3) (.cond (.tmp 15) (.region Reader_Pool_r4) (.skip))) (.seq (.region Reader_Pool_r5) (.seq (.block 0 (.loop Reader_Pool_l0)) (.seq (.region Reader_Pool_r14) (.ret)))))))
def Reader_Pool_go := @goVc Try.prog _ _ Reader_Pool.eq_1
theorem Reader_Pool_calls {args : List Value} {h : Heap} {R : Value → Heap → Prop} (hl : args.length = 1) (hv : Cd.vc Try.prog Reader_Pool (retQ Try.prog [(2, none)] R) (initEnv args [0, 2, 3, 4, 5, 6, 7, 15, 29, 47, 55]) h) : HCalls Try.prog 53 args.toArray h R :=
  hcalls_of_vc (by kernel_rfl) Try.func53 (cd := Reader_Pool) (L := [0, 2, 3, 4, 5, 6, 7, 15, 29, 47, 55]) (by kernel_rfl) (by kernel_rfl) ⟨by rw [hl, Try.ntmps53]; decide, by rw [Try.ntmps53]; decide⟩ hv
def Reader_Pool_gos := And.intro @Reader_Pool_go (And.intro @Reader_Pool_r0_go (And.intro @Reader_Pool_r1_go (And.intro @Reader_Pool_r2_go (And.intro @Reader_Pool_r3_go (And.intro @Reader_Pool_r4_go (And.intro @Reader_Pool_r5_go (And.intro @Reader_Pool_r6_go (And.intro @Reader_Pool_r7_go (And.intro @Reader_Pool_r8_go (And.intro @Reader_Pool_r9_go (And.intro @Reader_Pool_r10_go (And.intro @Reader_Pool_r11_go (And.intro @Reader_Pool_r12_go (And.intro @Reader_Pool_r13_go (And.intro @Reader_Pool_r14_go (@Reader_Pool_l0_go))))))))))))))))

/-! (*jvmcore/pool.Reader).one: function 78: slots [0, 2, 3, 4, 6, 7, 17, 21, 35, 39, 46, 59, 65] -/
def Reader_one_r0 : List Sop := [
  ⟨some (2, true), .alloc 76, 0, none, false⟩]
def Reader_one_r0_go := @goOps Try.prog _ _ Reader_one_r0.eq_1
def Reader_one_r1 : List Sop := [
  ⟨some (8, false), .move (.tmp 0), 54, none, true⟩,
  ⟨some (9, false), .nilCheck (.tmp 8), 0, none, true⟩,
  ⟨some (10, false), .fieldAddr 120 (.tmp 9) 1, 0, none, true⟩,
  ⟨some (11, false), .load 3 (.tmp 10), 3, none, true⟩,
  ⟨some (3, true), .assign (.tmp 11), 3, none, true⟩]
def Reader_one_r1_go := @goOps Try.prog _ _ Reader_one_r1.eq_1
def Reader_one_r2 : List Sop := [
  ⟨some (12, false), .move (.tmp 0), 54, none, true⟩,
  ⟨some (13, false), .call { callee := .value (.func 23), args := #[.tmp 12, .const (.int .i64 1)], argTypes := #[54, 3] }, 3, none, false⟩,
  ⟨some (14, false), .convert 3 5 (.tmp 13), 5, none, true⟩,
  ⟨some (15, false), .build 76 #[(0, .tmp 14)], 76, none, true⟩,
  ⟨some (4, true), .alloc 76, 0, none, false⟩,
  ⟨none, .store 76 (.tmp 4) (.tmp 15), 0, none, false⟩]
def Reader_one_r2_go := @goOps Try.prog _ _ Reader_one_r2.eq_1
def Reader_one_r3 : List Sop := [
  ⟨some (16, false), .fieldAddr 76 (.tmp 4) 0, 0, none, true⟩,
  ⟨some (17, true), .load 5 (.tmp 16), 5, none, true⟩]
def Reader_one_r3_go := @goOps Try.prog _ _ Reader_one_r3.eq_1
def Reader_one_r4 : List Sop := [
  ⟨some (22, false), .binOp .eql 5 (.tmp 17) (.const (.int .u8 1)) 5, 4, none, true⟩,
  ⟨some (21, true), .assign (.tmp 22), 4, none, true⟩]
def Reader_one_r4_go := @goOps Try.prog _ _ Reader_one_r4.eq_1
def Reader_one_r5 : List Sop := [
  ⟨some (23, false), .move (.tmp 0), 54, none, true⟩,
  ⟨some (24, false), .move (.tmp 0), 54, none, true⟩,
  ⟨some (25, false), .call { callee := .value (.func 23), args := #[.tmp 24, .const (.int .i64 2)], argTypes := #[54, 3] }, 3, none, false⟩,
  ⟨some (26, false), .call { callee := .value (.func 65), args := #[.tmp 23, .tmp 25], argTypes := #[54, 3] }, 9, none, false⟩,
  ⟨some (27, false), .fieldAddr 76 (.tmp 4) 1, 0, none, true⟩,
  ⟨none, .store 9 (.tmp 27) (.tmp 26), 0, none, false⟩]
def Reader_one_r5_go := @goOps Try.prog _ _ Reader_one_r5.eq_1
def Reader_one_r6 : List Sop := [
  ⟨some (29, false), .fieldAddr 76 (.tmp 4) 1, 0, none, true⟩,
  ⟨some (30, false), .load 9 (.tmp 29), 9, none, true⟩,
  ⟨some (31, false), .call { callee := .value (.func 73), args := #[.tmp 30], argTypes := #[9] }, 129, none, false⟩,
  ⟨some (28, false), .move (.tmp 31), 129, none, true⟩,
  ⟨some (32, false), .extract (.tmp 28) 0, 39, none, true⟩,
  ⟨some (33, false), .extract (.tmp 28) 1, 4, none, true⟩,
  ⟨some (5, false), .assign (.tmp 32), 39, none, true⟩,
  ⟨some (6, true), .assign (.tmp 33), 4, none, true⟩]
def Reader_one_r6_go := @goOps Try.prog _ _ Reader_one_r6.eq_1
def Reader_one_r7 : List Sop := [
  ⟨some (34, false), .move (.tmp 6), 4, none, true⟩,
  ⟨some (35, true), .unOp .not 4 (.tmp 34), 4, none, true⟩]
def Reader_one_r7_go := @goOps Try.prog _ _ Reader_one_r7.eq_1
def Reader_one_r8 : List Sop := [
  ⟨some (36, false), .move (.tmp 0), 54, none, true⟩,
  ⟨some (37, false), .move (.tmp 3), 3, none, true⟩,
  ⟨some (38, false), .call { callee := .value (.func 28), args := #[.tmp 36, .const (.int .i64 6), .tmp 37], argTypes := #[54, 27, 3] }, 0, none, false⟩]
def Reader_one_r8_go := @goOps Try.prog _ _ Reader_one_r8.eq_1
def Reader_one_r9 : List Sop := [
  ⟨some (40, false), .binOp .eql 5 (.tmp 17) (.const (.int .u8 3)) 5, 4, none, true⟩,
  ⟨some (39, true), .assign (.tmp 40), 4, none, true⟩]
def Reader_one_r9_go := @goOps Try.prog _ _ Reader_one_r9.eq_1
def Reader_one_r10 : List Sop := [
  ⟨some (41, false), .binOp .eql 5 (.tmp 17) (.const (.int .u8 4)) 5, 4, none, true⟩,
  ⟨some (39, true), .assign (.tmp 41), 4, none, true⟩]
def Reader_one_r10_go := @goOps Try.prog _ _ Reader_one_r10.eq_1
def Reader_one_r11 : List Sop := [
  ⟨some (42, false), .move (.tmp 0), 54, none, true⟩,
  ⟨some (43, false), .call { callee := .value (.func 23), args := #[.tmp 42, .const (.int .i64 4)], argTypes := #[54, 3] }, 3, none, false⟩,
  ⟨some (44, false), .convert 3 74 (.tmp 43), 74, none, true⟩,
  ⟨some (45, false), .fieldAddr 76 (.tmp 4) 2, 0, none, true⟩,
  ⟨none, .store 74 (.tmp 45) (.tmp 44), 0, none, false⟩]
def Reader_one_r11_go := @goOps Try.prog _ _ Reader_one_r11.eq_1
def Reader_one_r12 : List Sop := [
  ⟨some (47, false), .binOp .eql 5 (.tmp 17) (.const (.int .u8 5)) 5, 4, none, true⟩,
  ⟨some (46, true), .assign (.tmp 47), 4, none, true⟩]
def Reader_one_r12_go := @goOps Try.prog _ _ Reader_one_r12.eq_1
def Reader_one_r13 : List Sop := [
  ⟨some (48, false), .binOp .eql 5 (.tmp 17) (.const (.int .u8 6)) 5, 4, none, true⟩,
  ⟨some (46, true), .assign (.tmp 48), 4, none, true⟩]
def Reader_one_r13_go := @goOps Try.prog _ _ Reader_one_r13.eq_1
def Reader_one_r14 : List Sop := [
  ⟨some (49, false), .move (.tmp 0), 54, none, true⟩,
  ⟨some (50, false), .call { callee := .value (.func 23), args := #[.tmp 49, .const (.int .i64 4)], argTypes := #[54, 3] }, 3, none, false⟩,
  ⟨some (51, false), .convert 3 74 (.tmp 50), 74, none, true⟩,
  ⟨some (7, true), .assign (.tmp 51), 74, none, true⟩]
def Reader_one_r14_go := @goOps Try.prog _ _ Reader_one_r14.eq_1
def Reader_one_r15 : List Sop := [
  ⟨some (52, false), .move (.tmp 7), 74, none, true⟩,
  ⟨some (53, false), .binOp .shl 74 (.tmp 52) (.const (.int .u64 32)) 121, 74, none, true⟩,
  ⟨some (54, false), .move (.tmp 0), 54, none, true⟩,
  ⟨some (55, false), .call { callee := .value (.func 23), args := #[.tmp 54, .const (.int .i64 4)], argTypes := #[54, 3] }, 3, none, false⟩,
  ⟨some (56, false), .convert 3 74 (.tmp 55), 74, none, true⟩,
  ⟨some (57, false), .binOp .or 74 (.tmp 53) (.tmp 56) 74, 74, none, true⟩,
  ⟨some (58, false), .fieldAddr 76 (.tmp 4) 2, 0, none, true⟩,
  ⟨none, .store 74 (.tmp 58) (.tmp 57), 0, none, false⟩]
def Reader_one_r15_go := @goOps Try.prog _ _ Reader_one_r15.eq_1
def Reader_one_r16 : List Sop := [
  ⟨some (60, false), .binOp .eql 5 (.tmp 17) (.const (.int .u8 7)) 5, 4, none, true⟩,
  ⟨some (59, true), .assign (.tmp 60), 4, none, true⟩]
def Reader_one_r16_go := @goOps Try.prog _ _ Reader_one_r16.eq_1
def Reader_one_r17 : List Sop := [
  ⟨some (61, false), .binOp .eql 5 (.tmp 17) (.const (.int .u8 8)) 5, 4, none, true⟩,
  ⟨some (59, true), .assign (.tmp 61), 4, none, true⟩]
def Reader_one_r17_go := @goOps Try.prog _ _ Reader_one_r17.eq_1
def Reader_one_r18 : List Sop := [
  ⟨some (62, false), .move (.tmp 0), 54, none, true⟩,
  ⟨some (63, false), .call { callee := .value (.func 52), args := #[.tmp 62], argTypes := #[54] }, 38, none, false⟩,
  ⟨some (64, false), .fieldAddr 76 (.tmp 4) 3, 0, none, true⟩,
  ⟨none, .store 38 (.tmp 64) (.tmp 63), 0, none, false⟩]
def Reader_one_r18_go := @goOps Try.prog _ _ Reader_one_r18.eq_1
def Reader_one_r19 : List Sop := [
  ⟨some (66, false), .binOp .eql 5 (.tmp 17) (.const (.int .u8 9)) 5, 4, none, true⟩,
  ⟨some (65, true), .assign (.tmp 66), 4, none, true⟩]
def Reader_one_r19_go := @goOps Try.prog _ _ Reader_one_r19.eq_1
def Reader_one_r20 : List Sop := [
  ⟨some (67, false), .binOp .eql 5 (.tmp 17) (.const (.int .u8 10)) 5, 4, none, true⟩,
  ⟨some (65, true), .assign (.tmp 67), 4, none, true⟩]
def Reader_one_r20_go := @goOps Try.prog _ _ Reader_one_r20.eq_1
def Reader_one_r21 : List Sop := [
  ⟨some (68, false), .binOp .eql 5 (.tmp 17) (.const (.int .u8 11)) 5, 4, none, true⟩,
  ⟨some (65, true), .assign (.tmp 68), 4, none, true⟩]
def Reader_one_r21_go := @goOps Try.prog _ _ Reader_one_r21.eq_1
def Reader_one_r22 : List Sop := [
  ⟨some (69, false), .binOp .eql 5 (.tmp 17) (.const (.int .u8 12)) 5, 4, none, true⟩,
  ⟨some (65, true), .assign (.tmp 69), 4, none, true⟩]
def Reader_one_r22_go := @goOps Try.prog _ _ Reader_one_r22.eq_1
def Reader_one_r23 : List Sop := [
  ⟨some (70, false), .move (.tmp 0), 54, none, true⟩,
  ⟨some (71, false), .call { callee := .value (.func 52), args := #[.tmp 70], argTypes := #[54] }, 38, none, false⟩,
  ⟨some (72, false), .move (.tmp 0), 54, none, true⟩,
  ⟨some (73, false), .call { callee := .value (.func 52), args := #[.tmp 72], argTypes := #[54] }, 38, none, false⟩,
  ⟨some (74, false), .fieldAddr 76 (.tmp 4) 3, 0, none, true⟩,
  ⟨none, .store 38 (.tmp 74) (.tmp 71), 0, none, false⟩,
  ⟨some (75, false), .fieldAddr 76 (.tmp 4) 4, 0, none, true⟩,
  ⟨none, .store 38 (.tmp 75) (.tmp 73), 0, none, false⟩]
def Reader_one_r23_go := @goOps Try.prog _ _ Reader_one_r23.eq_1
def Reader_one_r24 : List Sop := [
  ⟨some (18, false), .move (.tmp 0), 54, none, true⟩,
  ⟨some (19, false), .move (.tmp 3), 3, none, true⟩,
  ⟨some (20, false), .call { callee := .value (.func 28), args := #[.tmp 18, .const (.int .i64 5), .tmp 19], argTypes := #[54, 27, 3] }, 0, none, false⟩]
def Reader_one_r24_go := @goOps Try.prog _ _ Reader_one_r24.eq_1
def Reader_one_r25 : List Sop := [
  ⟨some (76, false), .load 76 (.tmp 4), 76, none, true⟩,
  ⟨none, .store 76 (.tmp 2) (.tmp 76), 0, none, false⟩]
def Reader_one_r25_go := @goOps Try.prog _ _ Reader_one_r25.eq_1
def Reader_one : Cd := .seq (.region Reader_one_r0) (.seq (.region Reader_one_r1) (.seq (.region Reader_one_r2) (.seq (.seq (.region Reader_one_r3) (.block 0 (.seq (.region Reader_one_r4) (.cond (.tmp 21) (.seq (.region Reader_one_r5) (.seq (.region Reader_one_r6) (.seq (.region Reader_one_r7) (.cond (.tmp 35) (.region Reader_one_r8) (.skip))))) (.seq (.seq (.region Reader_one_r9) (.cond (.tmp 39) (.skip) (.region Reader_one_r10))) (.cond (.tmp 39) (.region Reader_one_r11) (.seq (.seq (.region Reader_one_r12) (.cond (.tmp 46) (.skip) (.region Reader_one_r13))) (.cond (.tmp 46) (.seq (.region Reader_one_r14) (.region Reader_one_r15)) (.seq (.seq (.region Reader_one_r16) (.cond (.tmp 59) (.skip) (.region Reader_one_r17))) (.cond (.tmp 59) (.region Reader_one_r18) (.seq (.seq (.region Reader_one_r19) (.cond (.tmp 65) (.skip) (.seq (.region Reader_one_r20) (.cond (.tmp 65) (.skip) (.seq (.region Reader_one_r21) (.cond (.tmp 65) (.skip) (.region Reader_one_r22))))))) (.cond (.tmp 65) (.region Reader_one_r23) (.region Reader_one_r24))))))))))))) (.seq (.region Reader_one_r25) (.ret)))))
def Reader_one_go := @goVc Try.prog _ _ Reader_one.eq_1
theorem Reader_one_calls {args : List Value} {h : Heap} {R : Value → Heap → Prop} (hl : args.length = 1) (hv : Cd.vc Try.prog Reader_one (retQ Try.prog [(2, some 76)] R) (initEnv args [0, 2, 3, 4, 6, 7, 17, 21, 35, 39, 46, 59, 65]) h) : HCalls Try.prog 78 args.toArray h R :=
  hcalls_of_vc (by kernel_rfl) Try.func78 (cd := Reader_one) (L := [0, 2, 3, 4, 6, 7, 17, 21, 35, 39, 46, 59, 65]) (by kernel_rfl) (by kernel_rfl) ⟨by rw [hl, Try.ntmps78]; decide, by rw [Try.ntmps78]; decide⟩ hv
def Reader_one_gos := And.intro @Reader_one_go (And.intro @Reader_one_r0_go (And.intro @Reader_one_r1_go (And.intro @Reader_one_r2_go (And.intro @Reader_one_r3_go (And.intro @Reader_one_r4_go (And.intro @Reader_one_r5_go (And.intro @Reader_one_r6_go (And.intro @Reader_one_r7_go (And.intro @Reader_one_r8_go (And.intro @Reader_one_r9_go (And.intro @Reader_one_r10_go (And.intro @Reader_one_r11_go (And.intro @Reader_one_r12_go (And.intro @Reader_one_r13_go (And.intro @Reader_one_r14_go (And.intro @Reader_one_r15_go (And.intro @Reader_one_r16_go (And.intro @Reader_one_r17_go (And.intro @Reader_one_r18_go (And.intro @Reader_one_r19_go (And.intro @Reader_one_r20_go (And.intro @Reader_one_r21_go (And.intro @Reader_one_r22_go (And.intro @Reader_one_r23_go (And.intro @Reader_one_r24_go (@Reader_one_r25_go))))))))))))))))))))))))))

/-! jvmcore/jvmcoreref1.Read: function 60: slots [0, 2, 3, 4, 5, 6, 7, 8, 9, 10, 11, 12, 13, 15, 18, 26, 32, 36, 47, 57, 70, 81, 91, 111, 113, 121, 139, 147] -/
def ref1_Read_r0 : List Sop := [
  ⟨some (2, true), .assign (.const (.slice none 0 0)), 22, none, true⟩,
  ⟨some (3, true), .assign (.const (.int .i64 0)), 3, none, true⟩,
  ⟨some (4, true), .assign (.const (.int .i64 0)), 27, none, true⟩,
  ⟨some (5, true), .assign (.const (.int .i64 0)), 3, none, true⟩]
def ref1_Read_r0_go := @goOps Try.prog _ _ ref1_Read_r0.eq_1
def ref1_Read_r1 : List Sop := [
  ⟨some (16, false), .move (.tmp 0), 9, none, true⟩,
  ⟨some (17, false), .call { callee := .builtin .len, args := #[.tmp 16], argTypes := #[9] }, 3, none, true⟩,
  ⟨some (18, true), .binOp .lss 3 (.tmp 17) (.const (.int .i64 2)) 3, 4, none, true⟩]
def ref1_Read_r1_go := @goOps Try.prog _ _ ref1_Read_r1.eq_1
def ref1_Read_r2 : List Sop := [
  ⟨some (19, false), .move (.tmp 0), 9, none, true⟩,
  ⟨some (20, false), .call { callee := .builtin .len, args := #[.tmp 19], argTypes := #[9] }, 3, none, true⟩,
  ⟨some (2, true), .assign (.const (.slice none 0 0)), 22, none, true⟩,
  ⟨some (3, true), .assign (.const (.int .i64 0)), 3, none, true⟩,
  ⟨some (4, true), .assign (.const (.int .i64 1)), 27, none, true⟩,
  ⟨some (5, true), .assign (.tmp 20), 3, none, true⟩]
def ref1_Read_r2_go := @goOps Try.prog _ _ ref1_Read_r2.eq_1
def ref1_Read_r3 : List Sop := [
  ⟨some (21, false), .move (.tmp 0), 9, none, true⟩,
  ⟨some (22, false), .slice 9 (.tmp 21) none (some (.const (.int .i64 2))) none, 9, none, true⟩,
  ⟨some (23, false), .call { callee := .value (.func 67), args := #[.tmp 22], argTypes := #[9] }, 74, none, false⟩,
  ⟨some (24, false), .convert 74 3 (.tmp 23), 3, none, true⟩,
  ⟨some (6, true), .assign (.tmp 24), 3, none, true⟩]
def ref1_Read_r3_go := @goOps Try.prog _ _ ref1_Read_r3.eq_1
def ref1_Read_r4 : List Sop := [
  ⟨some (25, false), .move (.tmp 6), 3, none, true⟩,
  ⟨some (26, true), .binOp .eql 3 (.tmp 25) (.const (.int .i64 0)) 3, 4, none, true⟩]
def ref1_Read_r4_go := @goOps Try.prog _ _ ref1_Read_r4.eq_1
def ref1_Read_r5 : List Sop := [
  ⟨some (2, true), .assign (.const (.slice none 0 0)), 22, none, true⟩,
  ⟨some (3, true), .assign (.const (.int .i64 0)), 3, none, true⟩,
  ⟨some (4, true), .assign (.const (.int .i64 12)), 27, none, true⟩,
  ⟨some (5, true), .assign (.const (.int .i64 0)), 3, none, true⟩]
def ref1_Read_r5_go := @goOps Try.prog _ _ ref1_Read_r5.eq_1
def ref1_Read_r6 : List Sop := [
  ⟨some (27, false), .build 76 #[], 76, none, true⟩,
  ⟨some (28, false), .buildSlice 22 1 #[(0, .tmp 27)], 22, none, false⟩,
  ⟨some (7, true), .assign (.tmp 28), 22, none, true⟩]
def ref1_Read_r6_go := @goOps Try.prog _ _ ref1_Read_r6.eq_1
def ref1_Read_r7 : List Sop := [
  ⟨some (8, true), .assign (.const (.int .i64 2)), 3, none, true⟩]
def ref1_Read_r7_go := @goOps Try.prog _ _ ref1_Read_r7.eq_1
def ref1_Read_r8 : List Sop := [
  ⟨some (29, false), .move (.tmp 7), 22, none, true⟩,
  ⟨some (30, false), .call { callee := .builtin .len, args := #[.tmp 29], argTypes := #[22] }, 3, none, true⟩,
  ⟨some (31, false), .move (.tmp 6), 3, none, true⟩,
  ⟨some (32, true), .binOp .lss 3 (.tmp 30) (.tmp 31) 3, 4, none, true⟩]
def ref1_Read_r8_go := @goOps Try.prog _ _ ref1_Read_r8.eq_1
def ref1_Read_r9 : List Sop := [
  ⟨some (33, false), .move (.tmp 8), 3, none, true⟩,
  ⟨some (34, false), .move (.tmp 0), 9, none, true⟩,
  ⟨some (35, false), .call { callee := .builtin .len, args := #[.tmp 34], argTypes := #[9] }, 3, none, true⟩,
  ⟨some (36, true), .binOp .geq 3 (.tmp 33) (.tmp 35) 3, 4, none, true⟩]
def ref1_Read_r9_go := @goOps Try.prog _ _ ref1_Read_r9.eq_1
def ref1_Read_r10 : List Sop := [
  ⟨some (37, false), .move (.tmp 0), 9, none, true⟩,
  ⟨some (38, false), .call { callee := .builtin .len, args := #[.tmp 37], argTypes := #[9] }, 3, none, true⟩,
  ⟨some (2, true), .assign (.const (.slice none 0 0)), 22, none, true⟩,
  ⟨some (3, true), .assign (.const (.int .i64 0)), 3, none, true⟩,
  ⟨some (4, true), .assign (.const (.int .i64 1)), 27, none, true⟩,
  ⟨some (5, true), .assign (.tmp 38), 3, none, true⟩]
def ref1_Read_r10_go := @goOps Try.prog _ _ ref1_Read_r10.eq_1
def ref1_Read_r11 : List Sop := [
  ⟨some (39, false), .move (.tmp 0), 9, none, true⟩,
  ⟨some (40, false), .move (.tmp 8), 3, none, true⟩,
  ⟨some (41, false), .index 9 (.tmp 39) (.tmp 40), 5, none, true⟩,
  ⟨some (42, false), .build 76 #[(0, .tmp 41)], 76, none, true⟩,
  ⟨some (9, true), .alloc 76, 0, none, false⟩,
  ⟨none, .store 76 (.tmp 9) (.tmp 42), 0, none, false⟩]
def ref1_Read_r11_go := @goOps Try.prog _ _ ref1_Read_r11.eq_1
def ref1_Read_r12 : List Sop := [
  ⟨some (43, false), .fieldAddr 76 (.tmp 9) 0, 0, none, true⟩,
  ⟨some (44, false), .load 5 (.tmp 43), 5, none, true⟩,
  ⟨some (45, false), .call { callee := .value (.func 76), args := #[.tmp 44], argTypes := #[5] }, 3, none, false⟩,
  ⟨some (10, true), .assign (.tmp 45), 3, none, true⟩]
def ref1_Read_r12_go := @goOps Try.prog _ _ ref1_Read_r12.eq_1
def ref1_Read_r13 : List Sop := [
  ⟨some (46, false), .move (.tmp 10), 3, none, true⟩,
  ⟨some (47, true), .binOp .lss 3 (.tmp 46) (.const (.int .i64 0)) 3, 4, none, true⟩]
def ref1_Read_r13_go := @goOps Try.prog _ _ ref1_Read_r13.eq_1
def ref1_Read_r14 : List Sop := [
  ⟨some (48, false), .move (.tmp 8), 3, none, true⟩,
  ⟨some (2, true), .assign (.const (.slice none 0 0)), 22, none, true⟩,
  ⟨some (3, true), .assign (.const (.int .i64 0)), 3, none, true⟩,
  ⟨some (4, true), .assign (.const (.int .i64 5)), 27, none, true⟩,
  ⟨some (5, true), .assign (.tmp 48), 3, none, true⟩]
def ref1_Read_r14_go := @goOps Try.prog _ _ ref1_Read_r14.eq_1
def ref1_Read_r15 : List Sop := [
  ⟨some (49, false), .move (.tmp 8), 3, none, true⟩,
  ⟨some (11, true), .assign (.tmp 49), 3, none, true⟩]
def ref1_Read_r15_go := @goOps Try.prog _ _ ref1_Read_r15.eq_1
def ref1_Read_r16 : List Sop := [
  ⟨some (50, false), .move (.tmp 8), 3, none, true⟩,
  ⟨some (51, false), .binOp .add 3 (.tmp 50) (.const (.int .i64 1)) 3, 3, none, true⟩,
  ⟨some (8, true), .assign (.tmp 51), 3, none, true⟩]
def ref1_Read_r16_go := @goOps Try.prog _ _ ref1_Read_r16.eq_1
def ref1_Read_r17 : List Sop := [
  ⟨some (52, false), .move (.tmp 8), 3, none, true⟩,
  ⟨some (53, false), .move (.tmp 10), 3, none, true⟩,
  ⟨some (54, false), .binOp .add 3 (.tmp 52) (.tmp 53) 3, 3, none, true⟩,
  ⟨some (55, false), .move (.tmp 0), 9, none, true⟩,
  ⟨some (56, false), .call { callee := .builtin .len, args := #[.tmp 55], argTypes := #[9] }, 3, none, true⟩,
  ⟨some (57, true), .binOp .gtr 3 (.tmp 54) (.tmp 56) 3, 4, none, true⟩]
def ref1_Read_r17_go := @goOps Try.prog _ _ ref1_Read_r17.eq_1
def ref1_Read_r18 : List Sop := [
  ⟨some (58, false), .move (.tmp 0), 9, none, true⟩,
  ⟨some (59, false), .call { callee := .builtin .len, args := #[.tmp 58], argTypes := #[9] }, 3, none, true⟩,
  ⟨some (2, true), .assign (.const (.slice none 0 0)), 22, none, true⟩,
  ⟨some (3, true), .assign (.const (.int .i64 0)), 3, none, true⟩,
  ⟨some (4, true), .assign (.const (.int .i64 1)), 27, none, true⟩,
  ⟨some (5, true), .assign (.tmp 59), 3, none, true⟩]
def ref1_Read_r18_go := @goOps Try.prog _ _ ref1_Read_r18.eq_1
def ref1_Read_r19 : List Sop := [
  ⟨some (60, false), .move (.tmp 0), 9, none, true⟩,
  ⟨some (61, false), .move (.tmp 8), 3, none, true⟩,
  ⟨some (62, false), .move (.tmp 8), 3, none, true⟩,
  ⟨some (63, false), .move (.tmp 10), 3, none, true⟩,
  ⟨some (64, false), .binOp .add 3 (.tmp 62) (.tmp 63) 3, 3, none, true⟩,
  ⟨some (65, false), .slice 9 (.tmp 60) (some (.tmp 61)) (some (.tmp 64)) none, 9, none, true⟩,
  ⟨some (12, true), .assign (.tmp 65), 9, none, true⟩]
def ref1_Read_r19_go := @goOps Try.prog _ _ ref1_Read_r19.eq_1
def ref1_Read_r20 : List Sop := [
  ⟨some (66, false), .move (.tmp 8), 3, none, true⟩,
  ⟨some (67, false), .move (.tmp 10), 3, none, true⟩,
  ⟨some (68, false), .binOp .add 3 (.tmp 66) (.tmp 67) 3, 3, none, true⟩,
  ⟨some (8, true), .assign (.tmp 68), 3, none, true⟩]
def ref1_Read_r20_go := @goOps Try.prog _ _ ref1_Read_r20.eq_1
def ref1_Read_r21 : List Sop := [
  ⟨some (69, false), .fieldAddr 76 (.tmp 9) 0, 0, none, true⟩,
  ⟨some (70, true), .load 5 (.tmp 69), 5, none, true⟩]
def ref1_Read_r21_go := @goOps Try.prog _ _ ref1_Read_r21.eq_1
def ref1_Read_r22 : List Sop := [
  ⟨some (82, false), .binOp .eql 5 (.tmp 70) (.const (.int .u8 1)) 5, 4, none, true⟩,
  ⟨some (81, true), .assign (.tmp 82), 4, none, true⟩]
def ref1_Read_r22_go := @goOps Try.prog _ _ ref1_Read_r22.eq_1
def ref1_Read_r23 : List Sop := [
  ⟨some (83, false), .move (.tmp 12), 9, none, true⟩,
  ⟨some (84, false), .call { callee := .value (.func 67), args := #[.tmp 83], argTypes := #[9] }, 74, none, false⟩,
  ⟨some (85, false), .convert 74 3 (.tmp 84), 3, none, true⟩,
  ⟨some (13, true), .assign (.tmp 85), 3, none, true⟩]
def ref1_Read_r23_go := @goOps Try.prog _ _ ref1_Read_r23.eq_1
def ref1_Read_r24 : List Sop := [
  ⟨some (86, false), .move (.tmp 8), 3, none, true⟩,
  ⟨some (87, false), .move (.tmp 13), 3, none, true⟩,
  ⟨some (88, false), .binOp .add 3 (.tmp 86) (.tmp 87) 3, 3, none, true⟩,
  ⟨some (89, false), .move (.tmp 0), 9, none, true⟩,
  ⟨some (90, false), .call { callee := .builtin .len, args := #[.tmp 89], argTypes := #[9] }, 3, none, true⟩,
  ⟨some (91, true), .binOp .gtr 3 (.tmp 88) (.tmp 90) 3, 4, none, true⟩]
def ref1_Read_r24_go := @goOps Try.prog _ _ ref1_Read_r24.eq_1
def ref1_Read_r25 : List Sop := [
  ⟨some (92, false), .move (.tmp 0), 9, none, true⟩,
  ⟨some (93, false), .call { callee := .builtin .len, args := #[.tmp 92], argTypes := #[9] }, 3, none, true⟩,
  ⟨some (2, true), .assign (.const (.slice none 0 0)), 22, none, true⟩,
  ⟨some (3, true), .assign (.const (.int .i64 0)), 3, none, true⟩,
  ⟨some (4, true), .assign (.const (.int .i64 1)), 27, none, true⟩,
  ⟨some (5, true), .assign (.tmp 93), 3, none, true⟩]
def ref1_Read_r25_go := @goOps Try.prog _ _ ref1_Read_r25.eq_1
def ref1_Read_r26 : List Sop := [
  ⟨some (94, false), .move (.tmp 0), 9, none, true⟩,
  ⟨some (95, false), .move (.tmp 8), 3, none, true⟩,
  ⟨some (96, false), .move (.tmp 8), 3, none, true⟩,
  ⟨some (97, false), .move (.tmp 13), 3, none, true⟩,
  ⟨some (98, false), .binOp .add 3 (.tmp 96) (.tmp 97) 3, 3, none, true⟩,
  ⟨some (99, false), .slice 9 (.tmp 94) (some (.tmp 95)) (some (.tmp 98)) none, 9, none, true⟩,
  ⟨some (100, false), .fieldAddr 76 (.tmp 9) 1, 0, none, true⟩,
  ⟨none, .store 9 (.tmp 100) (.tmp 99), 0, none, false⟩]
def ref1_Read_r26_go := @goOps Try.prog _ _ ref1_Read_r26.eq_1
def ref1_Read_r27 : List Sop := [
  ⟨some (101, false), .move (.tmp 8), 3, none, true⟩,
  ⟨some (102, false), .move (.tmp 13), 3, none, true⟩,
  ⟨some (103, false), .binOp .add 3 (.tmp 101) (.tmp 102) 3, 3, none, true⟩,
  ⟨some (8, true), .assign (.tmp 103), 3, none, true⟩]
def ref1_Read_r27_go := @goOps Try.prog _ _ ref1_Read_r27.eq_1
def ref1_Read_r28 : List Sop := [
  ⟨some (105, false), .fieldAddr 76 (.tmp 9) 1, 0, none, true⟩,
  ⟨some (106, false), .load 9 (.tmp 105), 9, none, true⟩,
  ⟨some (107, false), .call { callee := .value (.func 77), args := #[.tmp 106], argTypes := #[9] }, 135, none, false⟩,
  ⟨some (104, false), .move (.tmp 107), 135, none, true⟩,
  ⟨some (108, false), .extract (.tmp 104) 0, 134, none, true⟩,
  ⟨some (109, false), .extract (.tmp 104) 1, 4, none, true⟩,
  ⟨some (14, false), .assign (.tmp 108), 134, none, true⟩,
  ⟨some (15, true), .assign (.tmp 109), 4, none, true⟩]
def ref1_Read_r28_go := @goOps Try.prog _ _ ref1_Read_r28.eq_1
def ref1_Read_r29 : List Sop := [
  ⟨some (110, false), .move (.tmp 15), 4, none, true⟩,
  ⟨some (111, true), .unOp .not 4 (.tmp 110), 4, none, true⟩]
def ref1_Read_r29_go := @goOps Try.prog _ _ ref1_Read_r29.eq_1
def ref1_Read_r30 : List Sop := [
  ⟨some (112, false), .move (.tmp 11), 3, none, true⟩,
  ⟨some (2, true), .assign (.const (.slice none 0 0)), 22, none, true⟩,
  ⟨some (3, true), .assign (.const (.int .i64 0)), 3, none, true⟩,
  ⟨some (4, true), .assign (.const (.int .i64 6)), 27, none, true⟩,
  ⟨some (5, true), .assign (.tmp 112), 3, none, true⟩]
def ref1_Read_r30_go := @goOps Try.prog _ _ ref1_Read_r30.eq_1
def ref1_Read_r31 : List Sop := [
  ⟨some (114, false), .binOp .eql 5 (.tmp 70) (.const (.int .u8 3)) 5, 4, none, true⟩,
  ⟨some (113, true), .assign (.tmp 114), 4, none, true⟩]
def ref1_Read_r31_go := @goOps Try.prog _ _ ref1_Read_r31.eq_1
def ref1_Read_r32 : List Sop := [
  ⟨some (115, false), .binOp .eql 5 (.tmp 70) (.const (.int .u8 4)) 5, 4, none, true⟩,
  ⟨some (113, true), .assign (.tmp 115), 4, none, true⟩]
def ref1_Read_r32_go := @goOps Try.prog _ _ ref1_Read_r32.eq_1
def ref1_Read_r33 : List Sop := [
  ⟨some (116, false), .binOp .eql 5 (.tmp 70) (.const (.int .u8 5)) 5, 4, none, true⟩,
  ⟨some (113, true), .assign (.tmp 116), 4, none, true⟩]
def ref1_Read_r33_go := @goOps Try.prog _ _ ref1_Read_r33.eq_1
def ref1_Read_r34 : List Sop := [
  ⟨some (117, false), .binOp .eql 5 (.tmp 70) (.const (.int .u8 6)) 5, 4, none, true⟩,
  ⟨some (113, true), .assign (.tmp 117), 4, none, true⟩]
def ref1_Read_r34_go := @goOps Try.prog _ _ ref1_Read_r34.eq_1
def ref1_Read_r35 : List Sop := [
  ⟨some (118, false), .move (.tmp 12), 9, none, true⟩,
  ⟨some (119, false), .call { callee := .value (.func 67), args := #[.tmp 118], argTypes := #[9] }, 74, none, false⟩,
  ⟨some (120, false), .fieldAddr 76 (.tmp 9) 2, 0, none, true⟩,
  ⟨none, .store 74 (.tmp 120) (.tmp 119), 0, none, false⟩]
def ref1_Read_r35_go := @goOps Try.prog _ _ ref1_Read_r35.eq_1
def ref1_Read_r36 : List Sop := [
  ⟨some (122, false), .binOp .eql 5 (.tmp 70) (.const (.int .u8 7)) 5, 4, none, true⟩,
  ⟨some (121, true), .assign (.tmp 122), 4, none, true⟩]
def ref1_Read_r36_go := @goOps Try.prog _ _ ref1_Read_r36.eq_1
def ref1_Read_r37 : List Sop := [
  ⟨some (123, false), .binOp .eql 5 (.tmp 70) (.const (.int .u8 8)) 5, 4, none, true⟩,
  ⟨some (121, true), .assign (.tmp 123), 4, none, true⟩]
def ref1_Read_r37_go := @goOps Try.prog _ _ ref1_Read_r37.eq_1
def ref1_Read_r38 : List Sop := [
  ⟨some (124, false), .move (.tmp 12), 9, none, true⟩,
  ⟨some (125, false), .call { callee := .value (.func 67), args := #[.tmp 124], argTypes := #[9] }, 74, none, false⟩,
  ⟨some (126, false), .convert 74 38 (.tmp 125), 38, none, true⟩,
  ⟨some (127, false), .fieldAddr 76 (.tmp 9) 3, 0, none, true⟩,
  ⟨none, .store 38 (.tmp 127) (.tmp 126), 0, none, false⟩]
def ref1_Read_r38_go := @goOps Try.prog _ _ ref1_Read_r38.eq_1
def ref1_Read_r39 : List Sop := [
  ⟨some (71, false), .move (.tmp 12), 9, none, true⟩,
  ⟨some (72, false), .slice 9 (.tmp 71) none (some (.const (.int .i64 2))) none, 9, none, true⟩,
  ⟨some (73, false), .call { callee := .value (.func 67), args := #[.tmp 72], argTypes := #[9] }, 74, none, false⟩,
  ⟨some (74, false), .convert 74 38 (.tmp 73), 38, none, true⟩,
  ⟨some (75, false), .fieldAddr 76 (.tmp 9) 3, 0, none, true⟩,
  ⟨none, .store 38 (.tmp 75) (.tmp 74), 0, none, false⟩]
def ref1_Read_r39_go := @goOps Try.prog _ _ ref1_Read_r39.eq_1
def ref1_Read_r40 : List Sop := [
  ⟨some (76, false), .move (.tmp 12), 9, none, true⟩,
  ⟨some (77, false), .slice 9 (.tmp 76) (some (.const (.int .i64 2))) none none, 9, none, true⟩,
  ⟨some (78, false), .call { callee := .value (.func 67), args := #[.tmp 77], argTypes := #[9] }, 74, none, false⟩,
  ⟨some (79, false), .convert 74 38 (.tmp 78), 38, none, true⟩,
  ⟨some (80, false), .fieldAddr 76 (.tmp 9) 4, 0, none, true⟩,
  ⟨none, .store 38 (.tmp 80) (.tmp 79), 0, none, false⟩]
def ref1_Read_r40_go := @goOps Try.prog _ _ ref1_Read_r40.eq_1
def ref1_Read_r41 : List Sop := [
  ⟨some (128, false), .move (.tmp 7), 22, none, true⟩,
  ⟨some (129, false), .load 76 (.tmp 9), 76, none, true⟩,
  ⟨some (130, false), .buildSlice 22 1 #[(0, .tmp 129)], 22, none, false⟩,
  ⟨some (131, false), .call { callee := .builtin .append, args := #[.tmp 128, .tmp 130], argTypes := #[22, 22] }, 22, none, false⟩,
  ⟨some (7, true), .assign (.tmp 131), 22, none, true⟩]
def ref1_Read_r41_go := @goOps Try.prog _ _ ref1_Read_r41.eq_1
def ref1_Read_r42 : List Sop := [
  ⟨some (132, false), .fieldAddr 76 (.tmp 9) 0, 0, none, true⟩,
  ⟨some (133, false), .load 5 (.tmp 132), 5, none, true⟩,
  ⟨some (134, false), .binOp .eql 5 (.tmp 133) (.const (.int .u8 5)) 5, 4, none, true⟩,
  ⟨some (135, false), .move (.tmp 134), 4, none, true⟩,
  ⟨some (136, false), .fieldAddr 76 (.tmp 9) 0, 0, some (135, false), true⟩,
  ⟨some (137, false), .load 5 (.tmp 136), 5, some (135, false), true⟩,
  ⟨some (138, false), .binOp .eql 5 (.tmp 137) (.const (.int .u8 6)) 5, 4, some (135, false), true⟩,
  ⟨some (139, true), .pick (.tmp 135) (.const (.bool true)) (.tmp 138), 4, none, true⟩]
def ref1_Read_r42_go := @goOps Try.prog _ _ ref1_Read_r42.eq_1
def ref1_Read_r43 : List Sop := [
  ⟨some (140, false), .move (.tmp 7), 22, none, true⟩,
  ⟨some (141, false), .build 76 #[], 76, none, true⟩,
  ⟨some (142, false), .buildSlice 22 1 #[(0, .tmp 141)], 22, none, false⟩,
  ⟨some (143, false), .call { callee := .builtin .append, args := #[.tmp 140, .tmp 142], argTypes := #[22, 22] }, 22, none, false⟩,
  ⟨some (7, true), .assign (.tmp 143), 22, none, true⟩]
def ref1_Read_r43_go := @goOps Try.prog _ _ ref1_Read_r43.eq_1
def ref1_Read_r44 : List Sop := [
  ⟨some (144, false), .move (.tmp 7), 22, none, true⟩,
  ⟨some (145, false), .call { callee := .builtin .len, args := #[.tmp 144], argTypes := #[22] }, 3, none, true⟩,
  ⟨some (146, false), .move (.tmp 6), 3, none, true⟩,
  ⟨some (147, true), .binOp .gtr 3 (.tmp 145) (.tmp 146) 3, 4, none, true⟩]
def ref1_Read_r44_go := @goOps Try.prog _ _ ref1_Read_r44.eq_1
def ref1_Read_r45 : List Sop := [
  ⟨some (148, false), .move (.tmp 11), 3, none, true⟩,
  ⟨some (2, true), .assign (.const (.slice none 0 0)), 22, none, true⟩,
  ⟨some (3, true), .assign (.const (.int .i64 0)), 3, none, true⟩,
  ⟨some (4, true), .assign (.const (.int .i64 12)), 27, none, true⟩,
  ⟨some (5, true), .assign (.tmp 148), 3, none, true⟩]
def ref1_Read_r45_go := @goOps Try.prog _ _ ref1_Read_r45.eq_1
def ref1_Read_r46 : List Sop := [
  ⟨some (149, false), .move (.tmp 7), 22, none, true⟩,
  ⟨some (150, false), .move (.tmp 8), 3, none, true⟩,
  ⟨some (2, true), .assign (.tmp 149), 22, none, true⟩,
  ⟨some (3, true), .assign (.tmp 150), 3, none, true⟩,
  ⟨some (4, true), .assign (.const (.int .i64 0)), 27, none, true⟩,
  ⟨some (5, true), .assign (.const (.int .i64 0)), 3, none, true⟩]
def ref1_Read_r46_go := @goOps Try.prog _ _ ref1_Read_r46.eq_1
def ref1_Read_l0 : Cd := .seq (.seq (.region ref1_Read_r8) (.cond (.tmp 32) (.skip) (.exit 0))) (.block 1 (.seq (.seq (.region ref1_Read_r9) (.cond (.tmp 36) (.seq (.region ref1_Read_r10) (.ret)) (.skip))) (.seq (.region ref1_Read_r11) (.seq (.region ref1_Read_r12) (.seq (.seq (.region ref1_Read_r13) (.cond (.tmp 47) (.seq (.region ref1_Read_r14) (.ret)) (.skip))) (.seq (.region ref1_Read_r15) (.seq (.region ref1_Read_r16) (.seq (.seq (.region ref1_Read_r17) (.cond (.tmp 57) (.seq (.region ref1_Read_r18) (.ret)) (.skip))) (.seq (.region ref1_Read_r19) (.seq (.region ref1_Read_r20) (.seq (.seq (.region ref1_Read_r21) (.block 2 (.seq (.region ref1_Read_r22) (.cond (.tmp 81) (.seq (.region ref1_Read_r23) (.seq (.seq (.region ref1_Read_r24) (.cond (.tmp 91) (.seq (.region ref1_Read_r25) (.ret)) (.skip))) (.seq (.region ref1_Read_r26) (.seq (.region ref1_Read_r27) (.seq (.region ref1_Read_r28) (.seq (.region ref1_Read_r29) (.cond (.tmp 111) (.seq (.region ref1_Read_r30) (.ret)) (.skip)))))))) (.seq (.seq (.region ref1_Read_r31) (.cond (.tmp 113) (.skip) (.seq (.region ref1_Read_r32) (.cond (.tmp 113) (.skip) (.seq (.region ref1_Read_r33) (.cond (.tmp 113) (.skip) (.region ref1_Read_r34))))))) (.cond (.tmp 113) (.region ref1_Read_r35) (.seq (.seq (.region ref1_Read_r36) (.cond (.tmp 121) (.skip) (.region ref1_Read_r37))) (.cond (.tmp 121) (.region ref1_Read_r38) (.seq (.region ref1_Read_r39) (.region ref1_Read_r40)))))))))) (.seq (.region ref1_Read_r41) (.seq (.region ref1_Read_r42) (.cond (.tmp 139) (.seq (.region ref1_Read_r43) (.seq (.region ref1_Read_r44) (.cond (.tmp 147) (.seq (.region ref1_Read_r45) (.ret)) (.skip)))) (.skip)))))))))))))))
def ref1_Read_l0_go := @goVc Try.prog _ _ ref1_Read_l0.eq_1
def ref1_Read : Cd := .seq (.region ref1_Read_r0) (.seq (.seq (.region ref1_Read_r1) (.cond (.tmp 18) (.seq (.region ref1_Read_r2) (.ret)) (.skip))) (.seq (.region ref1_Read_r3) (.seq (.seq (.region ref1_Read_r4) (.cond (.tmp 26) (.seq (.region ref1_Read_r5) (.ret)) (.skip))) (.seq (.region ref1_Read_r6) (.seq (.region ref1_Read_r7) (.seq (.block 0 (.loop ref1_Read_l0)) (.seq (.region ref1_Read_r46) (.ret))))))))
def ref1_Read_go := @goVc Try.prog _ _ ref1_Read.eq_1
theorem ref1_Read_calls {args : List Value} {h : Heap} {R : Value → Heap → Prop} (hl : args.length = 1) (hv : Cd.vc Try.prog ref1_Read (retQ Try.prog [(2, none), (3, none), (4, none), (5, none)] R) (initEnv args [0, 2, 3, 4, 5, 6, 7, 8, 9, 10, 11, 12, 13, 15, 18, 26, 32, 36, 47, 57, 70, 81, 91, 111, 113, 121, 139, 147]) h) : HCalls Try.prog 60 args.toArray h R :=
  hcalls_of_vc (by kernel_rfl) Try.func60 (cd := ref1_Read) (L := [0, 2, 3, 4, 5, 6, 7, 8, 9, 10, 11, 12, 13, 15, 18, 26, 32, 36, 47, 57, 70, 81, 91, 111, 113, 121, 139, 147]) (by kernel_rfl) (by kernel_rfl) ⟨by rw [hl, Try.ntmps60]; decide, by rw [Try.ntmps60]; decide⟩ hv
def ref1_Read_gos := And.intro @ref1_Read_go (And.intro @ref1_Read_r0_go (And.intro @ref1_Read_r1_go (And.intro @ref1_Read_r2_go (And.intro @ref1_Read_r3_go (And.intro @ref1_Read_r4_go (And.intro @ref1_Read_r5_go (And.intro @ref1_Read_r6_go (And.intro @ref1_Read_r7_go (And.intro @ref1_Read_r8_go (And.intro @ref1_Read_r9_go (And.intro @ref1_Read_r10_go (And.intro @ref1_Read_r11_go (And.intro @ref1_Read_r12_go (And.intro @ref1_Read_r13_go (And.intro @ref1_Read_r14_go (And.intro @ref1_Read_r15_go (And.intro @ref1_Read_r16_go (And.intro @ref1_Read_r17_go (And.intro @ref1_Read_r18_go (And.intro @ref1_Read_r19_go (And.intro @ref1_Read_r20_go (And.intro @ref1_Read_r21_go (And.intro @ref1_Read_r22_go (And.intro @ref1_Read_r23_go (And.intro @ref1_Read_r24_go (And.intro @ref1_Read_r25_go (And.intro @ref1_Read_r26_go (And.intro @ref1_Read_r27_go (And.intro @ref1_Read_r28_go (And.intro @ref1_Read_r29_go (And.intro @ref1_Read_r30_go (And.intro @ref1_Read_r31_go (And.intro @ref1_Read_r32_go (And.intro @ref1_Read_r33_go (And.intro @ref1_Read_r34_go (And.intro @ref1_Read_r35_go (And.intro @ref1_Read_r36_go (And.intro @ref1_Read_r37_go (And.intro @ref1_Read_r38_go (And.intro @ref1_Read_r39_go (And.intro @ref1_Read_r40_go (And.intro @ref1_Read_r41_go (And.intro @ref1_Read_r42_go (And.intro @ref1_Read_r43_go (And.intro @ref1_Read_r44_go (And.intro @ref1_Read_r45_go (And.intro @ref1_Read_r46_go (@ref1_Read_l0_go))))))))))))))))))))))))))))))))))))))))))))))))

end Go.Proofs.Ytohkbpnblkkdgaa.C
