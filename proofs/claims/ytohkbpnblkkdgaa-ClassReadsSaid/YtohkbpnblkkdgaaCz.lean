/- The stripped code of some functions of this seat's program, printed by a program; that it is that code is proved by the kernel. No condition. -/

import Derived.Test.YtohkbpnblkkdgaaProg

import Derived.Test.YtohkbpnblkkdgaaVcJ

set_option maxRecDepth 100000

set_option linter.defProp false

namespace Go.Proofs.Ytohkbpnblkkdgaa.C

open Go.Vc

/-! (*jvmcore/class.reader).attributes: function 56: slots [0, 1, 4, 5, 6, 7, 8, 23, 43, 64, 76, 91] -/
def cr_attributes_r0 : List Sop := [
  ⟨some (9, false), .move (.tmp 0), 100, none, true⟩,
  ⟨some (10, false), .nilCheck (.tmp 9), 0, none, true⟩,
  ⟨some (11, false), .fieldAddr 102 (.tmp 10) 0, 0, none, true⟩,
  ⟨some (12, false), .load 54 (.tmp 11), 54, none, true⟩,
  ⟨some (13, false), .call { callee := .value (.func 23), args := #[.tmp 12, .const (.int .i64 2)], argTypes := #[54, 3] }, 3, none, false⟩,
  ⟨some (4, true), .assign (.tmp 13), 3, none, true⟩]
def cr_attributes_r0_go := @goOps Try.prog _ _ cr_attributes_r0.eq_1
def cr_attributes_r1 : List Sop := [
  ⟨some (14, false), .move (.tmp 4), 3, none, true⟩,
  ⟨some (15, false), .binOp .gtr 3 (.tmp 14) (.const (.int .i64 0)) 3, 4, none, true⟩,
  ⟨some (16, false), .move (.tmp 15), 4, none, true⟩,
  ⟨some (17, false), .move (.tmp 0), 100, some (16, true), true⟩,
  ⟨some (18, false), .nilCheck (.tmp 17), 0, some (16, true), true⟩,
  ⟨some (19, false), .fieldAddr 102 (.tmp 18) 0, 0, some (16, true), true⟩,
  ⟨some (20, false), .load 54 (.tmp 19), 54, some (16, true), true⟩,
  ⟨some (21, false), .call { callee := .value (.func 25), args := #[.tmp 20], argTypes := #[54] }, 4, some (16, true), false⟩,
  ⟨some (22, false), .unOp .not 4 (.tmp 21), 4, some (16, true), true⟩,
  ⟨some (23, true), .pick (.tmp 16) (.tmp 22) (.const (.bool false)), 4, none, true⟩]
def cr_attributes_r1_go := @goOps Try.prog _ _ cr_attributes_r1.eq_1
def cr_attributes_r2 : List Sop := [
  ⟨some (26, false), .move (.tmp 0), 100, none, true⟩,
  ⟨some (27, false), .nilCheck (.tmp 26), 0, none, true⟩,
  ⟨some (28, false), .fieldAddr 102 (.tmp 27) 0, 0, none, true⟩,
  ⟨some (29, false), .load 54 (.tmp 28), 54, none, true⟩,
  ⟨some (30, false), .call { callee := .value (.func 29), args := #[.tmp 29], argTypes := #[54] }, 3, none, false⟩,
  ⟨some (5, true), .assign (.tmp 30), 3, none, true⟩]
def cr_attributes_r2_go := @goOps Try.prog _ _ cr_attributes_r2.eq_1
def cr_attributes_r3 : List Sop := [
  ⟨some (31, false), .move (.tmp 0), 100, none, true⟩,
  ⟨some (32, false), .nilCheck (.tmp 31), 0, none, true⟩,
  ⟨some (33, false), .fieldAddr 102 (.tmp 32) 0, 0, none, true⟩,
  ⟨some (34, false), .load 54 (.tmp 33), 54, none, true⟩,
  ⟨some (35, false), .call { callee := .value (.func 52), args := #[.tmp 34], argTypes := #[54] }, 38, none, false⟩,
  ⟨some (6, true), .assign (.tmp 35), 38, none, true⟩]
def cr_attributes_r3_go := @goOps Try.prog _ _ cr_attributes_r3.eq_1
def cr_attributes_r4 : List Sop := [
  ⟨some (36, false), .move (.tmp 0), 100, none, true⟩,
  ⟨some (37, false), .nilCheck (.tmp 36), 0, none, true⟩,
  ⟨some (38, false), .fieldAddr 102 (.tmp 37) 1, 0, none, true⟩,
  ⟨some (39, false), .fieldAddr 43 (.tmp 38) 5, 0, none, true⟩,
  ⟨some (40, false), .load 22 (.tmp 39), 22, none, true⟩,
  ⟨some (41, false), .move (.tmp 6), 38, none, true⟩,
  ⟨some (42, false), .call { callee := .value (.func 83), args := #[.tmp 40, .tmp 41, .const (.int .u8 1)], argTypes := #[22, 38, 5] }, 4, none, false⟩,
  ⟨some (43, true), .unOp .not 4 (.tmp 42), 4, none, true⟩]
def cr_attributes_r4_go := @goOps Try.prog _ _ cr_attributes_r4.eq_1
def cr_attributes_r5 : List Sop := [
  ⟨some (44, false), .move (.tmp 0), 100, none, true⟩,
  ⟨some (45, false), .nilCheck (.tmp 44), 0, none, true⟩,
  ⟨some (46, false), .fieldAddr 102 (.tmp 45) 0, 0, none, true⟩,
  ⟨some (47, false), .load 54 (.tmp 46), 54, none, true⟩,
  ⟨some (48, false), .move (.tmp 5), 3, none, true⟩,
  ⟨some (49, false), .call { callee := .value (.func 28), args := #[.tmp 47, .const (.int .i64 7), .tmp 48], argTypes := #[54, 27, 3] }, 0, none, false⟩]
def cr_attributes_r5_go := @goOps Try.prog _ _ cr_attributes_r5.eq_1
def cr_attributes_r6 : List Sop := [
  ⟨some (50, false), .move (.tmp 0), 100, none, true⟩,
  ⟨some (51, false), .nilCheck (.tmp 50), 0, none, true⟩,
  ⟨some (52, false), .fieldAddr 102 (.tmp 51) 0, 0, none, true⟩,
  ⟨some (53, false), .load 54 (.tmp 52), 54, none, true⟩,
  ⟨some (54, false), .call { callee := .value (.func 23), args := #[.tmp 53, .const (.int .i64 4)], argTypes := #[54, 3] }, 3, none, false⟩,
  ⟨some (7, true), .assign (.tmp 54), 3, none, true⟩]
def cr_attributes_r6_go := @goOps Try.prog _ _ cr_attributes_r6.eq_1
def cr_attributes_r7 : List Sop := [
  ⟨some (55, false), .move (.tmp 0), 100, none, true⟩,
  ⟨some (56, false), .nilCheck (.tmp 55), 0, none, true⟩,
  ⟨some (57, false), .fieldAddr 102 (.tmp 56) 0, 0, none, true⟩,
  ⟨some (58, false), .load 54 (.tmp 57), 54, none, true⟩,
  ⟨some (59, false), .call { callee := .value (.func 29), args := #[.tmp 58], argTypes := #[54] }, 3, none, false⟩,
  ⟨some (8, true), .assign (.tmp 59), 3, none, true⟩]
def cr_attributes_r7_go := @goOps Try.prog _ _ cr_attributes_r7.eq_1
def cr_attributes_r8 : List Sop := [
  ⟨some (60, false), .move (.tmp 0), 100, none, true⟩,
  ⟨some (61, false), .nilCheck (.tmp 60), 0, none, true⟩,
  ⟨some (62, false), .fieldAddr 102 (.tmp 61) 0, 0, none, true⟩,
  ⟨some (63, false), .load 54 (.tmp 62), 54, none, true⟩,
  ⟨some (64, true), .call { callee := .value (.func 25), args := #[.tmp 63], argTypes := #[54] }, 4, none, false⟩]
def cr_attributes_r8_go := @goOps Try.prog _ _ cr_attributes_r8.eq_1
def cr_attributes_r9 : List Sop := [
  ⟨some (65, false), .move (.tmp 1), 109, none, true⟩,
  ⟨some (66, false), .move (.tmp 0), 100, none, true⟩,
  ⟨some (67, false), .nilCheck (.tmp 66), 0, none, true⟩,
  ⟨some (68, false), .fieldAddr 102 (.tmp 67) 1, 0, none, true⟩,
  ⟨some (69, false), .fieldAddr 43 (.tmp 68) 5, 0, none, true⟩,
  ⟨some (70, false), .load 22 (.tmp 69), 22, none, true⟩,
  ⟨some (71, false), .move (.tmp 6), 38, none, true⟩,
  ⟨some (72, false), .call { callee := .value (.func 84), args := #[.tmp 70, .tmp 71], argTypes := #[22, 38] }, 9, none, false⟩,
  ⟨some (73, false), .move (.tmp 5), 3, none, true⟩,
  ⟨some (74, false), .move (.tmp 7), 3, none, true⟩,
  ⟨some (75, false), .call { callee := .value (.tmp 65), args := #[.tmp 72, .tmp 73, .tmp 74], argTypes := #[9, 3, 3] }, 4, none, false⟩,
  ⟨some (76, true), .unOp .not 4 (.tmp 75), 4, none, true⟩]
def cr_attributes_r9_go := @goOps Try.prog _ _ cr_attributes_r9.eq_1
def cr_attributes_r10 : List Sop := [
  ⟨some (77, false), .move (.tmp 0), 100, none, true⟩,
  ⟨some (78, false), .nilCheck (.tmp 77), 0, none, true⟩,
  ⟨some (79, false), .fieldAddr 102 (.tmp 78) 0, 0, none, true⟩,
  ⟨some (80, false), .load 54 (.tmp 79), 54, none, true⟩,
  ⟨some (81, false), .move (.tmp 7), 3, none, true⟩,
  ⟨some (82, false), .call { callee := .value (.func 65), args := #[.tmp 80, .tmp 81], argTypes := #[54, 3] }, 9, none, false⟩]
def cr_attributes_r10_go := @goOps Try.prog _ _ cr_attributes_r10.eq_1
def cr_attributes_r11 : List Sop := [
  ⟨some (83, false), .move (.tmp 0), 100, none, true⟩,
  ⟨some (84, false), .nilCheck (.tmp 83), 0, none, true⟩,
  ⟨some (85, false), .fieldAddr 102 (.tmp 84) 0, 0, none, true⟩,
  ⟨some (86, false), .load 54 (.tmp 85), 54, none, true⟩,
  ⟨some (87, false), .call { callee := .value (.func 29), args := #[.tmp 86], argTypes := #[54] }, 3, none, false⟩,
  ⟨some (88, false), .move (.tmp 8), 3, none, true⟩,
  ⟨some (89, false), .binOp .sub 3 (.tmp 87) (.tmp 88) 3, 3, none, true⟩,
  ⟨some (90, false), .move (.tmp 7), 3, none, true⟩,
  ⟨some (91, true), .binOp .neq 3 (.tmp 89) (.tmp 90) 3, 4, none, true⟩]
def cr_attributes_r11_go := @goOps Try.prog _ _ cr_attributes_r11.eq_1
def cr_attributes_r12 : List Sop := [
  ⟨some (92, false), .move (.tmp 0), 100, none, true⟩,
  ⟨some (93, false), .nilCheck (.tmp 92), 0, none, true⟩,
  ⟨some (94, false), .fieldAddr 102 (.tmp 93) 0, 0, none, true⟩,
  ⟨some (95, false), .load 54 (.tmp 94), 54, none, true⟩,
  ⟨some (96, false), .move (.tmp 5), 3, none, true⟩,
  ⟨some (97, false), .call { callee := .value (.func 28), args := #[.tmp 95, .const (.int .i64 12), .tmp 96], argTypes := #[54, 27, 3] }, 0, none, false⟩]
def cr_attributes_r12_go := @goOps Try.prog _ _ cr_attributes_r12.eq_1
def cr_attributes_r13 : List Sop := [
  ⟨some (24, false), .move (.tmp 4), 3, none, true⟩,
  ⟨some (25, false), .binOp .sub 3 (.tmp 24) (.const (.int .i64 1)) 3, 3, none, true⟩,
  ⟨some (4, true), .assign (.tmp 25), 3, none, true⟩]
def cr_attributes_r13_go := @goOps Try.prog _ _ cr_attributes_r13.eq_1
def cr_attributes_l0 : Cd := .seq (.seq (.region cr_attributes_r1) (.cond (.tmp 23) (.skip) (.exit 0))) (.seq (.block 1 (.seq (.region cr_attributes_r2) (.seq (.region cr_attributes_r3) (.seq (.seq (.region cr_attributes_r4) (.cond (.tmp 43) (.region cr_attributes_r5) (.skip))) (.seq (.region cr_attributes_r6) (.seq (.region cr_attributes_r7) (.seq (.seq (.region cr_attributes_r8) (.cond (.tmp 64) (.ret) (.skip))) (.seq (.seq (.region cr_attributes_r9) (.cond (.tmp 76) (.seq (.region cr_attributes_r10) (.exit 1)) (.skip))) (.seq (.region cr_attributes_r11) (.cond (.tmp 91) (.region cr_attributes_r12) (.skip))))))))))) (.region cr_attributes_r13))
def cr_attributes_l0_go := @goVc Try.prog _ _ cr_attributes_l0.eq_1
def cr_attributes : Cd := .seq (.region cr_attributes_r0) (.block 0 (.loop cr_attributes_l0))
def cr_attributes_go := @goVc Try.prog _ _ cr_attributes.eq_1
theorem cr_attributes_calls {args : List Value} {h : Heap} {R : Value → Heap → Prop} (hl : args.length = 2) (hv : Cd.vc Try.prog cr_attributes (retQ Try.prog [] R) (initEnv args [0, 1, 4, 5, 6, 7, 8, 23, 43, 64, 76, 91]) h) : HCalls Try.prog 56 args.toArray h R :=
  hcalls_of_vc (by kernel_rfl) Try.func56 (cd := cr_attributes) (L := [0, 1, 4, 5, 6, 7, 8, 23, 43, 64, 76, 91]) (by kernel_rfl) (by kernel_rfl) ⟨by rw [hl, Try.ntmps56]; decide, by rw [Try.ntmps56]; decide⟩ hv
def cr_attributes_gos := And.intro @cr_attributes_go (And.intro @cr_attributes_r0_go (And.intro @cr_attributes_r1_go (And.intro @cr_attributes_r2_go (And.intro @cr_attributes_r3_go (And.intro @cr_attributes_r4_go (And.intro @cr_attributes_r5_go (And.intro @cr_attributes_r6_go (And.intro @cr_attributes_r7_go (And.intro @cr_attributes_r8_go (And.intro @cr_attributes_r9_go (And.intro @cr_attributes_r10_go (And.intro @cr_attributes_r11_go (And.intro @cr_attributes_r12_go (And.intro @cr_attributes_r13_go (@cr_attributes_l0_go)))))))))))))))

/-! (*jvmcore/class.reader).once: function 80: slots [0, 1, 2, 8] -/
def cr_once_r0 : List Sop := [
  ⟨some (6, false), .move (.tmp 1), 139, none, true⟩,
  ⟨some (7, false), .nilCheck (.tmp 6), 0, none, true⟩,
  ⟨some (8, true), .load 4 (.tmp 7), 4, none, true⟩]
def cr_once_r0_go := @goOps Try.prog _ _ cr_once_r0.eq_1
def cr_once_r1 : List Sop := [
  ⟨some (9, false), .move (.tmp 0), 100, none, true⟩,
  ⟨some (10, false), .nilCheck (.tmp 9), 0, none, true⟩,
  ⟨some (11, false), .fieldAddr 102 (.tmp 10) 0, 0, none, true⟩,
  ⟨some (12, false), .load 54 (.tmp 11), 54, none, true⟩,
  ⟨some (13, false), .move (.tmp 2), 3, none, true⟩,
  ⟨some (14, false), .call { callee := .value (.func 28), args := #[.tmp 12, .const (.int .i64 11), .tmp 13], argTypes := #[54, 27, 3] }, 0, none, false⟩]
def cr_once_r1_go := @goOps Try.prog _ _ cr_once_r1.eq_1
def cr_once_r2 : List Sop := [
  ⟨some (15, false), .move (.tmp 1), 139, none, true⟩,
  ⟨some (16, false), .nilCheck (.tmp 15), 0, none, true⟩,
  ⟨none, .store 4 (.tmp 16) (.const (.bool true)), 0, none, false⟩]
def cr_once_r2_go := @goOps Try.prog _ _ cr_once_r2.eq_1
def cr_once : Cd := .seq (.seq (.region cr_once_r0) (.cond (.tmp 8) (.region cr_once_r1) (.skip))) (.region cr_once_r2)
def cr_once_go := @goVc Try.prog _ _ cr_once.eq_1
theorem cr_once_calls {args : List Value} {h : Heap} {R : Value → Heap → Prop} (hl : args.length = 3) (hv : Cd.vc Try.prog cr_once (retQ Try.prog [] R) (initEnv args [0, 1, 2, 8]) h) : HCalls Try.prog 80 args.toArray h R :=
  hcalls_of_vc (by kernel_rfl) Try.func80 (cd := cr_once) (L := [0, 1, 2, 8]) (by kernel_rfl) (by kernel_rfl) ⟨by rw [hl, Try.ntmps80]; decide, by rw [Try.ntmps80]; decide⟩ hv
def cr_once_gos := And.intro @cr_once_go (And.intro @cr_once_r0_go (And.intro @cr_once_r1_go (@cr_once_r2_go)))

/-! (*jvmcore/class.reader).field: function 54: slots [0, 1, 2, 3, 4] -/
def cr_field_r0 : List Sop := [
  ⟨some (1, true), .box 100 (.tmp 0), 0, none, false⟩,
  ⟨some (2, true), .alloc 89, 0, none, false⟩]
def cr_field_r0_go := @goOps Try.prog _ _ cr_field_r0.eq_1
def cr_field_r1 : Dt :=
  .run ⟨some (5, false), .load 100 (.tmp 1), 100, none, true⟩ [] (
  .run ⟨some (6, false), .nilCheck (.tmp 5), 0, none, true⟩ [] (
  .run ⟨some (7, false), .fieldAddr 102 (.tmp 6) 0, 0, none, true⟩ [] (
  .run ⟨some (8, false), .load 54 (.tmp 7), 54, none, true⟩ [] (
  .run ⟨some (10, false), .load 100 (.tmp 1), 100, none, true⟩ [] (
  .run ⟨some (11, false), .nilCheck (.tmp 10), 0, none, true⟩ [] (
  .run ⟨some (12, false), .fieldAddr 102 (.tmp 11) 0, 0, none, true⟩ [] (
  .run ⟨some (13, false), .load 54 (.tmp 12), 54, none, true⟩ [] (
  .run ⟨some (15, false), .load 100 (.tmp 1), 100, none, true⟩ [] (
  .run ⟨some (16, false), .nilCheck (.tmp 15), 0, none, true⟩ [] (
  .run ⟨some (17, false), .fieldAddr 102 (.tmp 16) 0, 0, none, true⟩ [] (
  .run ⟨some (18, false), .load 54 (.tmp 17), 54, none, true⟩ [] (
  .both (.run ⟨some (9, false), .call { callee := .value (.func 52), args := #[.tmp 8], argTypes := #[54] }, 38, none, false⟩ [⟨some (10, false), .load 100 (.tmp 1), 100, none, true⟩, ⟨some (11, false), .nilCheck (.tmp 10), 0, none, true⟩, ⟨some (12, false), .fieldAddr 102 (.tmp 11) 0, 0, none, true⟩, ⟨some (13, false), .load 54 (.tmp 12), 54, none, true⟩, ⟨some (15, false), .load 100 (.tmp 1), 100, none, true⟩, ⟨some (16, false), .nilCheck (.tmp 15), 0, none, true⟩, ⟨some (17, false), .fieldAddr 102 (.tmp 16) 0, 0, none, true⟩, ⟨some (18, false), .load 54 (.tmp 17), 54, none, true⟩] (
  .both (.run ⟨some (14, false), .call { callee := .value (.func 52), args := #[.tmp 13], argTypes := #[54] }, 38, none, false⟩ [⟨some (15, false), .load 100 (.tmp 1), 100, none, true⟩, ⟨some (16, false), .nilCheck (.tmp 15), 0, none, true⟩, ⟨some (17, false), .fieldAddr 102 (.tmp 16) 0, 0, none, true⟩, ⟨some (18, false), .load 54 (.tmp 17), 54, none, true⟩] (
  .both (.run ⟨some (19, false), .call { callee := .value (.func 52), args := #[.tmp 18], argTypes := #[54] }, 38, none, false⟩ [] (
  .run ⟨some (20, false), .build 89 #[(0, .tmp 9), (1, .tmp 14), (2, .tmp 19)], 89, none, true⟩ [] (
  .run ⟨some (3, true), .alloc 89, 0, none, false⟩ [⟨some (5, false), .load 100 (.tmp 1), 100, none, true⟩, ⟨some (6, false), .nilCheck (.tmp 5), 0, none, true⟩, ⟨some (7, false), .fieldAddr 102 (.tmp 6) 0, 0, none, true⟩, ⟨some (8, false), .load 54 (.tmp 7), 54, none, true⟩, ⟨some (10, false), .load 100 (.tmp 1), 100, none, true⟩, ⟨some (11, false), .nilCheck (.tmp 10), 0, none, true⟩, ⟨some (12, false), .fieldAddr 102 (.tmp 11) 0, 0, none, true⟩, ⟨some (13, false), .load 54 (.tmp 12), 54, none, true⟩, ⟨some (15, false), .load 100 (.tmp 1), 100, none, true⟩, ⟨some (16, false), .nilCheck (.tmp 15), 0, none, true⟩, ⟨some (17, false), .fieldAddr 102 (.tmp 16) 0, 0, none, true⟩, ⟨some (18, false), .load 54 (.tmp 17), 54, none, true⟩, ⟨some (20, false), .build 89 #[(0, .tmp 9), (1, .tmp 14), (2, .tmp 19)], 89, none, true⟩] (
  .run ⟨none, .store 89 (.tmp 3) (.tmp 20), 0, none, false⟩ [] (
  .done))))) (.run ⟨some (3, true), .alloc 89, 0, none, false⟩ [⟨some (5, false), .load 100 (.tmp 1), 100, none, true⟩, ⟨some (6, false), .nilCheck (.tmp 5), 0, none, true⟩, ⟨some (7, false), .fieldAddr 102 (.tmp 6) 0, 0, none, true⟩, ⟨some (8, false), .load 54 (.tmp 7), 54, none, true⟩, ⟨some (10, false), .load 100 (.tmp 1), 100, none, true⟩, ⟨some (11, false), .nilCheck (.tmp 10), 0, none, true⟩, ⟨some (12, false), .fieldAddr 102 (.tmp 11) 0, 0, none, true⟩, ⟨some (13, false), .load 54 (.tmp 12), 54, none, true⟩, ⟨some (15, false), .load 100 (.tmp 1), 100, none, true⟩, ⟨some (16, false), .nilCheck (.tmp 15), 0, none, true⟩, ⟨some (17, false), .fieldAddr 102 (.tmp 16) 0, 0, none, true⟩, ⟨some (18, false), .load 54 (.tmp 17), 54, none, true⟩] (
  .run ⟨some (19, false), .call { callee := .value (.func 52), args := #[.tmp 18], argTypes := #[54] }, 38, none, false⟩ [] (
  .run ⟨some (20, false), .build 89 #[(0, .tmp 9), (1, .tmp 14), (2, .tmp 19)], 89, none, true⟩ [] (
  .run ⟨none, .store 89 (.tmp 3) (.tmp 20), 0, none, false⟩ [] (
  .done))))))) (.run ⟨some (3, true), .alloc 89, 0, none, false⟩ [⟨some (5, false), .load 100 (.tmp 1), 100, none, true⟩, ⟨some (6, false), .nilCheck (.tmp 5), 0, none, true⟩, ⟨some (7, false), .fieldAddr 102 (.tmp 6) 0, 0, none, true⟩, ⟨some (8, false), .load 54 (.tmp 7), 54, none, true⟩, ⟨some (10, false), .load 100 (.tmp 1), 100, none, true⟩, ⟨some (11, false), .nilCheck (.tmp 10), 0, none, true⟩, ⟨some (12, false), .fieldAddr 102 (.tmp 11) 0, 0, none, true⟩, ⟨some (13, false), .load 54 (.tmp 12), 54, none, true⟩, ⟨some (15, false), .load 100 (.tmp 1), 100, none, true⟩, ⟨some (16, false), .nilCheck (.tmp 15), 0, none, true⟩, ⟨some (17, false), .fieldAddr 102 (.tmp 16) 0, 0, none, true⟩, ⟨some (18, false), .load 54 (.tmp 17), 54, none, true⟩] (
  .run ⟨some (14, false), .call { callee := .value (.func 52), args := #[.tmp 13], argTypes := #[54] }, 38, none, false⟩ [⟨some (15, false), .load 100 (.tmp 1), 100, none, true⟩, ⟨some (16, false), .nilCheck (.tmp 15), 0, none, true⟩, ⟨some (17, false), .fieldAddr 102 (.tmp 16) 0, 0, none, true⟩, ⟨some (18, false), .load 54 (.tmp 17), 54, none, true⟩] (
  .run ⟨some (19, false), .call { callee := .value (.func 52), args := #[.tmp 18], argTypes := #[54] }, 38, none, false⟩ [] (
  .run ⟨some (20, false), .build 89 #[(0, .tmp 9), (1, .tmp 14), (2, .tmp 19)], 89, none, true⟩ [] (
  .run ⟨none, .store 89 (.tmp 3) (.tmp 20), 0, none, false⟩ [] (
  .done)))))))) (.run ⟨some (3, true), .alloc 89, 0, none, false⟩ [⟨some (5, false), .load 100 (.tmp 1), 100, none, true⟩, ⟨some (6, false), .nilCheck (.tmp 5), 0, none, true⟩, ⟨some (7, false), .fieldAddr 102 (.tmp 6) 0, 0, none, true⟩, ⟨some (8, false), .load 54 (.tmp 7), 54, none, true⟩, ⟨some (10, false), .load 100 (.tmp 1), 100, none, true⟩, ⟨some (11, false), .nilCheck (.tmp 10), 0, none, true⟩, ⟨some (12, false), .fieldAddr 102 (.tmp 11) 0, 0, none, true⟩, ⟨some (13, false), .load 54 (.tmp 12), 54, none, true⟩, ⟨some (15, false), .load 100 (.tmp 1), 100, none, true⟩, ⟨some (16, false), .nilCheck (.tmp 15), 0, none, true⟩, ⟨some (17, false), .fieldAddr 102 (.tmp 16) 0, 0, none, true⟩, ⟨some (18, false), .load 54 (.tmp 17), 54, none, true⟩] (
  .run ⟨some (9, false), .call { callee := .value (.func 52), args := #[.tmp 8], argTypes := #[54] }, 38, none, false⟩ [⟨some (10, false), .load 100 (.tmp 1), 100, none, true⟩, ⟨some (11, false), .nilCheck (.tmp 10), 0, none, true⟩, ⟨some (12, false), .fieldAddr 102 (.tmp 11) 0, 0, none, true⟩, ⟨some (13, false), .load 54 (.tmp 12), 54, none, true⟩, ⟨some (15, false), .load 100 (.tmp 1), 100, none, true⟩, ⟨some (16, false), .nilCheck (.tmp 15), 0, none, true⟩, ⟨some (17, false), .fieldAddr 102 (.tmp 16) 0, 0, none, true⟩, ⟨some (18, false), .load 54 (.tmp 17), 54, none, true⟩] (
  .run ⟨some (14, false), .call { callee := .value (.func 52), args := #[.tmp 13], argTypes := #[54] }, 38, none, false⟩ [⟨some (15, false), .load 100 (.tmp 1), 100, none, true⟩, ⟨some (16, false), .nilCheck (.tmp 15), 0, none, true⟩, ⟨some (17, false), .fieldAddr 102 (.tmp 16) 0, 0, none, true⟩, ⟨some (18, false), .load 54 (.tmp 17), 54, none, true⟩] (
  .run ⟨some (19, false), .call { callee := .value (.func 52), args := #[.tmp 18], argTypes := #[54] }, 38, none, false⟩ [] (
  .run ⟨some (20, false), .build 89 #[(0, .tmp 9), (1, .tmp 14), (2, .tmp 19)], 89, none, true⟩ [] (
  .run ⟨none, .store 89 (.tmp 3) (.tmp 20), 0, none, false⟩ [] (
  .done)))))))))))))))))))
def cr_field_r1_go := @goT Try.prog _ _ cr_field_r1.eq_1
def cr_field_r2 : List Sop := [
  ⟨some (4, true), .alloc 4, 0, none, false⟩,
  ⟨none, .store 4 (.tmp 4) (.const (.bool false)), 0, none, false⟩]
def cr_field_r2_go := @goOps Try.prog _ _ cr_field_r2.eq_1
def cr_field_r3 : List Sop := [
  ⟨some (21, false), .load 100 (.tmp 1), 100, none, true⟩,
  ⟨some (22, false), .makeFunc (.func 79) #[] #[.tmp 1, .tmp 4, .tmp 3], 109, none, true⟩,
  ⟨some (23, false), .call { callee := .value (.func 56), args := #[.tmp 21, .tmp 22], argTypes := #[100, 109] }, 0, none, false⟩]
def cr_field_r3_go := @goOps Try.prog _ _ cr_field_r3.eq_1
def cr_field_r4 : List Sop := [
  ⟨some (24, false), .load 89 (.tmp 3), 89, none, true⟩,
  ⟨none, .store 89 (.tmp 2) (.tmp 24), 0, none, false⟩]
def cr_field_r4_go := @goOps Try.prog _ _ cr_field_r4.eq_1
def cr_field_t0 : Cd := .seq (.region cr_field_r2) (.seq (.region cr_field_r3) (.seq (.region cr_field_r4) (.ret)))
def cr_field_t0_go := @goVc Try.prog _ _ cr_field_t0.eq_1
def cr_field : Cd := .seq (.region cr_field_r0) (.seq (.tree cr_field_r1) (cr_field_t0))
def cr_field_go := @goVc Try.prog _ _ cr_field.eq_1
theorem cr_field_calls {args : List Value} {h : Heap} {R : Value → Heap → Prop} (hl : args.length = 1) (hv : Cd.vc Try.prog cr_field (retQ Try.prog [(2, some 89)] R) (initEnv args [0, 1, 2, 3, 4]) h) : HCalls Try.prog 54 args.toArray h R :=
  hcalls_of_vc (by kernel_rfl) Try.func54 (cd := cr_field) (L := [0, 1, 2, 3, 4]) (by kernel_rfl) (by kernel_rfl) ⟨by rw [hl, Try.ntmps54]; decide, by rw [Try.ntmps54]; decide⟩ hv
def cr_field_gos := And.intro @cr_field_go (And.intro @cr_field_r0_go (And.intro @cr_field_r1_go (And.intro @cr_field_r2_go (And.intro @cr_field_r3_go (@cr_field_r4_go)))))

/-! (*jvmcore/class.reader).field.1: function 79: slots [0, 1, 3, 4, 5, 9, 11] -/
def cr_field_1_r0 : List Sop := [
  ⟨some (9, true), .assign (.const (.bool false)), 4, none, true⟩]
def cr_field_1_r0_go := @goOps Try.prog _ _ cr_field_1_r0.eq_1
def cr_field_1_r1 : List Sop := [
  ⟨some (10, false), .move (.tmp 0), 9, none, true⟩,
  ⟨some (11, true), .binOp .neq 9 (.tmp 10) (.const (.string { data := #[67, 111, 110, 115, 116, 97, 110, 116, 86, 97, 108, 117, 101] })) 9, 4, none, true⟩]
def cr_field_1_r1_go := @goOps Try.prog _ _ cr_field_1_r1.eq_1
def cr_field_1_r2 : List Sop := [
  ⟨some (9, true), .assign (.const (.bool false)), 4, none, true⟩]
def cr_field_1_r2_go := @goOps Try.prog _ _ cr_field_1_r2.eq_1
def cr_field_1_r3 : List Sop := [
  ⟨some (12, false), .load 100 (.tmp 3), 100, none, true⟩,
  ⟨some (13, false), .move (.tmp 1), 3, none, true⟩,
  ⟨some (14, false), .call { callee := .value (.func 80), args := #[.tmp 12, .tmp 4, .tmp 13], argTypes := #[100, 139, 3] }, 0, none, false⟩]
def cr_field_1_r3_go := @goOps Try.prog _ _ cr_field_1_r3.eq_1
def cr_field_1_r4 : List Sop := [
  ⟨some (15, false), .load 100 (.tmp 3), 100, none, true⟩,
  ⟨some (16, false), .nilCheck (.tmp 15), 0, none, true⟩,
  ⟨some (17, false), .fieldAddr 102 (.tmp 16) 0, 0, none, true⟩,
  ⟨some (18, false), .load 54 (.tmp 17), 54, none, true⟩,
  ⟨some (19, false), .call { callee := .value (.func 52), args := #[.tmp 18], argTypes := #[54] }, 38, none, false⟩,
  ⟨some (20, false), .fieldAddr 89 (.tmp 5) 3, 0, none, true⟩,
  ⟨none, .store 38 (.tmp 20) (.tmp 19), 0, none, false⟩]
def cr_field_1_r4_go := @goOps Try.prog _ _ cr_field_1_r4.eq_1
def cr_field_1_r5 : List Sop := [
  ⟨some (9, true), .assign (.const (.bool true)), 4, none, true⟩]
def cr_field_1_r5_go := @goOps Try.prog _ _ cr_field_1_r5.eq_1
def cr_field_1 : Cd := .seq (.region cr_field_1_r0) (.seq (.seq (.region cr_field_1_r1) (.cond (.tmp 11) (.seq (.region cr_field_1_r2) (.ret)) (.skip))) (.seq (.region cr_field_1_r3) (.seq (.region cr_field_1_r4) (.seq (.region cr_field_1_r5) (.ret)))))
def cr_field_1_go := @goVc Try.prog _ _ cr_field_1.eq_1
theorem cr_field_1_calls {args : List Value} {h : Heap} {R : Value → Heap → Prop} (hl : args.length = 6) (hv : Cd.vc Try.prog cr_field_1 (retQ Try.prog [(9, none)] R) (initEnv args [0, 1, 3, 4, 5, 9, 11]) h) : HCalls Try.prog 79 args.toArray h R :=
  hcalls_of_vc (by kernel_rfl) Try.func79 (cd := cr_field_1) (L := [0, 1, 3, 4, 5, 9, 11]) (by kernel_rfl) (by kernel_rfl) ⟨by rw [hl, Try.ntmps79]; decide, by rw [Try.ntmps79]; decide⟩ hv
def cr_field_1_gos := And.intro @cr_field_1_go (And.intro @cr_field_1_r0_go (And.intro @cr_field_1_r1_go (And.intro @cr_field_1_r2_go (And.intro @cr_field_1_r3_go (And.intro @cr_field_1_r4_go (@cr_field_1_r5_go))))))

/-! (*jvmcore/class.reader).method: function 55: slots [0, 1, 2, 3] -/
def cr_method_r0 : List Sop := [
  ⟨some (1, true), .box 100 (.tmp 0), 0, none, false⟩,
  ⟨some (2, true), .alloc 81, 0, none, false⟩]
def cr_method_r0_go := @goOps Try.prog _ _ cr_method_r0.eq_1
def cr_method_r1 : Dt :=
  .run ⟨some (4, false), .load 100 (.tmp 1), 100, none, true⟩ [] (
  .run ⟨some (5, false), .nilCheck (.tmp 4), 0, none, true⟩ [] (
  .run ⟨some (6, false), .fieldAddr 102 (.tmp 5) 0, 0, none, true⟩ [] (
  .run ⟨some (7, false), .load 54 (.tmp 6), 54, none, true⟩ [] (
  .run ⟨some (9, false), .load 100 (.tmp 1), 100, none, true⟩ [] (
  .run ⟨some (10, false), .nilCheck (.tmp 9), 0, none, true⟩ [] (
  .run ⟨some (11, false), .fieldAddr 102 (.tmp 10) 0, 0, none, true⟩ [] (
  .run ⟨some (12, false), .load 54 (.tmp 11), 54, none, true⟩ [] (
  .run ⟨some (14, false), .load 100 (.tmp 1), 100, none, true⟩ [] (
  .run ⟨some (15, false), .nilCheck (.tmp 14), 0, none, true⟩ [] (
  .run ⟨some (16, false), .fieldAddr 102 (.tmp 15) 0, 0, none, true⟩ [] (
  .run ⟨some (17, false), .load 54 (.tmp 16), 54, none, true⟩ [] (
  .both (.run ⟨some (8, false), .call { callee := .value (.func 52), args := #[.tmp 7], argTypes := #[54] }, 38, none, false⟩ [⟨some (9, false), .load 100 (.tmp 1), 100, none, true⟩, ⟨some (10, false), .nilCheck (.tmp 9), 0, none, true⟩, ⟨some (11, false), .fieldAddr 102 (.tmp 10) 0, 0, none, true⟩, ⟨some (12, false), .load 54 (.tmp 11), 54, none, true⟩, ⟨some (14, false), .load 100 (.tmp 1), 100, none, true⟩, ⟨some (15, false), .nilCheck (.tmp 14), 0, none, true⟩, ⟨some (16, false), .fieldAddr 102 (.tmp 15) 0, 0, none, true⟩, ⟨some (17, false), .load 54 (.tmp 16), 54, none, true⟩] (
  .both (.run ⟨some (13, false), .call { callee := .value (.func 52), args := #[.tmp 12], argTypes := #[54] }, 38, none, false⟩ [⟨some (14, false), .load 100 (.tmp 1), 100, none, true⟩, ⟨some (15, false), .nilCheck (.tmp 14), 0, none, true⟩, ⟨some (16, false), .fieldAddr 102 (.tmp 15) 0, 0, none, true⟩, ⟨some (17, false), .load 54 (.tmp 16), 54, none, true⟩] (
  .both (.run ⟨some (18, false), .call { callee := .value (.func 52), args := #[.tmp 17], argTypes := #[54] }, 38, none, false⟩ [] (
  .run ⟨some (19, false), .build 81 #[(0, .tmp 8), (1, .tmp 13), (2, .tmp 18)], 81, none, true⟩ [] (
  .run ⟨some (3, true), .alloc 81, 0, none, false⟩ [⟨some (4, false), .load 100 (.tmp 1), 100, none, true⟩, ⟨some (5, false), .nilCheck (.tmp 4), 0, none, true⟩, ⟨some (6, false), .fieldAddr 102 (.tmp 5) 0, 0, none, true⟩, ⟨some (7, false), .load 54 (.tmp 6), 54, none, true⟩, ⟨some (9, false), .load 100 (.tmp 1), 100, none, true⟩, ⟨some (10, false), .nilCheck (.tmp 9), 0, none, true⟩, ⟨some (11, false), .fieldAddr 102 (.tmp 10) 0, 0, none, true⟩, ⟨some (12, false), .load 54 (.tmp 11), 54, none, true⟩, ⟨some (14, false), .load 100 (.tmp 1), 100, none, true⟩, ⟨some (15, false), .nilCheck (.tmp 14), 0, none, true⟩, ⟨some (16, false), .fieldAddr 102 (.tmp 15) 0, 0, none, true⟩, ⟨some (17, false), .load 54 (.tmp 16), 54, none, true⟩, ⟨some (19, false), .build 81 #[(0, .tmp 8), (1, .tmp 13), (2, .tmp 18)], 81, none, true⟩] (
  .run ⟨none, .store 81 (.tmp 3) (.tmp 19), 0, none, false⟩ [] (
  .done))))) (.run ⟨some (3, true), .alloc 81, 0, none, false⟩ [⟨some (4, false), .load 100 (.tmp 1), 100, none, true⟩, ⟨some (5, false), .nilCheck (.tmp 4), 0, none, true⟩, ⟨some (6, false), .fieldAddr 102 (.tmp 5) 0, 0, none, true⟩, ⟨some (7, false), .load 54 (.tmp 6), 54, none, true⟩, ⟨some (9, false), .load 100 (.tmp 1), 100, none, true⟩, ⟨some (10, false), .nilCheck (.tmp 9), 0, none, true⟩, ⟨some (11, false), .fieldAddr 102 (.tmp 10) 0, 0, none, true⟩, ⟨some (12, false), .load 54 (.tmp 11), 54, none, true⟩, ⟨some (14, false), .load 100 (.tmp 1), 100, none, true⟩, ⟨some (15, false), .nilCheck (.tmp 14), 0, none, true⟩, ⟨some (16, false), .fieldAddr 102 (.tmp 15) 0, 0, none, true⟩, ⟨some (17, false), .load 54 (.tmp 16), 54, none, true⟩] (
  .run ⟨some (18, false), .call { callee := .value (.func 52), args := #[.tmp 17], argTypes := #[54] }, 38, none, false⟩ [] (
  .run ⟨some (19, false), .build 81 #[(0, .tmp 8), (1, .tmp 13), (2, .tmp 18)], 81, none, true⟩ [] (
  .run ⟨none, .store 81 (.tmp 3) (.tmp 19), 0, none, false⟩ [] (
  .done))))))) (.run ⟨some (3, true), .alloc 81, 0, none, false⟩ [⟨some (4, false), .load 100 (.tmp 1), 100, none, true⟩, ⟨some (5, false), .nilCheck (.tmp 4), 0, none, true⟩, ⟨some (6, false), .fieldAddr 102 (.tmp 5) 0, 0, none, true⟩, ⟨some (7, false), .load 54 (.tmp 6), 54, none, true⟩, ⟨some (9, false), .load 100 (.tmp 1), 100, none, true⟩, ⟨some (10, false), .nilCheck (.tmp 9), 0, none, true⟩, ⟨some (11, false), .fieldAddr 102 (.tmp 10) 0, 0, none, true⟩, ⟨some (12, false), .load 54 (.tmp 11), 54, none, true⟩, ⟨some (14, false), .load 100 (.tmp 1), 100, none, true⟩, ⟨some (15, false), .nilCheck (.tmp 14), 0, none, true⟩, ⟨some (16, false), .fieldAddr 102 (.tmp 15) 0, 0, none, true⟩, ⟨some (17, false), .load 54 (.tmp 16), 54, none, true⟩] (
  .run ⟨some (13, false), .call { callee := .value (.func 52), args := #[.tmp 12], argTypes := #[54] }, 38, none, false⟩ [⟨some (14, false), .load 100 (.tmp 1), 100, none, true⟩, ⟨some (15, false), .nilCheck (.tmp 14), 0, none, true⟩, ⟨some (16, false), .fieldAddr 102 (.tmp 15) 0, 0, none, true⟩, ⟨some (17, false), .load 54 (.tmp 16), 54, none, true⟩] (
  .run ⟨some (18, false), .call { callee := .value (.func 52), args := #[.tmp 17], argTypes := #[54] }, 38, none, false⟩ [] (
  .run ⟨some (19, false), .build 81 #[(0, .tmp 8), (1, .tmp 13), (2, .tmp 18)], 81, none, true⟩ [] (
  .run ⟨none, .store 81 (.tmp 3) (.tmp 19), 0, none, false⟩ [] (
  .done)))))))) (.run ⟨some (3, true), .alloc 81, 0, none, false⟩ [⟨some (4, false), .load 100 (.tmp 1), 100, none, true⟩, ⟨some (5, false), .nilCheck (.tmp 4), 0, none, true⟩, ⟨some (6, false), .fieldAddr 102 (.tmp 5) 0, 0, none, true⟩, ⟨some (7, false), .load 54 (.tmp 6), 54, none, true⟩, ⟨some (9, false), .load 100 (.tmp 1), 100, none, true⟩, ⟨some (10, false), .nilCheck (.tmp 9), 0, none, true⟩, ⟨some (11, false), .fieldAddr 102 (.tmp 10) 0, 0, none, true⟩, ⟨some (12, false), .load 54 (.tmp 11), 54, none, true⟩, ⟨some (14, false), .load 100 (.tmp 1), 100, none, true⟩, ⟨some (15, false), .nilCheck (.tmp 14), 0, none, true⟩, ⟨some (16, false), .fieldAddr 102 (.tmp 15) 0, 0, none, true⟩, ⟨some (17, false), .load 54 (.tmp 16), 54, none, true⟩] (
  .run ⟨some (8, false), .call { callee := .value (.func 52), args := #[.tmp 7], argTypes := #[54] }, 38, none, false⟩ [⟨some (9, false), .load 100 (.tmp 1), 100, none, true⟩, ⟨some (10, false), .nilCheck (.tmp 9), 0, none, true⟩, ⟨some (11, false), .fieldAddr 102 (.tmp 10) 0, 0, none, true⟩, ⟨some (12, false), .load 54 (.tmp 11), 54, none, true⟩, ⟨some (14, false), .load 100 (.tmp 1), 100, none, true⟩, ⟨some (15, false), .nilCheck (.tmp 14), 0, none, true⟩, ⟨some (16, false), .fieldAddr 102 (.tmp 15) 0, 0, none, true⟩, ⟨some (17, false), .load 54 (.tmp 16), 54, none, true⟩] (
  .run ⟨some (13, false), .call { callee := .value (.func 52), args := #[.tmp 12], argTypes := #[54] }, 38, none, false⟩ [⟨some (14, false), .load 100 (.tmp 1), 100, none, true⟩, ⟨some (15, false), .nilCheck (.tmp 14), 0, none, true⟩, ⟨some (16, false), .fieldAddr 102 (.tmp 15) 0, 0, none, true⟩, ⟨some (17, false), .load 54 (.tmp 16), 54, none, true⟩] (
  .run ⟨some (18, false), .call { callee := .value (.func 52), args := #[.tmp 17], argTypes := #[54] }, 38, none, false⟩ [] (
  .run ⟨some (19, false), .build 81 #[(0, .tmp 8), (1, .tmp 13), (2, .tmp 18)], 81, none, true⟩ [] (
  .run ⟨none, .store 81 (.tmp 3) (.tmp 19), 0, none, false⟩ [] (
  .done)))))))))))))))))))
def cr_method_r1_go := @goT Try.prog _ _ cr_method_r1.eq_1
def cr_method_r2 : List Sop := [
  ⟨some (20, false), .load 100 (.tmp 1), 100, none, true⟩,
  ⟨some (21, false), .makeFunc (.func 81) #[] #[.tmp 1, .tmp 3], 109, none, true⟩,
  ⟨some (22, false), .call { callee := .value (.func 56), args := #[.tmp 20, .tmp 21], argTypes := #[100, 109] }, 0, none, false⟩]
def cr_method_r2_go := @goOps Try.prog _ _ cr_method_r2.eq_1
def cr_method_r3 : List Sop := [
  ⟨some (23, false), .load 81 (.tmp 3), 81, none, true⟩,
  ⟨none, .store 81 (.tmp 2) (.tmp 23), 0, none, false⟩]
def cr_method_r3_go := @goOps Try.prog _ _ cr_method_r3.eq_1
def cr_method_t0 : Cd := .seq (.region cr_method_r2) (.seq (.region cr_method_r3) (.ret))
def cr_method_t0_go := @goVc Try.prog _ _ cr_method_t0.eq_1
def cr_method : Cd := .seq (.region cr_method_r0) (.seq (.tree cr_method_r1) (cr_method_t0))
def cr_method_go := @goVc Try.prog _ _ cr_method.eq_1
theorem cr_method_calls {args : List Value} {h : Heap} {R : Value → Heap → Prop} (hl : args.length = 1) (hv : Cd.vc Try.prog cr_method (retQ Try.prog [(2, some 81)] R) (initEnv args [0, 1, 2, 3]) h) : HCalls Try.prog 55 args.toArray h R :=
  hcalls_of_vc (by kernel_rfl) Try.func55 (cd := cr_method) (L := [0, 1, 2, 3]) (by kernel_rfl) (by kernel_rfl) ⟨by rw [hl, Try.ntmps55]; decide, by rw [Try.ntmps55]; decide⟩ hv
def cr_method_gos := And.intro @cr_method_go (And.intro @cr_method_r0_go (And.intro @cr_method_r1_go (And.intro @cr_method_r2_go (@cr_method_r3_go))))

/-! (*jvmcore/class.reader).method.1: function 81: slots [0, 1, 3, 4, 8, 10] -/
def cr_method_1_r0 : List Sop := [
  ⟨some (8, true), .assign (.const (.bool false)), 4, none, true⟩]
def cr_method_1_r0_go := @goOps Try.prog _ _ cr_method_1_r0.eq_1
def cr_method_1_r1 : List Sop := [
  ⟨some (9, false), .move (.tmp 0), 9, none, true⟩,
  ⟨some (10, true), .binOp .neq 9 (.tmp 9) (.const (.string { data := #[67, 111, 100, 101] })) 9, 4, none, true⟩]
def cr_method_1_r1_go := @goOps Try.prog _ _ cr_method_1_r1.eq_1
def cr_method_1_r2 : List Sop := [
  ⟨some (8, true), .assign (.const (.bool false)), 4, none, true⟩]
def cr_method_1_r2_go := @goOps Try.prog _ _ cr_method_1_r2.eq_1
def cr_method_1_r3 : List Sop := [
  ⟨some (11, false), .load 100 (.tmp 3), 100, none, true⟩,
  ⟨some (12, false), .fieldAddr 81 (.tmp 4) 3, 0, none, true⟩,
  ⟨some (13, false), .move (.tmp 1), 3, none, true⟩,
  ⟨some (14, false), .call { callee := .value (.func 80), args := #[.tmp 11, .tmp 12, .tmp 13], argTypes := #[100, 139, 3] }, 0, none, false⟩]
def cr_method_1_r3_go := @goOps Try.prog _ _ cr_method_1_r3.eq_1
def cr_method_1_r4 : List Sop := [
  ⟨some (15, false), .load 100 (.tmp 3), 100, none, true⟩,
  ⟨some (16, false), .call { callee := .value (.func 82), args := #[.tmp 15], argTypes := #[100] }, 79, none, false⟩,
  ⟨some (17, false), .fieldAddr 81 (.tmp 4) 4, 0, none, true⟩,
  ⟨none, .store 79 (.tmp 17) (.tmp 16), 0, none, false⟩]
def cr_method_1_r4_go := @goOps Try.prog _ _ cr_method_1_r4.eq_1
def cr_method_1_r5 : List Sop := [
  ⟨some (8, true), .assign (.const (.bool true)), 4, none, true⟩]
def cr_method_1_r5_go := @goOps Try.prog _ _ cr_method_1_r5.eq_1
def cr_method_1 : Cd := .seq (.region cr_method_1_r0) (.seq (.seq (.region cr_method_1_r1) (.cond (.tmp 10) (.seq (.region cr_method_1_r2) (.ret)) (.skip))) (.seq (.region cr_method_1_r3) (.seq (.region cr_method_1_r4) (.seq (.region cr_method_1_r5) (.ret)))))
def cr_method_1_go := @goVc Try.prog _ _ cr_method_1.eq_1
theorem cr_method_1_calls {args : List Value} {h : Heap} {R : Value → Heap → Prop} (hl : args.length = 5) (hv : Cd.vc Try.prog cr_method_1 (retQ Try.prog [(8, none)] R) (initEnv args [0, 1, 3, 4, 8, 10]) h) : HCalls Try.prog 81 args.toArray h R :=
  hcalls_of_vc (by kernel_rfl) Try.func81 (cd := cr_method_1) (L := [0, 1, 3, 4, 8, 10]) (by kernel_rfl) (by kernel_rfl) ⟨by rw [hl, Try.ntmps81]; decide, by rw [Try.ntmps81]; decide⟩ hv
def cr_method_1_gos := And.intro @cr_method_1_go (And.intro @cr_method_1_r0_go (And.intro @cr_method_1_r1_go (And.intro @cr_method_1_r2_go (And.intro @cr_method_1_r3_go (And.intro @cr_method_1_r4_go (@cr_method_1_r5_go))))))

/-! (*jvmcore/class.reader).code: function 82: slots [0, 1, 2, 3, 4, 5, 42] -/
def cr_code_r0 : List Sop := [
  ⟨some (1, true), .box 100 (.tmp 0), 0, none, false⟩,
  ⟨some (2, true), .alloc 79, 0, none, false⟩]
def cr_code_r0_go := @goOps Try.prog _ _ cr_code_r0.eq_1
def cr_code_r1 : Dt :=
  .run ⟨some (6, false), .load 100 (.tmp 1), 100, none, true⟩ [] (
  .run ⟨some (7, false), .nilCheck (.tmp 6), 0, none, true⟩ [] (
  .run ⟨some (8, false), .fieldAddr 102 (.tmp 7) 0, 0, none, true⟩ [] (
  .run ⟨some (9, false), .load 54 (.tmp 8), 54, none, true⟩ [] (
  .run ⟨some (11, false), .load 100 (.tmp 1), 100, none, true⟩ [] (
  .run ⟨some (12, false), .nilCheck (.tmp 11), 0, none, true⟩ [] (
  .run ⟨some (13, false), .fieldAddr 102 (.tmp 12) 0, 0, none, true⟩ [] (
  .run ⟨some (14, false), .load 54 (.tmp 13), 54, none, true⟩ [] (
  .both (.run ⟨some (10, false), .call { callee := .value (.func 23), args := #[.tmp 9, .const (.int .i64 2)], argTypes := #[54, 3] }, 3, none, false⟩ [⟨some (11, false), .load 100 (.tmp 1), 100, none, true⟩, ⟨some (12, false), .nilCheck (.tmp 11), 0, none, true⟩, ⟨some (13, false), .fieldAddr 102 (.tmp 12) 0, 0, none, true⟩, ⟨some (14, false), .load 54 (.tmp 13), 54, none, true⟩] (
  .both (.run ⟨some (15, false), .call { callee := .value (.func 23), args := #[.tmp 14, .const (.int .i64 2)], argTypes := #[54, 3] }, 3, none, false⟩ [] (
  .run ⟨some (16, false), .build 79 #[(0, .tmp 10), (1, .tmp 15)], 79, none, true⟩ [] (
  .run ⟨some (3, true), .alloc 79, 0, none, false⟩ [⟨some (6, false), .load 100 (.tmp 1), 100, none, true⟩, ⟨some (7, false), .nilCheck (.tmp 6), 0, none, true⟩, ⟨some (8, false), .fieldAddr 102 (.tmp 7) 0, 0, none, true⟩, ⟨some (9, false), .load 54 (.tmp 8), 54, none, true⟩, ⟨some (11, false), .load 100 (.tmp 1), 100, none, true⟩, ⟨some (12, false), .nilCheck (.tmp 11), 0, none, true⟩, ⟨some (13, false), .fieldAddr 102 (.tmp 12) 0, 0, none, true⟩, ⟨some (14, false), .load 54 (.tmp 13), 54, none, true⟩, ⟨some (16, false), .build 79 #[(0, .tmp 10), (1, .tmp 15)], 79, none, true⟩] (
  .run ⟨none, .store 79 (.tmp 3) (.tmp 16), 0, none, false⟩ [] (
  .done))))) (.run ⟨some (3, true), .alloc 79, 0, none, false⟩ [⟨some (6, false), .load 100 (.tmp 1), 100, none, true⟩, ⟨some (7, false), .nilCheck (.tmp 6), 0, none, true⟩, ⟨some (8, false), .fieldAddr 102 (.tmp 7) 0, 0, none, true⟩, ⟨some (9, false), .load 54 (.tmp 8), 54, none, true⟩, ⟨some (11, false), .load 100 (.tmp 1), 100, none, true⟩, ⟨some (12, false), .nilCheck (.tmp 11), 0, none, true⟩, ⟨some (13, false), .fieldAddr 102 (.tmp 12) 0, 0, none, true⟩, ⟨some (14, false), .load 54 (.tmp 13), 54, none, true⟩] (
  .run ⟨some (15, false), .call { callee := .value (.func 23), args := #[.tmp 14, .const (.int .i64 2)], argTypes := #[54, 3] }, 3, none, false⟩ [] (
  .run ⟨some (16, false), .build 79 #[(0, .tmp 10), (1, .tmp 15)], 79, none, true⟩ [] (
  .run ⟨none, .store 79 (.tmp 3) (.tmp 16), 0, none, false⟩ [] (
  .done))))))) (.run ⟨some (3, true), .alloc 79, 0, none, false⟩ [⟨some (6, false), .load 100 (.tmp 1), 100, none, true⟩, ⟨some (7, false), .nilCheck (.tmp 6), 0, none, true⟩, ⟨some (8, false), .fieldAddr 102 (.tmp 7) 0, 0, none, true⟩, ⟨some (9, false), .load 54 (.tmp 8), 54, none, true⟩, ⟨some (11, false), .load 100 (.tmp 1), 100, none, true⟩, ⟨some (12, false), .nilCheck (.tmp 11), 0, none, true⟩, ⟨some (13, false), .fieldAddr 102 (.tmp 12) 0, 0, none, true⟩, ⟨some (14, false), .load 54 (.tmp 13), 54, none, true⟩] (
  .run ⟨some (10, false), .call { callee := .value (.func 23), args := #[.tmp 9, .const (.int .i64 2)], argTypes := #[54, 3] }, 3, none, false⟩ [⟨some (11, false), .load 100 (.tmp 1), 100, none, true⟩, ⟨some (12, false), .nilCheck (.tmp 11), 0, none, true⟩, ⟨some (13, false), .fieldAddr 102 (.tmp 12) 0, 0, none, true⟩, ⟨some (14, false), .load 54 (.tmp 13), 54, none, true⟩] (
  .run ⟨some (15, false), .call { callee := .value (.func 23), args := #[.tmp 14, .const (.int .i64 2)], argTypes := #[54, 3] }, 3, none, false⟩ [] (
  .run ⟨some (16, false), .build 79 #[(0, .tmp 10), (1, .tmp 15)], 79, none, true⟩ [] (
  .run ⟨none, .store 79 (.tmp 3) (.tmp 16), 0, none, false⟩ [] (
  .done))))))))))))))
def cr_code_r1_go := @goT Try.prog _ _ cr_code_r1.eq_1
def cr_code_r2 : List (Sop × List Sop) := [
  (⟨some (17, false), .load 100 (.tmp 1), 100, none, true⟩, []),
  (⟨some (18, false), .nilCheck (.tmp 17), 0, none, true⟩, []),
  (⟨some (19, false), .fieldAddr 102 (.tmp 18) 0, 0, none, true⟩, []),
  (⟨some (20, false), .load 54 (.tmp 19), 54, none, true⟩, []),
  (⟨some (21, false), .load 100 (.tmp 1), 100, none, true⟩, []),
  (⟨some (22, false), .nilCheck (.tmp 21), 0, none, true⟩, []),
  (⟨some (23, false), .fieldAddr 102 (.tmp 22) 0, 0, none, true⟩, []),
  (⟨some (24, false), .load 54 (.tmp 23), 54, none, true⟩, []),
  (⟨some (25, false), .call { callee := .value (.func 23), args := #[.tmp 24, .const (.int .i64 4)], argTypes := #[54, 3] }, 3, none, false⟩, [⟨some (17, false), .load 100 (.tmp 1), 100, none, true⟩, ⟨some (18, false), .nilCheck (.tmp 17), 0, none, true⟩, ⟨some (19, false), .fieldAddr 102 (.tmp 18) 0, 0, none, true⟩, ⟨some (20, false), .load 54 (.tmp 19), 54, none, true⟩]),
  (⟨some (26, false), .call { callee := .value (.func 65), args := #[.tmp 20, .tmp 25], argTypes := #[54, 3] }, 9, none, false⟩, []),
  (⟨some (27, false), .fieldAddr 79 (.tmp 3) 2, 0, none, true⟩, []),
  (⟨none, .store 9 (.tmp 27) (.tmp 26), 0, none, false⟩, [])]
def cr_code_r2_go := @goDraw Try.prog _ _ cr_code_r2.eq_1
def cr_code_r3 : List Sop := [
  ⟨some (28, false), .load 100 (.tmp 1), 100, none, true⟩,
  ⟨some (29, false), .nilCheck (.tmp 28), 0, none, true⟩,
  ⟨some (30, false), .fieldAddr 102 (.tmp 29) 0, 0, none, true⟩,
  ⟨some (31, false), .load 54 (.tmp 30), 54, none, true⟩,
  ⟨some (32, false), .call { callee := .value (.func 23), args := #[.tmp 31, .const (.int .i64 2)], argTypes := #[54, 3] }, 3, none, false⟩,
  ⟨some (4, true), .assign (.tmp 32), 3, none, true⟩]
def cr_code_r3_go := @goOps Try.prog _ _ cr_code_r3.eq_1
def cr_code_r4 : List Sop := [
  ⟨some (33, false), .move (.tmp 4), 3, none, true⟩,
  ⟨some (34, false), .binOp .gtr 3 (.tmp 33) (.const (.int .i64 0)) 3, 4, none, true⟩,
  ⟨some (35, false), .move (.tmp 34), 4, none, true⟩,
  ⟨some (36, false), .load 100 (.tmp 1), 100, some (35, true), true⟩,
  ⟨some (37, false), .nilCheck (.tmp 36), 0, some (35, true), true⟩,
  ⟨some (38, false), .fieldAddr 102 (.tmp 37) 0, 0, some (35, true), true⟩,
  ⟨some (39, false), .load 54 (.tmp 38), 54, some (35, true), true⟩,
  ⟨some (40, false), .call { callee := .value (.func 25), args := #[.tmp 39], argTypes := #[54] }, 4, some (35, true), false⟩,
  ⟨some (41, false), .unOp .not 4 (.tmp 40), 4, some (35, true), true⟩,
  ⟨some (42, true), .pick (.tmp 35) (.tmp 41) (.const (.bool false)), 4, none, true⟩]
def cr_code_r4_go := @goOps Try.prog _ _ cr_code_r4.eq_1
def cr_code_r5 : List (Sop × List Sop) := [
  (⟨some (45, false), .fieldAddr 79 (.tmp 3) 3, 0, none, true⟩, []),
  (⟨some (46, false), .load 77 (.tmp 45), 77, none, true⟩, []),
  (⟨some (47, false), .load 100 (.tmp 1), 100, none, true⟩, []),
  (⟨some (48, false), .nilCheck (.tmp 47), 0, none, true⟩, []),
  (⟨some (49, false), .fieldAddr 102 (.tmp 48) 0, 0, none, true⟩, []),
  (⟨some (50, false), .load 54 (.tmp 49), 54, none, true⟩, []),
  (⟨some (52, false), .load 100 (.tmp 1), 100, none, true⟩, []),
  (⟨some (53, false), .nilCheck (.tmp 52), 0, none, true⟩, []),
  (⟨some (54, false), .fieldAddr 102 (.tmp 53) 0, 0, none, true⟩, []),
  (⟨some (55, false), .load 54 (.tmp 54), 54, none, true⟩, []),
  (⟨some (57, false), .load 100 (.tmp 1), 100, none, true⟩, []),
  (⟨some (58, false), .nilCheck (.tmp 57), 0, none, true⟩, []),
  (⟨some (59, false), .fieldAddr 102 (.tmp 58) 0, 0, none, true⟩, []),
  (⟨some (60, false), .load 54 (.tmp 59), 54, none, true⟩, []),
  (⟨some (62, false), .load 100 (.tmp 1), 100, none, true⟩, []),
  (⟨some (63, false), .nilCheck (.tmp 62), 0, none, true⟩, []),
  (⟨some (64, false), .fieldAddr 102 (.tmp 63) 0, 0, none, true⟩, []),
  (⟨some (65, false), .load 54 (.tmp 64), 54, none, true⟩, []),
  (⟨some (51, false), .call { callee := .value (.func 23), args := #[.tmp 50, .const (.int .i64 2)], argTypes := #[54, 3] }, 3, none, false⟩, [⟨some (45, false), .fieldAddr 79 (.tmp 3) 3, 0, none, true⟩, ⟨some (46, false), .load 77 (.tmp 45), 77, none, true⟩, ⟨some (52, false), .load 100 (.tmp 1), 100, none, true⟩, ⟨some (53, false), .nilCheck (.tmp 52), 0, none, true⟩, ⟨some (54, false), .fieldAddr 102 (.tmp 53) 0, 0, none, true⟩, ⟨some (55, false), .load 54 (.tmp 54), 54, none, true⟩, ⟨some (57, false), .load 100 (.tmp 1), 100, none, true⟩, ⟨some (58, false), .nilCheck (.tmp 57), 0, none, true⟩, ⟨some (59, false), .fieldAddr 102 (.tmp 58) 0, 0, none, true⟩, ⟨some (60, false), .load 54 (.tmp 59), 54, none, true⟩, ⟨some (62, false), .load 100 (.tmp 1), 100, none, true⟩, ⟨some (63, false), .nilCheck (.tmp 62), 0, none, true⟩, ⟨some (64, false), .fieldAddr 102 (.tmp 63) 0, 0, none, true⟩, ⟨some (65, false), .load 54 (.tmp 64), 54, none, true⟩]),
  (⟨some (56, false), .call { callee := .value (.func 23), args := #[.tmp 55, .const (.int .i64 2)], argTypes := #[54, 3] }, 3, none, false⟩, [⟨some (45, false), .fieldAddr 79 (.tmp 3) 3, 0, none, true⟩, ⟨some (46, false), .load 77 (.tmp 45), 77, none, true⟩, ⟨some (57, false), .load 100 (.tmp 1), 100, none, true⟩, ⟨some (58, false), .nilCheck (.tmp 57), 0, none, true⟩, ⟨some (59, false), .fieldAddr 102 (.tmp 58) 0, 0, none, true⟩, ⟨some (60, false), .load 54 (.tmp 59), 54, none, true⟩, ⟨some (62, false), .load 100 (.tmp 1), 100, none, true⟩, ⟨some (63, false), .nilCheck (.tmp 62), 0, none, true⟩, ⟨some (64, false), .fieldAddr 102 (.tmp 63) 0, 0, none, true⟩, ⟨some (65, false), .load 54 (.tmp 64), 54, none, true⟩]),
  (⟨some (61, false), .call { callee := .value (.func 23), args := #[.tmp 60, .const (.int .i64 2)], argTypes := #[54, 3] }, 3, none, false⟩, [⟨some (45, false), .fieldAddr 79 (.tmp 3) 3, 0, none, true⟩, ⟨some (46, false), .load 77 (.tmp 45), 77, none, true⟩, ⟨some (62, false), .load 100 (.tmp 1), 100, none, true⟩, ⟨some (63, false), .nilCheck (.tmp 62), 0, none, true⟩, ⟨some (64, false), .fieldAddr 102 (.tmp 63) 0, 0, none, true⟩, ⟨some (65, false), .load 54 (.tmp 64), 54, none, true⟩]),
  (⟨some (66, false), .call { callee := .value (.func 52), args := #[.tmp 65], argTypes := #[54] }, 38, none, false⟩, [⟨some (45, false), .fieldAddr 79 (.tmp 3) 3, 0, none, true⟩, ⟨some (46, false), .load 77 (.tmp 45), 77, none, true⟩]),
  (⟨some (67, false), .build 132 #[(0, .tmp 51), (1, .tmp 56), (2, .tmp 61), (3, .tmp 66)], 132, none, true⟩, []),
  (⟨some (68, false), .buildSlice 77 1 #[(0, .tmp 67)], 77, none, false⟩, [⟨some (45, false), .fieldAddr 79 (.tmp 3) 3, 0, none, true⟩, ⟨some (46, false), .load 77 (.tmp 45), 77, none, true⟩]),
  (⟨some (69, false), .call { callee := .builtin .append, args := #[.tmp 46, .tmp 68], argTypes := #[77, 77] }, 77, none, false⟩, []),
  (⟨some (70, false), .fieldAddr 79 (.tmp 3) 3, 0, none, true⟩, []),
  (⟨none, .store 77 (.tmp 70) (.tmp 69), 0, none, false⟩, [])]
def cr_code_r5_go := @goDraw Try.prog _ _ cr_code_r5.eq_1
def cr_code_r6 : List Sop := [
  ⟨some (43, false), .move (.tmp 4), 3, none, true⟩,
  ⟨some (44, false), .binOp .sub 3 (.tmp 43) (.const (.int .i64 1)) 3, 3, none, true⟩,
  ⟨some (4, true), .assign (.tmp 44), 3, none, true⟩]
def cr_code_r6_go := @goOps Try.prog _ _ cr_code_r6.eq_1
def cr_code_r7 : List Sop := [
  ⟨some (5, true), .alloc 4, 0, none, false⟩,
  ⟨none, .store 4 (.tmp 5) (.const (.bool false)), 0, none, false⟩]
def cr_code_r7_go := @goOps Try.prog _ _ cr_code_r7.eq_1
def cr_code_r8 : List Sop := [
  ⟨some (71, false), .load 100 (.tmp 1), 100, none, true⟩,
  ⟨some (72, false), .makeFunc (.func 92) #[] #[.tmp 1, .tmp 5, .tmp 3], 109, none, true⟩,
  ⟨some (73, false), .call { callee := .value (.func 56), args := #[.tmp 71, .tmp 72], argTypes := #[100, 109] }, 0, none, false⟩]
def cr_code_r8_go := @goOps Try.prog _ _ cr_code_r8.eq_1
def cr_code_r9 : List Sop := [
  ⟨some (74, false), .load 79 (.tmp 3), 79, none, true⟩,
  ⟨none, .store 79 (.tmp 2) (.tmp 74), 0, none, false⟩]
def cr_code_r9_go := @goOps Try.prog _ _ cr_code_r9.eq_1
def cr_code_l0 : Cd := .seq (.seq (.region cr_code_r4) (.cond (.tmp 42) (.skip) (.exit 0))) (.seq (.block 1 (.draw cr_code_r5)) (.region cr_code_r6))
def cr_code_l0_go := @goVc Try.prog _ _ cr_code_l0.eq_1
def cr_code_t0 : Cd := .seq (.draw cr_code_r2) (.seq (.seq (.region cr_code_r3) (.block 0 (.loop cr_code_l0))) (.seq (.region cr_code_r7) (.seq (.region cr_code_r8) (.seq (.region cr_code_r9) (.ret)))))
def cr_code_t0_go := @goVc Try.prog _ _ cr_code_t0.eq_1
def cr_code : Cd := .seq (.region cr_code_r0) (.seq (.tree cr_code_r1) (cr_code_t0))
def cr_code_go := @goVc Try.prog _ _ cr_code.eq_1
theorem cr_code_calls {args : List Value} {h : Heap} {R : Value → Heap → Prop} (hl : args.length = 1) (hv : Cd.vc Try.prog cr_code (retQ Try.prog [(2, some 79)] R) (initEnv args [0, 1, 2, 3, 4, 5, 42]) h) : HCalls Try.prog 82 args.toArray h R :=
  hcalls_of_vc (by kernel_rfl) Try.func82 (cd := cr_code) (L := [0, 1, 2, 3, 4, 5, 42]) (by kernel_rfl) (by kernel_rfl) ⟨by rw [hl, Try.ntmps82]; decide, by rw [Try.ntmps82]; decide⟩ hv
def cr_code_gos := And.intro @cr_code_go (And.intro @cr_code_r0_go (And.intro @cr_code_r1_go (And.intro @cr_code_r2_go (And.intro @cr_code_r3_go (And.intro @cr_code_r4_go (And.intro @cr_code_r5_go (And.intro @cr_code_r6_go (And.intro @cr_code_r7_go (And.intro @cr_code_r8_go (And.intro @cr_code_r9_go (@cr_code_l0_go)))))))))))

/-! (*jvmcore/class.reader).code.1: function 92: slots [0, 1, 2, 3, 4, 5, 9, 11] -/
def cr_code_1_r0 : List Sop := [
  ⟨some (9, true), .assign (.const (.bool false)), 4, none, true⟩]
def cr_code_1_r0_go := @goOps Try.prog _ _ cr_code_1_r0.eq_1
def cr_code_1_r1 : List Sop := [
  ⟨some (10, false), .move (.tmp 0), 9, none, true⟩,
  ⟨some (11, true), .binOp .neq 9 (.tmp 10) (.const (.string { data := #[83, 116, 97, 99, 107, 77, 97, 112, 84, 97, 98, 108, 101] })) 9, 4, none, true⟩]
def cr_code_1_r1_go := @goOps Try.prog _ _ cr_code_1_r1.eq_1
def cr_code_1_r2 : List Sop := [
  ⟨some (9, true), .assign (.const (.bool false)), 4, none, true⟩]
def cr_code_1_r2_go := @goOps Try.prog _ _ cr_code_1_r2.eq_1
def cr_code_1_r3 : List Sop := [
  ⟨some (12, false), .load 100 (.tmp 3), 100, none, true⟩,
  ⟨some (13, false), .move (.tmp 1), 3, none, true⟩,
  ⟨some (14, false), .call { callee := .value (.func 80), args := #[.tmp 12, .tmp 4, .tmp 13], argTypes := #[100, 139, 3] }, 0, none, false⟩]
def cr_code_1_r3_go := @goOps Try.prog _ _ cr_code_1_r3.eq_1
def cr_code_1_r4 : List Sop := [
  ⟨some (15, false), .load 100 (.tmp 3), 100, none, true⟩,
  ⟨some (16, false), .nilCheck (.tmp 15), 0, none, true⟩,
  ⟨some (17, false), .fieldAddr 102 (.tmp 16) 0, 0, none, true⟩,
  ⟨some (18, false), .load 54 (.tmp 17), 54, none, true⟩,
  ⟨some (19, false), .move (.tmp 2), 3, none, true⟩,
  ⟨some (20, false), .call { callee := .value (.func 65), args := #[.tmp 18, .tmp 19], argTypes := #[54, 3] }, 9, none, false⟩,
  ⟨some (21, false), .fieldAddr 79 (.tmp 5) 4, 0, none, true⟩,
  ⟨none, .store 9 (.tmp 21) (.tmp 20), 0, none, false⟩]
def cr_code_1_r4_go := @goOps Try.prog _ _ cr_code_1_r4.eq_1
def cr_code_1_r5 : List Sop := [
  ⟨some (9, true), .assign (.const (.bool true)), 4, none, true⟩]
def cr_code_1_r5_go := @goOps Try.prog _ _ cr_code_1_r5.eq_1
def cr_code_1 : Cd := .seq (.region cr_code_1_r0) (.seq (.seq (.region cr_code_1_r1) (.cond (.tmp 11) (.seq (.region cr_code_1_r2) (.ret)) (.skip))) (.seq (.region cr_code_1_r3) (.seq (.region cr_code_1_r4) (.seq (.region cr_code_1_r5) (.ret)))))
def cr_code_1_go := @goVc Try.prog _ _ cr_code_1.eq_1
theorem cr_code_1_calls {args : List Value} {h : Heap} {R : Value → Heap → Prop} (hl : args.length = 6) (hv : Cd.vc Try.prog cr_code_1 (retQ Try.prog [(9, none)] R) (initEnv args [0, 1, 2, 3, 4, 5, 9, 11]) h) : HCalls Try.prog 92 args.toArray h R :=
  hcalls_of_vc (by kernel_rfl) Try.func92 (cd := cr_code_1) (L := [0, 1, 2, 3, 4, 5, 9, 11]) (by kernel_rfl) (by kernel_rfl) ⟨by rw [hl, Try.ntmps92]; decide, by rw [Try.ntmps92]; decide⟩ hv
def cr_code_1_gos := And.intro @cr_code_1_go (And.intro @cr_code_1_r0_go (And.intro @cr_code_1_r1_go (And.intro @cr_code_1_r2_go (And.intro @cr_code_1_r3_go (And.intro @cr_code_1_r4_go (@cr_code_1_r5_go))))))

end Go.Proofs.Ytohkbpnblkkdgaa.C
