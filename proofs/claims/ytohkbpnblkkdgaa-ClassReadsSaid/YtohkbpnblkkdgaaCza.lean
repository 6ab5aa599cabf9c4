/- The stripped code of some functions of this seat's program, printed by a program; that it is that code is proved by the kernel. No condition. -/

import Derived.Test.YtohkbpnblkkdgaaProg

import Derived.Test.YtohkbpnblkkdgaaVcJ

set_option maxRecDepth 100000

set_option linter.defProp false

namespace Go.Proofs.Ytohkbpnblkkdgaa.C

open Go.Vc

/-! (*jvmcore/jvmcoreref3.reading).index: function 59: slots [0, 2] -/
def rr_index_r0 : List Sop := [
  ⟨some (2, true), .assign (.const (.int .u16 0)), 38, none, true⟩]
def rr_index_r0_go := @goOps Try.prog _ _ rr_index_r0.eq_1
def rr_index_r1 : List Sop := [
  ⟨some (3, false), .move (.tmp 0), 110, none, true⟩,
  ⟨some (4, false), .nilCheck (.tmp 3), 0, none, true⟩,
  ⟨some (5, false), .fieldAddr 112 (.tmp 4) 0, 0, none, true⟩,
  ⟨some (6, false), .load 64 (.tmp 5), 64, none, true⟩,
  ⟨some (7, false), .call { callee := .value (.func 31), args := #[.tmp 6, .const (.int .i64 2)], argTypes := #[64, 3] }, 3, none, false⟩,
  ⟨some (8, false), .convert 3 38 (.tmp 7), 38, none, true⟩,
  ⟨some (2, true), .assign (.tmp 8), 38, none, true⟩]
def rr_index_r1_go := @goOps Try.prog _ _ rr_index_r1.eq_1
def rr_index : Cd := .seq (.region rr_index_r0) (.seq (.region rr_index_r1) (.ret))
def rr_index_go := @goVc Try.prog _ _ rr_index.eq_1
theorem rr_index_calls {args : List Value} {h : Heap} {R : Value → Heap → Prop} (hl : args.length = 1) (hv : Cd.vc Try.prog rr_index (retQ Try.prog [(2, none)] R) (initEnv args [0, 2]) h) : HCalls Try.prog 59 args.toArray h R :=
  hcalls_of_vc (by kernel_rfl) Try.func59 (cd := rr_index) (L := [0, 2]) (by kernel_rfl) (by kernel_rfl) ⟨by rw [hl, Try.ntmps59]; decide, by rw [Try.ntmps59]; decide⟩ hv
def rr_index_gos := And.intro @rr_index_go (And.intro @rr_index_r0_go (@rr_index_r1_go))

/-! (*jvmcore/jvmcoreref3.reading).attribute: function 63: slots [0, 2, 3, 4, 5, 6, 7, 8, 9, 42, 61] -/
def rr_attribute_r0 : List Sop := [
  ⟨some (2, true), .assign (.const (.string { data := #[] })), 9, none, true⟩,
  ⟨some (3, true), .assign (.const (.int .i64 0)), 3, none, true⟩,
  ⟨some (4, true), .assign (.const (.int .i64 0)), 3, none, true⟩]
def rr_attribute_r0_go := @goOps Try.prog _ _ rr_attribute_r0.eq_1
def rr_attribute_r1 : List Sop := [
  ⟨some (10, false), .move (.tmp 0), 110, none, true⟩,
  ⟨some (11, false), .nilCheck (.tmp 10), 0, none, true⟩,
  ⟨some (12, false), .fieldAddr 112 (.tmp 11) 0, 0, none, true⟩,
  ⟨some (13, false), .load 64 (.tmp 12), 64, none, true⟩,
  ⟨some (14, false), .nilCheck (.tmp 13), 0, none, true⟩,
  ⟨some (15, false), .fieldAddr 66 (.tmp 14) 1, 0, none, true⟩,
  ⟨some (16, false), .load 3 (.tmp 15), 3, none, true⟩,
  ⟨some (5, true), .assign (.tmp 16), 3, none, true⟩]
def rr_attribute_r1_go := @goOps Try.prog _ _ rr_attribute_r1.eq_1
def rr_attribute_r2 : List Sop := [
  ⟨some (17, false), .move (.tmp 0), 110, none, true⟩,
  ⟨some (18, false), .nilCheck (.tmp 17), 0, none, true⟩,
  ⟨some (19, false), .fieldAddr 112 (.tmp 18) 0, 0, none, true⟩,
  ⟨some (20, false), .load 64 (.tmp 19), 64, none, true⟩,
  ⟨some (21, false), .call { callee := .value (.func 31), args := #[.tmp 20, .const (.int .i64 2)], argTypes := #[64, 3] }, 3, none, false⟩,
  ⟨some (6, true), .assign (.tmp 21), 3, none, true⟩]
def rr_attribute_r2_go := @goOps Try.prog _ _ rr_attribute_r2.eq_1
def rr_attribute_r3 : List Sop := [
  ⟨some (23, false), .move (.tmp 0), 110, none, true⟩,
  ⟨some (24, false), .nilCheck (.tmp 23), 0, none, true⟩,
  ⟨some (25, false), .fieldAddr 112 (.tmp 24) 1, 0, none, true⟩,
  ⟨some (26, false), .load 22 (.tmp 25), 22, none, true⟩,
  ⟨some (27, false), .move (.tmp 6), 3, none, true⟩,
  ⟨some (28, false), .call { callee := .value (.func 86), args := #[.tmp 26, .tmp 27], argTypes := #[22, 3] }, 125, none, false⟩,
  ⟨some (22, false), .move (.tmp 28), 125, none, true⟩,
  ⟨some (29, false), .extract (.tmp 22) 0, 9, none, true⟩,
  ⟨some (30, false), .extract (.tmp 22) 1, 4, none, true⟩,
  ⟨some (7, true), .assign (.tmp 29), 9, none, true⟩,
  ⟨some (8, true), .assign (.tmp 30), 4, none, true⟩]
def rr_attribute_r3_go := @goOps Try.prog _ _ rr_attribute_r3.eq_1
def rr_attribute_r4 : List Sop := [
  ⟨some (31, false), .move (.tmp 0), 110, none, true⟩,
  ⟨some (32, false), .nilCheck (.tmp 31), 0, none, true⟩,
  ⟨some (33, false), .fieldAddr 112 (.tmp 32) 0, 0, none, true⟩,
  ⟨some (34, false), .load 64 (.tmp 33), 64, none, true⟩,
  ⟨some (35, false), .nilCheck (.tmp 34), 0, none, true⟩,
  ⟨some (36, false), .fieldAddr 66 (.tmp 35) 2, 0, none, true⟩,
  ⟨some (37, false), .load 27 (.tmp 36), 27, none, true⟩,
  ⟨some (38, false), .binOp .eql 27 (.tmp 37) (.const (.int .i64 0)) 27, 4, none, true⟩,
  ⟨some (39, false), .move (.tmp 38), 4, none, true⟩,
  ⟨some (40, false), .move (.tmp 8), 4, some (39, true), true⟩,
  ⟨some (41, false), .unOp .not 4 (.tmp 40), 4, some (39, true), true⟩,
  ⟨some (42, true), .pick (.tmp 39) (.tmp 41) (.const (.bool false)), 4, none, true⟩]
def rr_attribute_r4_go := @goOps Try.prog _ _ rr_attribute_r4.eq_1
def rr_attribute_r5 : List Sop := [
  ⟨some (43, false), .move (.tmp 0), 110, none, true⟩,
  ⟨some (44, false), .nilCheck (.tmp 43), 0, none, true⟩,
  ⟨some (45, false), .fieldAddr 112 (.tmp 44) 0, 0, none, true⟩,
  ⟨some (46, false), .load 64 (.tmp 45), 64, none, true⟩,
  ⟨some (47, false), .move (.tmp 5), 3, none, true⟩,
  ⟨some (48, false), .call { callee := .value (.func 34), args := #[.tmp 46, .const (.int .i64 7), .tmp 47], argTypes := #[64, 27, 3] }, 0, none, false⟩]
def rr_attribute_r5_go := @goOps Try.prog _ _ rr_attribute_r5.eq_1
def rr_attribute_r6 : List Sop := [
  ⟨some (49, false), .move (.tmp 0), 110, none, true⟩,
  ⟨some (50, false), .nilCheck (.tmp 49), 0, none, true⟩,
  ⟨some (51, false), .fieldAddr 112 (.tmp 50) 0, 0, none, true⟩,
  ⟨some (52, false), .load 64 (.tmp 51), 64, none, true⟩,
  ⟨some (53, false), .call { callee := .value (.func 31), args := #[.tmp 52, .const (.int .i64 4)], argTypes := #[64, 3] }, 3, none, false⟩,
  ⟨some (9, true), .assign (.tmp 53), 3, none, true⟩]
def rr_attribute_r6_go := @goOps Try.prog _ _ rr_attribute_r6.eq_1
def rr_attribute_r7 : List Sop := [
  ⟨some (54, false), .move (.tmp 0), 110, none, true⟩,
  ⟨some (55, false), .nilCheck (.tmp 54), 0, none, true⟩,
  ⟨some (56, false), .fieldAddr 112 (.tmp 55) 0, 0, none, true⟩,
  ⟨some (57, false), .load 64 (.tmp 56), 64, none, true⟩,
  ⟨some (58, false), .nilCheck (.tmp 57), 0, none, true⟩,
  ⟨some (59, false), .fieldAddr 66 (.tmp 58) 2, 0, none, true⟩,
  ⟨some (60, false), .load 27 (.tmp 59), 27, none, true⟩,
  ⟨some (61, true), .binOp .neq 27 (.tmp 60) (.const (.int .i64 0)) 27, 4, none, true⟩]
def rr_attribute_r7_go := @goOps Try.prog _ _ rr_attribute_r7.eq_1
def rr_attribute_r8 : List Sop := [
  ⟨some (62, false), .move (.tmp 5), 3, none, true⟩,
  ⟨some (2, true), .assign (.const (.string { data := #[] })), 9, none, true⟩,
  ⟨some (3, true), .assign (.tmp 62), 3, none, true⟩,
  ⟨some (4, true), .assign (.const (.int .i64 (-1))), 3, none, true⟩]
def rr_attribute_r8_go := @goOps Try.prog _ _ rr_attribute_r8.eq_1
def rr_attribute_r9 : List (Sop × List Sop) := [
  (⟨some (63, false), .move (.tmp 7), 9, none, true⟩, []),
  (⟨some (64, false), .move (.tmp 5), 3, none, true⟩, []),
  (⟨some (65, false), .move (.tmp 0), 110, none, true⟩, []),
  (⟨some (66, false), .nilCheck (.tmp 65), 0, none, true⟩, []),
  (⟨some (67, false), .fieldAddr 112 (.tmp 66) 0, 0, none, true⟩, []),
  (⟨some (68, false), .load 64 (.tmp 67), 64, none, true⟩, []),
  (⟨some (69, false), .nilCheck (.tmp 68), 0, none, true⟩, []),
  (⟨some (70, false), .fieldAddr 66 (.tmp 69) 1, 0, none, true⟩, []),
  (⟨some (71, false), .load 3 (.tmp 70), 3, none, true⟩, []),
  (⟨some (72, false), .move (.tmp 9), 3, none, true⟩, []),
  (⟨some (73, false), .binOp .add 3 (.tmp 71) (.tmp 72) 3, 3, none, true⟩, []),
  (⟨some (2, true), .assign (.tmp 63), 9, none, true⟩, []),
  (⟨some (3, true), .assign (.tmp 64), 3, none, true⟩, []),
  (⟨some (4, true), .assign (.tmp 73), 3, none, true⟩, [])]
def rr_attribute_r9_go := @goDraw Try.prog _ _ rr_attribute_r9.eq_1
def rr_attribute : Cd := .seq (.region rr_attribute_r0) (.seq (.region rr_attribute_r1) (.seq (.region rr_attribute_r2) (.seq (.region rr_attribute_r3) (.seq (.seq (.region rr_attribute_r4) (.cond (.tmp 42) (.region rr_attribute_r5) (.skip))) (.seq (.region rr_attribute_r6) (.seq (.seq (.region rr_attribute_r7) (.cond (.tmp 61) (.seq (.region rr_attribute_r8) (.ret)) (.skip))) (.seq (.draw rr_attribute_r9) (.ret))))))))
def rr_attribute_go := @goVc Try.prog _ _ rr_attribute.eq_1
theorem rr_attribute_calls {args : List Value} {h : Heap} {R : Value → Heap → Prop} (hl : args.length = 1) (hv : Cd.vc Try.prog rr_attribute (retQ Try.prog [(2, none), (3, none), (4, none)] R) (initEnv args [0, 2, 3, 4, 5, 6, 7, 8, 9, 42, 61]) h) : HCalls Try.prog 63 args.toArray h R :=
  hcalls_of_vc (by kernel_rfl) Try.func63 (cd := rr_attribute) (L := [0, 2, 3, 4, 5, 6, 7, 8, 9, 42, 61]) (by kernel_rfl) (by kernel_rfl) ⟨by rw [hl, Try.ntmps63]; decide, by rw [Try.ntmps63]; decide⟩ hv
def rr_attribute_gos := And.intro @rr_attribute_go (And.intro @rr_attribute_r0_go (And.intro @rr_attribute_r1_go (And.intro @rr_attribute_r2_go (And.intro @rr_attribute_r3_go (And.intro @rr_attribute_r4_go (And.intro @rr_attribute_r5_go (And.intro @rr_attribute_r6_go (And.intro @rr_attribute_r7_go (And.intro @rr_attribute_r8_go (@rr_attribute_r9_go))))))))))

/-! (*jvmcore/jvmcoreref3.reading).over: function 64: slots [0, 1, 2, 3, 9, 42] -/
def rr_over_r0 : List Sop := [
  ⟨some (8, false), .move (.tmp 1), 4, none, true⟩,
  ⟨some (9, true), .unOp .not 4 (.tmp 8), 4, none, true⟩]
def rr_over_r0_go := @goOps Try.prog _ _ rr_over_r0.eq_1
def rr_over_r1 : List (Sop × List Sop) := [
  (⟨some (10, false), .move (.tmp 0), 110, none, true⟩, []),
  (⟨some (11, false), .nilCheck (.tmp 10), 0, none, true⟩, []),
  (⟨some (12, false), .fieldAddr 112 (.tmp 11) 0, 0, none, true⟩, []),
  (⟨some (13, false), .load 64 (.tmp 12), 64, none, true⟩, []),
  (⟨some (14, false), .move (.tmp 3), 3, none, true⟩, []),
  (⟨some (15, false), .move (.tmp 0), 110, none, true⟩, []),
  (⟨some (16, false), .nilCheck (.tmp 15), 0, none, true⟩, []),
  (⟨some (17, false), .fieldAddr 112 (.tmp 16) 0, 0, none, true⟩, []),
  (⟨some (18, false), .load 64 (.tmp 17), 64, none, true⟩, []),
  (⟨some (19, false), .nilCheck (.tmp 18), 0, none, true⟩, []),
  (⟨some (20, false), .fieldAddr 66 (.tmp 19) 1, 0, none, true⟩, []),
  (⟨some (21, false), .load 3 (.tmp 20), 3, none, true⟩, []),
  (⟨some (22, false), .binOp .sub 3 (.tmp 14) (.tmp 21) 3, 3, none, true⟩, []),
  (⟨some (23, false), .call { callee := .value (.func 58), args := #[.tmp 13, .tmp 22], argTypes := #[64, 3] }, 9, none, false⟩, [])]
def rr_over_r1_go := @goDraw Try.prog _ _ rr_over_r1.eq_1
def rr_over_r2 : List Sop := [
  ⟨some (24, false), .move (.tmp 0), 110, none, true⟩,
  ⟨some (25, false), .nilCheck (.tmp 24), 0, none, true⟩,
  ⟨some (26, false), .fieldAddr 112 (.tmp 25) 0, 0, none, true⟩,
  ⟨some (27, false), .load 64 (.tmp 26), 64, none, true⟩,
  ⟨some (28, false), .nilCheck (.tmp 27), 0, none, true⟩,
  ⟨some (29, false), .fieldAddr 66 (.tmp 28) 2, 0, none, true⟩,
  ⟨some (30, false), .load 27 (.tmp 29), 27, none, true⟩,
  ⟨some (31, false), .binOp .eql 27 (.tmp 30) (.const (.int .i64 0)) 27, 4, none, true⟩,
  ⟨some (32, false), .move (.tmp 31), 4, none, true⟩,
  ⟨some (33, false), .move (.tmp 0), 110, some (32, true), true⟩,
  ⟨some (34, false), .nilCheck (.tmp 33), 0, some (32, true), true⟩,
  ⟨some (35, false), .fieldAddr 112 (.tmp 34) 0, 0, some (32, true), true⟩,
  ⟨some (36, false), .load 64 (.tmp 35), 64, some (32, true), true⟩,
  ⟨some (37, false), .nilCheck (.tmp 36), 0, some (32, true), true⟩,
  ⟨some (38, false), .fieldAddr 66 (.tmp 37) 1, 0, some (32, true), true⟩,
  ⟨some (39, false), .load 3 (.tmp 38), 3, some (32, true), true⟩,
  ⟨some (40, false), .move (.tmp 3), 3, some (32, true), true⟩,
  ⟨some (41, false), .binOp .neq 3 (.tmp 39) (.tmp 40) 3, 4, some (32, true), true⟩,
  ⟨some (42, true), .pick (.tmp 32) (.tmp 41) (.const (.bool false)), 4, none, true⟩]
def rr_over_r2_go := @goOps Try.prog _ _ rr_over_r2.eq_1
def rr_over_r3 : List Sop := [
  ⟨some (43, false), .move (.tmp 0), 110, none, true⟩,
  ⟨some (44, false), .nilCheck (.tmp 43), 0, none, true⟩,
  ⟨some (45, false), .fieldAddr 112 (.tmp 44) 0, 0, none, true⟩,
  ⟨some (46, false), .load 64 (.tmp 45), 64, none, true⟩,
  ⟨some (47, false), .move (.tmp 2), 3, none, true⟩,
  ⟨some (48, false), .call { callee := .value (.func 34), args := #[.tmp 46, .const (.int .i64 12), .tmp 47], argTypes := #[64, 27, 3] }, 0, none, false⟩]
def rr_over_r3_go := @goOps Try.prog _ _ rr_over_r3.eq_1
def rr_over : Cd := .seq (.region rr_over_r0) (.cond (.tmp 9) (.draw rr_over_r1) (.seq (.region rr_over_r2) (.cond (.tmp 42) (.region rr_over_r3) (.skip))))
def rr_over_go := @goVc Try.prog _ _ rr_over.eq_1
theorem rr_over_calls {args : List Value} {h : Heap} {R : Value → Heap → Prop} (hl : args.length = 4) (hv : Cd.vc Try.prog rr_over (retQ Try.prog [] R) (initEnv args [0, 1, 2, 3, 9, 42]) h) : HCalls Try.prog 64 args.toArray h R :=
  hcalls_of_vc (by kernel_rfl) Try.func64 (cd := rr_over) (L := [0, 1, 2, 3, 9, 42]) (by kernel_rfl) (by kernel_rfl) ⟨by rw [hl, Try.ntmps64]; decide, by rw [Try.ntmps64]; decide⟩ hv
def rr_over_gos := And.intro @rr_over_go (And.intro @rr_over_r0_go (And.intro @rr_over_r1_go (And.intro @rr_over_r2_go (@rr_over_r3_go))))

/-! (*jvmcore/jvmcoreref3.reading).field: function 61: slots [0, 2, 3, 4, 5, 6, 7, 8, 9, 36, 47, 48] -/
def rr_field_r0 : List Sop := [
  ⟨some (2, true), .alloc 89, 0, none, false⟩]
def rr_field_r0_go := @goOps Try.prog _ _ rr_field_r0.eq_1
def rr_field_r1 : List Sop := [
  ⟨some (10, false), .build 89 #[], 89, none, true⟩,
  ⟨some (3, true), .alloc 89, 0, none, false⟩,
  ⟨none, .store 89 (.tmp 3) (.tmp 10), 0, none, false⟩]
def rr_field_r1_go := @goOps Try.prog _ _ rr_field_r1.eq_1
def rr_field_r2 : List Sop := [
  ⟨some (11, false), .move (.tmp 0), 110, none, true⟩,
  ⟨some (12, false), .call { callee := .value (.func 59), args := #[.tmp 11], argTypes := #[110] }, 38, none, false⟩,
  ⟨some (13, false), .fieldAddr 89 (.tmp 3) 0, 0, none, true⟩,
  ⟨none, .store 38 (.tmp 13) (.tmp 12), 0, none, false⟩]
def rr_field_r2_go := @goOps Try.prog _ _ rr_field_r2.eq_1
def rr_field_r3 : List Sop := [
  ⟨some (14, false), .move (.tmp 0), 110, none, true⟩,
  ⟨some (15, false), .call { callee := .value (.func 59), args := #[.tmp 14], argTypes := #[110] }, 38, none, false⟩,
  ⟨some (16, false), .fieldAddr 89 (.tmp 3) 1, 0, none, true⟩,
  ⟨none, .store 38 (.tmp 16) (.tmp 15), 0, none, false⟩]
def rr_field_r3_go := @goOps Try.prog _ _ rr_field_r3.eq_1
def rr_field_r4 : List Sop := [
  ⟨some (17, false), .move (.tmp 0), 110, none, true⟩,
  ⟨some (18, false), .call { callee := .value (.func 59), args := #[.tmp 17], argTypes := #[110] }, 38, none, false⟩,
  ⟨some (19, false), .fieldAddr 89 (.tmp 3) 2, 0, none, true⟩,
  ⟨none, .store 38 (.tmp 19) (.tmp 18), 0, none, false⟩]
def rr_field_r4_go := @goOps Try.prog _ _ rr_field_r4.eq_1
def rr_field_r5 : List Sop := [
  ⟨some (4, true), .assign (.const (.bool false)), 4, none, true⟩]
def rr_field_r5_go := @goOps Try.prog _ _ rr_field_r5.eq_1
def rr_field_r6 : List Sop := [
  ⟨some (20, false), .move (.tmp 0), 110, none, true⟩,
  ⟨some (21, false), .nilCheck (.tmp 20), 0, none, true⟩,
  ⟨some (22, false), .fieldAddr 112 (.tmp 21) 0, 0, none, true⟩,
  ⟨some (23, false), .load 64 (.tmp 22), 64, none, true⟩,
  ⟨some (24, false), .call { callee := .value (.func 31), args := #[.tmp 23, .const (.int .i64 2)], argTypes := #[64, 3] }, 3, none, false⟩,
  ⟨some (5, true), .assign (.tmp 24), 3, none, true⟩]
def rr_field_r6_go := @goOps Try.prog _ _ rr_field_r6.eq_1
def rr_field_r7 : List Sop := [
  ⟨some (25, false), .move (.tmp 5), 3, none, true⟩,
  ⟨some (26, false), .binOp .gtr 3 (.tmp 25) (.const (.int .i64 0)) 3, 4, none, true⟩,
  ⟨some (27, false), .move (.tmp 26), 4, none, true⟩,
  ⟨some (28, false), .move (.tmp 0), 110, some (27, true), true⟩,
  ⟨some (29, false), .nilCheck (.tmp 28), 0, some (27, true), true⟩,
  ⟨some (30, false), .fieldAddr 112 (.tmp 29) 0, 0, some (27, true), true⟩,
  ⟨some (31, false), .load 64 (.tmp 30), 64, some (27, true), true⟩,
  ⟨some (32, false), .nilCheck (.tmp 31), 0, some (27, true), true⟩,
  ⟨some (33, false), .fieldAddr 66 (.tmp 32) 2, 0, some (27, true), true⟩,
  ⟨some (34, false), .load 27 (.tmp 33), 27, some (27, true), true⟩,
  ⟨some (35, false), .binOp .eql 27 (.tmp 34) (.const (.int .i64 0)) 27, 4, some (27, true), true⟩,
  ⟨some (36, true), .pick (.tmp 27) (.tmp 35) (.const (.bool false)), 4, none, true⟩]
def rr_field_r7_go := @goOps Try.prog _ _ rr_field_r7.eq_1
def rr_field_r8 : List Sop := [
  ⟨some (40, false), .move (.tmp 0), 110, none, true⟩,
  ⟨some (41, false), .call { callee := .value (.func 63), args := #[.tmp 40], argTypes := #[110] }, 116, none, false⟩,
  ⟨some (39, false), .move (.tmp 41), 116, none, true⟩,
  ⟨some (42, false), .extract (.tmp 39) 0, 9, none, true⟩,
  ⟨some (43, false), .extract (.tmp 39) 1, 3, none, true⟩,
  ⟨some (44, false), .extract (.tmp 39) 2, 3, none, true⟩,
  ⟨some (6, true), .assign (.tmp 42), 9, none, true⟩,
  ⟨some (7, true), .assign (.tmp 43), 3, none, true⟩,
  ⟨some (8, true), .assign (.tmp 44), 3, none, true⟩]
def rr_field_r8_go := @goOps Try.prog _ _ rr_field_r8.eq_1
def rr_field_r9 : List Sop := [
  ⟨some (45, false), .move (.tmp 6), 9, none, true⟩,
  ⟨some (46, false), .binOp .eql 9 (.tmp 45) (.const (.string { data := #[67, 111, 110, 115, 116, 97, 110, 116, 86, 97, 108, 117, 101] })) 9, 4, none, true⟩,
  ⟨some (9, true), .assign (.tmp 46), 4, none, true⟩]
def rr_field_r9_go := @goOps Try.prog _ _ rr_field_r9.eq_1
def rr_field_r10 : List Sop := [
  ⟨some (47, true), .move (.tmp 9), 4, none, true⟩]
def rr_field_r10_go := @goOps Try.prog _ _ rr_field_r10.eq_1
def rr_field_r11 : List Sop := [
  ⟨some (48, true), .move (.tmp 4), 4, none, true⟩]
def rr_field_r11_go := @goOps Try.prog _ _ rr_field_r11.eq_1
def rr_field_r12 : List Sop := [
  ⟨some (49, false), .move (.tmp 0), 110, none, true⟩,
  ⟨some (50, false), .nilCheck (.tmp 49), 0, none, true⟩,
  ⟨some (51, false), .fieldAddr 112 (.tmp 50) 0, 0, none, true⟩,
  ⟨some (52, false), .load 64 (.tmp 51), 64, none, true⟩,
  ⟨some (53, false), .move (.tmp 7), 3, none, true⟩,
  ⟨some (54, false), .call { callee := .value (.func 34), args := #[.tmp 52, .const (.int .i64 11), .tmp 53], argTypes := #[64, 27, 3] }, 0, none, false⟩]
def rr_field_r12_go := @goOps Try.prog _ _ rr_field_r12.eq_1
def rr_field_r13 : List Sop := [
  ⟨some (4, true), .assign (.const (.bool true)), 4, none, true⟩]
def rr_field_r13_go := @goOps Try.prog _ _ rr_field_r13.eq_1
def rr_field_r14 : List Sop := [
  ⟨some (55, false), .move (.tmp 0), 110, none, true⟩,
  ⟨some (56, false), .call { callee := .value (.func 59), args := #[.tmp 55], argTypes := #[110] }, 38, none, false⟩,
  ⟨some (57, false), .fieldAddr 89 (.tmp 3) 3, 0, none, true⟩,
  ⟨none, .store 38 (.tmp 57) (.tmp 56), 0, none, false⟩]
def rr_field_r14_go := @goOps Try.prog _ _ rr_field_r14.eq_1
def rr_field_r15 : List Sop := [
  ⟨some (58, false), .move (.tmp 0), 110, none, true⟩,
  ⟨some (59, false), .move (.tmp 9), 4, none, true⟩,
  ⟨some (60, false), .move (.tmp 7), 3, none, true⟩,
  ⟨some (61, false), .move (.tmp 8), 3, none, true⟩,
  ⟨some (62, false), .call { callee := .value (.func 64), args := #[.tmp 58, .tmp 59, .tmp 60, .tmp 61], argTypes := #[110, 4, 3, 3] }, 0, none, false⟩]
def rr_field_r15_go := @goOps Try.prog _ _ rr_field_r15.eq_1
def rr_field_r16 : List Sop := [
  ⟨some (37, false), .move (.tmp 5), 3, none, true⟩,
  ⟨some (38, false), .binOp .sub 3 (.tmp 37) (.const (.int .i64 1)) 3, 3, none, true⟩,
  ⟨some (5, true), .assign (.tmp 38), 3, none, true⟩]
def rr_field_r16_go := @goOps Try.prog _ _ rr_field_r16.eq_1
def rr_field_r17 : List Sop := [
  ⟨some (63, false), .load 89 (.tmp 3), 89, none, true⟩,
  ⟨none, .store 89 (.tmp 2) (.tmp 63), 0, none, false⟩]
def rr_field_r17_go := @goOps Try.prog _ _ rr_field_r17.eq_1
def rr_field_l0 : Cd := .seq (.seq (.region rr_field_r7) (.cond (.tmp 36) (.skip) (.exit 0))) (.seq (.block 1 (.seq (.region rr_field_r8) (.seq (.region rr_field_r9) (.seq (.seq (.region rr_field_r10) (.cond (.tmp 47) (.seq (.seq (.region rr_field_r11) (.cond (.tmp 48) (.region rr_field_r12) (.skip))) (.seq (.region rr_field_r13) (.region rr_field_r14))) (.skip))) (.region rr_field_r15))))) (.region rr_field_r16))
def rr_field_l0_go := @goVc Try.prog _ _ rr_field_l0.eq_1
def rr_field : Cd := .seq (.region rr_field_r0) (.seq (.region rr_field_r1) (.seq (.region rr_field_r2) (.seq (.region rr_field_r3) (.seq (.region rr_field_r4) (.seq (.region rr_field_r5) (.seq (.seq (.region rr_field_r6) (.block 0 (.loop rr_field_l0))) (.seq (.region rr_field_r17) (.ret))))))))
def rr_field_go := @goVc Try.prog _ _ rr_field.eq_1
theorem rr_field_calls {args : List Value} {h : Heap} {R : Value → Heap → Prop} (hl : args.length = 1) (hv : Cd.vc Try.prog rr_field (retQ Try.prog [(2, some 89)] R) (initEnv args [0, 2, 3, 4, 5, 6, 7, 8, 9, 36, 47, 48]) h) : HCalls Try.prog 61 args.toArray h R :=
  hcalls_of_vc (by kernel_rfl) Try.func61 (cd := rr_field) (L := [0, 2, 3, 4, 5, 6, 7, 8, 9, 36, 47, 48]) (by kernel_rfl) (by kernel_rfl) ⟨by rw [hl, Try.ntmps61]; decide, by rw [Try.ntmps61]; decide⟩ hv
def rr_field_gos := And.intro @rr_field_go (And.intro @rr_field_r0_go (And.intro @rr_field_r1_go (And.intro @rr_field_r2_go (And.intro @rr_field_r3_go (And.intro @rr_field_r4_go (And.intro @rr_field_r5_go (And.intro @rr_field_r6_go (And.intro @rr_field_r7_go (And.intro @rr_field_r8_go (And.intro @rr_field_r9_go (And.intro @rr_field_r10_go (And.intro @rr_field_r11_go (And.intro @rr_field_r12_go (And.intro @rr_field_r13_go (And.intro @rr_field_r14_go (And.intro @rr_field_r15_go (And.intro @rr_field_r16_go (And.intro @rr_field_r17_go (@rr_field_l0_go)))))))))))))))))))

/-! (*jvmcore/jvmcoreref3.reading).method: function 62: slots [0, 2, 3, 4, 5, 6, 7, 8, 35, 46, 48] -/
def rr_method_r0 : List Sop := [
  ⟨some (2, true), .alloc 81, 0, none, false⟩]
def rr_method_r0_go := @goOps Try.prog _ _ rr_method_r0.eq_1
def rr_method_r1 : List Sop := [
  ⟨some (9, false), .build 81 #[], 81, none, true⟩,
  ⟨some (3, true), .alloc 81, 0, none, false⟩,
  ⟨none, .store 81 (.tmp 3) (.tmp 9), 0, none, false⟩]
def rr_method_r1_go := @goOps Try.prog _ _ rr_method_r1.eq_1
def rr_method_r2 : List Sop := [
  ⟨some (10, false), .move (.tmp 0), 110, none, true⟩,
  ⟨some (11, false), .call { callee := .value (.func 59), args := #[.tmp 10], argTypes := #[110] }, 38, none, false⟩,
  ⟨some (12, false), .fieldAddr 81 (.tmp 3) 0, 0, none, true⟩,
  ⟨none, .store 38 (.tmp 12) (.tmp 11), 0, none, false⟩]
def rr_method_r2_go := @goOps Try.prog _ _ rr_method_r2.eq_1
def rr_method_r3 : List Sop := [
  ⟨some (13, false), .move (.tmp 0), 110, none, true⟩,
  ⟨some (14, false), .call { callee := .value (.func 59), args := #[.tmp 13], argTypes := #[110] }, 38, none, false⟩,
  ⟨some (15, false), .fieldAddr 81 (.tmp 3) 1, 0, none, true⟩,
  ⟨none, .store 38 (.tmp 15) (.tmp 14), 0, none, false⟩]
def rr_method_r3_go := @goOps Try.prog _ _ rr_method_r3.eq_1
def rr_method_r4 : List Sop := [
  ⟨some (16, false), .move (.tmp 0), 110, none, true⟩,
  ⟨some (17, false), .call { callee := .value (.func 59), args := #[.tmp 16], argTypes := #[110] }, 38, none, false⟩,
  ⟨some (18, false), .fieldAddr 81 (.tmp 3) 2, 0, none, true⟩,
  ⟨none, .store 38 (.tmp 18) (.tmp 17), 0, none, false⟩]
def rr_method_r4_go := @goOps Try.prog _ _ rr_method_r4.eq_1
def rr_method_r5 : List Sop := [
  ⟨some (19, false), .move (.tmp 0), 110, none, true⟩,
  ⟨some (20, false), .nilCheck (.tmp 19), 0, none, true⟩,
  ⟨some (21, false), .fieldAddr 112 (.tmp 20) 0, 0, none, true⟩,
  ⟨some (22, false), .load 64 (.tmp 21), 64, none, true⟩,
  ⟨some (23, false), .call { callee := .value (.func 31), args := #[.tmp 22, .const (.int .i64 2)], argTypes := #[64, 3] }, 3, none, false⟩,
  ⟨some (4, true), .assign (.tmp 23), 3, none, true⟩]
def rr_method_r5_go := @goOps Try.prog _ _ rr_method_r5.eq_1
def rr_method_r6 : List Sop := [
  ⟨some (24, false), .move (.tmp 4), 3, none, true⟩,
  ⟨some (25, false), .binOp .gtr 3 (.tmp 24) (.const (.int .i64 0)) 3, 4, none, true⟩,
  ⟨some (26, false), .move (.tmp 25), 4, none, true⟩,
  ⟨some (27, false), .move (.tmp 0), 110, some (26, true), true⟩,
  ⟨some (28, false), .nilCheck (.tmp 27), 0, some (26, true), true⟩,
  ⟨some (29, false), .fieldAddr 112 (.tmp 28) 0, 0, some (26, true), true⟩,
  ⟨some (30, false), .load 64 (.tmp 29), 64, some (26, true), true⟩,
  ⟨some (31, false), .nilCheck (.tmp 30), 0, some (26, true), true⟩,
  ⟨some (32, false), .fieldAddr 66 (.tmp 31) 2, 0, some (26, true), true⟩,
  ⟨some (33, false), .load 27 (.tmp 32), 27, some (26, true), true⟩,
  ⟨some (34, false), .binOp .eql 27 (.tmp 33) (.const (.int .i64 0)) 27, 4, some (26, true), true⟩,
  ⟨some (35, true), .pick (.tmp 26) (.tmp 34) (.const (.bool false)), 4, none, true⟩]
def rr_method_r6_go := @goOps Try.prog _ _ rr_method_r6.eq_1
def rr_method_r7 : List Sop := [
  ⟨some (39, false), .move (.tmp 0), 110, none, true⟩,
  ⟨some (40, false), .call { callee := .value (.func 63), args := #[.tmp 39], argTypes := #[110] }, 116, none, false⟩,
  ⟨some (38, false), .move (.tmp 40), 116, none, true⟩,
  ⟨some (41, false), .extract (.tmp 38) 0, 9, none, true⟩,
  ⟨some (42, false), .extract (.tmp 38) 1, 3, none, true⟩,
  ⟨some (43, false), .extract (.tmp 38) 2, 3, none, true⟩,
  ⟨some (5, true), .assign (.tmp 41), 9, none, true⟩,
  ⟨some (6, true), .assign (.tmp 42), 3, none, true⟩,
  ⟨some (7, true), .assign (.tmp 43), 3, none, true⟩]
def rr_method_r7_go := @goOps Try.prog _ _ rr_method_r7.eq_1
def rr_method_r8 : List Sop := [
  ⟨some (44, false), .move (.tmp 5), 9, none, true⟩,
  ⟨some (45, false), .binOp .eql 9 (.tmp 44) (.const (.string { data := #[67, 111, 100, 101] })) 9, 4, none, true⟩,
  ⟨some (8, true), .assign (.tmp 45), 4, none, true⟩]
def rr_method_r8_go := @goOps Try.prog _ _ rr_method_r8.eq_1
def rr_method_r9 : List Sop := [
  ⟨some (46, true), .move (.tmp 8), 4, none, true⟩]
def rr_method_r9_go := @goOps Try.prog _ _ rr_method_r9.eq_1
def rr_method_r10 : List Sop := [
  ⟨some (47, false), .fieldAddr 81 (.tmp 3) 3, 0, none, true⟩,
  ⟨some (48, true), .load 4 (.tmp 47), 4, none, true⟩]
def rr_method_r10_go := @goOps Try.prog _ _ rr_method_r10.eq_1
def rr_method_r11 : List Sop := [
  ⟨some (49, false), .move (.tmp 0), 110, none, true⟩,
  ⟨some (50, false), .nilCheck (.tmp 49), 0, none, true⟩,
  ⟨some (51, false), .fieldAddr 112 (.tmp 50) 0, 0, none, true⟩,
  ⟨some (52, false), .load 64 (.tmp 51), 64, none, true⟩,
  ⟨some (53, false), .move (.tmp 6), 3, none, true⟩,
  ⟨some (54, false), .call { callee := .value (.func 34), args := #[.tmp 52, .const (.int .i64 11), .tmp 53], argTypes := #[64, 27, 3] }, 0, none, false⟩]
def rr_method_r11_go := @goOps Try.prog _ _ rr_method_r11.eq_1
def rr_method_r12 : List Sop := [
  ⟨some (55, false), .fieldAddr 81 (.tmp 3) 3, 0, none, true⟩,
  ⟨none, .store 4 (.tmp 55) (.const (.bool true)), 0, none, false⟩]
def rr_method_r12_go := @goOps Try.prog _ _ rr_method_r12.eq_1
def rr_method_r13 : List Sop := [
  ⟨some (56, false), .move (.tmp 0), 110, none, true⟩,
  ⟨some (57, false), .call { callee := .value (.func 85), args := #[.tmp 56], argTypes := #[110] }, 79, none, false⟩,
  ⟨some (58, false), .fieldAddr 81 (.tmp 3) 4, 0, none, true⟩,
  ⟨none, .store 79 (.tmp 58) (.tmp 57), 0, none, false⟩]
def rr_method_r13_go := @goOps Try.prog _ _ rr_method_r13.eq_1
def rr_method_r14 : List Sop := [
  ⟨some (59, false), .move (.tmp 0), 110, none, true⟩,
  ⟨some (60, false), .move (.tmp 8), 4, none, true⟩,
  ⟨some (61, false), .move (.tmp 6), 3, none, true⟩,
  ⟨some (62, false), .move (.tmp 7), 3, none, true⟩,
  ⟨some (63, false), .call { callee := .value (.func 64), args := #[.tmp 59, .tmp 60, .tmp 61, .tmp 62], argTypes := #[110, 4, 3, 3] }, 0, none, false⟩]
def rr_method_r14_go := @goOps Try.prog _ _ rr_method_r14.eq_1
def rr_method_r15 : List Sop := [
  ⟨some (36, false), .move (.tmp 4), 3, none, true⟩,
  ⟨some (37, false), .binOp .sub 3 (.tmp 36) (.const (.int .i64 1)) 3, 3, none, true⟩,
  ⟨some (4, true), .assign (.tmp 37), 3, none, true⟩]
def rr_method_r15_go := @goOps Try.prog _ _ rr_method_r15.eq_1
def rr_method_r16 : List Sop := [
  ⟨some (64, false), .load 81 (.tmp 3), 81, none, true⟩,
  ⟨none, .store 81 (.tmp 2) (.tmp 64), 0, none, false⟩]
def rr_method_r16_go := @goOps Try.prog _ _ rr_method_r16.eq_1
def rr_method_l0 : Cd := .seq (.seq (.region rr_method_r6) (.cond (.tmp 35) (.skip) (.exit 0))) (.seq (.block 1 (.seq (.region rr_method_r7) (.seq (.region rr_method_r8) (.seq (.seq (.region rr_method_r9) (.cond (.tmp 46) (.seq (.seq (.region rr_method_r10) (.cond (.tmp 48) (.region rr_method_r11) (.skip))) (.seq (.region rr_method_r12) (.region rr_method_r13))) (.skip))) (.region rr_method_r14))))) (.region rr_method_r15))
def rr_method_l0_go := @goVc Try.prog _ _ rr_method_l0.eq_1
def rr_method : Cd := .seq (.region rr_method_r0) (.seq (.region rr_method_r1) (.seq (.region rr_method_r2) (.seq (.region rr_method_r3) (.seq (.region rr_method_r4) (.seq (.seq (.region rr_method_r5) (.block 0 (.loop rr_method_l0))) (.seq (.region rr_method_r16) (.ret)))))))
def rr_method_go := @goVc Try.prog _ _ rr_method.eq_1
theorem rr_method_calls {args : List Value} {h : Heap} {R : Value → Heap → Prop} (hl : args.length = 1) (hv : Cd.vc Try.prog rr_method (retQ Try.prog [(2, some 81)] R) (initEnv args [0, 2, 3, 4, 5, 6, 7, 8, 35, 46, 48]) h) : HCalls Try.prog 62 args.toArray h R :=
  hcalls_of_vc (by kernel_rfl) Try.func62 (cd := rr_method) (L := [0, 2, 3, 4, 5, 6, 7, 8, 35, 46, 48]) (by kernel_rfl) (by kernel_rfl) ⟨by rw [hl, Try.ntmps62]; decide, by rw [Try.ntmps62]; decide⟩ hv
def rr_method_gos := And.intro @rr_method_go (And.intro @rr_method_r0_go (And.intro @rr_method_r1_go (And.intro @rr_method_r2_go (And.intro @rr_method_r3_go (And.intro @rr_method_r4_go (And.intro @rr_method_r5_go (And.intro @rr_method_r6_go (And.intro @rr_method_r7_go (And.intro @rr_method_r8_go (And.intro @rr_method_r9_go (And.intro @rr_method_r10_go (And.intro @rr_method_r11_go (And.intro @rr_method_r12_go (And.intro @rr_method_r13_go (And.intro @rr_method_r14_go (And.intro @rr_method_r15_go (And.intro @rr_method_r16_go (@rr_method_l0_go))))))))))))))))))

/-! (*jvmcore/jvmcoreref3.reading).code: function 85: slots [0, 2, 3, 4, 5, 6, 7, 8, 9, 10, 11, 52, 99, 110, 111] -/
def rr_code_r0 : List Sop := [
  ⟨some (2, true), .alloc 79, 0, none, false⟩]
def rr_code_r0_go := @goOps Try.prog _ _ rr_code_r0.eq_1
def rr_code_r1 : List Sop := [
  ⟨some (12, false), .build 79 #[], 79, none, true⟩,
  ⟨some (3, true), .alloc 79, 0, none, false⟩,
  ⟨none, .store 79 (.tmp 3) (.tmp 12), 0, none, false⟩]
def rr_code_r1_go := @goOps Try.prog _ _ rr_code_r1.eq_1
def rr_code_r2 : List Sop := [
  ⟨some (13, false), .move (.tmp 0), 110, none, true⟩,
  ⟨some (14, false), .nilCheck (.tmp 13), 0, none, true⟩,
  ⟨some (15, false), .fieldAddr 112 (.tmp 14) 0, 0, none, true⟩,
  ⟨some (16, false), .load 64 (.tmp 15), 64, none, true⟩,
  ⟨some (17, false), .call { callee := .value (.func 31), args := #[.tmp 16, .const (.int .i64 2)], argTypes := #[64, 3] }, 3, none, false⟩,
  ⟨some (18, false), .fieldAddr 79 (.tmp 3) 0, 0, none, true⟩,
  ⟨none, .store 3 (.tmp 18) (.tmp 17), 0, none, false⟩]
def rr_code_r2_go := @goOps Try.prog _ _ rr_code_r2.eq_1
def rr_code_r3 : List Sop := [
  ⟨some (19, false), .move (.tmp 0), 110, none, true⟩,
  ⟨some (20, false), .nilCheck (.tmp 19), 0, none, true⟩,
  ⟨some (21, false), .fieldAddr 112 (.tmp 20) 0, 0, none, true⟩,
  ⟨some (22, false), .load 64 (.tmp 21), 64, none, true⟩,
  ⟨some (23, false), .call { callee := .value (.func 31), args := #[.tmp 22, .const (.int .i64 2)], argTypes := #[64, 3] }, 3, none, false⟩,
  ⟨some (24, false), .fieldAddr 79 (.tmp 3) 1, 0, none, true⟩,
  ⟨none, .store 3 (.tmp 24) (.tmp 23), 0, none, false⟩]
def rr_code_r3_go := @goOps Try.prog _ _ rr_code_r3.eq_1
def rr_code_r4 : List (Sop × List Sop) := [
  (⟨some (25, false), .move (.tmp 0), 110, none, true⟩, []),
  (⟨some (26, false), .nilCheck (.tmp 25), 0, none, true⟩, []),
  (⟨some (27, false), .fieldAddr 112 (.tmp 26) 0, 0, none, true⟩, []),
  (⟨some (28, false), .load 64 (.tmp 27), 64, none, true⟩, []),
  (⟨some (29, false), .move (.tmp 0), 110, none, true⟩, []),
  (⟨some (30, false), .nilCheck (.tmp 29), 0, none, true⟩, []),
  (⟨some (31, false), .fieldAddr 112 (.tmp 30) 0, 0, none, true⟩, []),
  (⟨some (32, false), .load 64 (.tmp 31), 64, none, true⟩, []),
  (⟨some (33, false), .call { callee := .value (.func 31), args := #[.tmp 32, .const (.int .i64 4)], argTypes := #[64, 3] }, 3, none, false⟩, [⟨some (26, false), .nilCheck (.tmp 25), 0, none, true⟩, ⟨some (27, false), .fieldAddr 112 (.tmp 26) 0, 0, none, true⟩, ⟨some (28, false), .load 64 (.tmp 27), 64, none, true⟩]),
  (⟨some (34, false), .call { callee := .value (.func 58), args := #[.tmp 28, .tmp 33], argTypes := #[64, 3] }, 9, none, false⟩, []),
  (⟨some (35, false), .fieldAddr 79 (.tmp 3) 2, 0, none, true⟩, []),
  (⟨none, .store 9 (.tmp 35) (.tmp 34), 0, none, false⟩, [])]
def rr_code_r4_go := @goDraw Try.prog _ _ rr_code_r4.eq_1
def rr_code_r5 : List Sop := [
  ⟨some (36, false), .move (.tmp 0), 110, none, true⟩,
  ⟨some (37, false), .nilCheck (.tmp 36), 0, none, true⟩,
  ⟨some (38, false), .fieldAddr 112 (.tmp 37) 0, 0, none, true⟩,
  ⟨some (39, false), .load 64 (.tmp 38), 64, none, true⟩,
  ⟨some (40, false), .call { callee := .value (.func 31), args := #[.tmp 39, .const (.int .i64 2)], argTypes := #[64, 3] }, 3, none, false⟩,
  ⟨some (4, true), .assign (.tmp 40), 3, none, true⟩]
def rr_code_r5_go := @goOps Try.prog _ _ rr_code_r5.eq_1
def rr_code_r6 : List Sop := [
  ⟨some (41, false), .move (.tmp 4), 3, none, true⟩,
  ⟨some (42, false), .binOp .gtr 3 (.tmp 41) (.const (.int .i64 0)) 3, 4, none, true⟩,
  ⟨some (43, false), .move (.tmp 42), 4, none, true⟩,
  ⟨some (44, false), .move (.tmp 0), 110, some (43, true), true⟩,
  ⟨some (45, false), .nilCheck (.tmp 44), 0, some (43, true), true⟩,
  ⟨some (46, false), .fieldAddr 112 (.tmp 45) 0, 0, some (43, true), true⟩,
  ⟨some (47, false), .load 64 (.tmp 46), 64, some (43, true), true⟩,
  ⟨some (48, false), .nilCheck (.tmp 47), 0, some (43, true), true⟩,
  ⟨some (49, false), .fieldAddr 66 (.tmp 48) 2, 0, some (43, true), true⟩,
  ⟨some (50, false), .load 27 (.tmp 49), 27, some (43, true), true⟩,
  ⟨some (51, false), .binOp .eql 27 (.tmp 50) (.const (.int .i64 0)) 27, 4, some (43, true), true⟩,
  ⟨some (52, true), .pick (.tmp 43) (.tmp 51) (.const (.bool false)), 4, none, true⟩]
def rr_code_r6_go := @goOps Try.prog _ _ rr_code_r6.eq_1
def rr_code_r7 : List Sop := [
  ⟨some (55, false), .build 132 #[], 132, none, true⟩,
  ⟨some (5, true), .alloc 132, 0, none, false⟩,
  ⟨none, .store 132 (.tmp 5) (.tmp 55), 0, none, false⟩]
def rr_code_r7_go := @goOps Try.prog _ _ rr_code_r7.eq_1
def rr_code_r8 : List Sop := [
  ⟨some (56, false), .move (.tmp 0), 110, none, true⟩,
  ⟨some (57, false), .nilCheck (.tmp 56), 0, none, true⟩,
  ⟨some (58, false), .fieldAddr 112 (.tmp 57) 0, 0, none, true⟩,
  ⟨some (59, false), .load 64 (.tmp 58), 64, none, true⟩,
  ⟨some (60, false), .call { callee := .value (.func 31), args := #[.tmp 59, .const (.int .i64 2)], argTypes := #[64, 3] }, 3, none, false⟩,
  ⟨some (61, false), .fieldAddr 132 (.tmp 5) 0, 0, none, true⟩,
  ⟨none, .store 3 (.tmp 61) (.tmp 60), 0, none, false⟩]
def rr_code_r8_go := @goOps Try.prog _ _ rr_code_r8.eq_1
def rr_code_r9 : List Sop := [
  ⟨some (62, false), .move (.tmp 0), 110, none, true⟩,
  ⟨some (63, false), .nilCheck (.tmp 62), 0, none, true⟩,
  ⟨some (64, false), .fieldAddr 112 (.tmp 63) 0, 0, none, true⟩,
  ⟨some (65, false), .load 64 (.tmp 64), 64, none, true⟩,
  ⟨some (66, false), .call { callee := .value (.func 31), args := #[.tmp 65, .const (.int .i64 2)], argTypes := #[64, 3] }, 3, none, false⟩,
  ⟨some (67, false), .fieldAddr 132 (.tmp 5) 1, 0, none, true⟩,
  ⟨none, .store 3 (.tmp 67) (.tmp 66), 0, none, false⟩]
def rr_code_r9_go := @goOps Try.prog _ _ rr_code_r9.eq_1
def rr_code_r10 : List Sop := [
  ⟨some (68, false), .move (.tmp 0), 110, none, true⟩,
  ⟨some (69, false), .nilCheck (.tmp 68), 0, none, true⟩,
  ⟨some (70, false), .fieldAddr 112 (.tmp 69) 0, 0, none, true⟩,
  ⟨some (71, false), .load 64 (.tmp 70), 64, none, true⟩,
  ⟨some (72, false), .call { callee := .value (.func 31), args := #[.tmp 71, .const (.int .i64 2)], argTypes := #[64, 3] }, 3, none, false⟩,
  ⟨some (73, false), .fieldAddr 132 (.tmp 5) 2, 0, none, true⟩,
  ⟨none, .store 3 (.tmp 73) (.tmp 72), 0, none, false⟩]
def rr_code_r10_go := @goOps Try.prog _ _ rr_code_r10.eq_1
def rr_code_r11 : List Sop := [
  ⟨some (74, false), .move (.tmp 0), 110, none, true⟩,
  ⟨some (75, false), .call { callee := .value (.func 59), args := #[.tmp 74], argTypes := #[110] }, 38, none, false⟩,
  ⟨some (76, false), .fieldAddr 132 (.tmp 5) 3, 0, none, true⟩,
  ⟨none, .store 38 (.tmp 76) (.tmp 75), 0, none, false⟩]
def rr_code_r11_go := @goOps Try.prog _ _ rr_code_r11.eq_1
def rr_code_r12 : List Sop := [
  ⟨some (77, false), .fieldAddr 79 (.tmp 3) 3, 0, none, true⟩,
  ⟨some (78, false), .load 77 (.tmp 77), 77, none, true⟩,
  ⟨some (79, false), .load 132 (.tmp 5), 132, none, true⟩,
  ⟨some (80, false), .buildSlice 77 1 #[(0, .tmp 79)], 77, none, false⟩,
  ⟨some (81, false), .call { callee := .builtin .append, args := #[.tmp 78, .tmp 80], argTypes := #[77, 77] }, 77, none, false⟩,
  ⟨some (82, false), .fieldAddr 79 (.tmp 3) 3, 0, none, true⟩,
  ⟨none, .store 77 (.tmp 82) (.tmp 81), 0, none, false⟩]
def rr_code_r12_go := @goOps Try.prog _ _ rr_code_r12.eq_1
def rr_code_r13 : List Sop := [
  ⟨some (53, false), .move (.tmp 4), 3, none, true⟩,
  ⟨some (54, false), .binOp .sub 3 (.tmp 53) (.const (.int .i64 1)) 3, 3, none, true⟩,
  ⟨some (4, true), .assign (.tmp 54), 3, none, true⟩]
def rr_code_r13_go := @goOps Try.prog _ _ rr_code_r13.eq_1
def rr_code_r14 : List Sop := [
  ⟨some (6, true), .assign (.const (.bool false)), 4, none, true⟩]
def rr_code_r14_go := @goOps Try.prog _ _ rr_code_r14.eq_1
def rr_code_r15 : List Sop := [
  ⟨some (83, false), .move (.tmp 0), 110, none, true⟩,
  ⟨some (84, false), .nilCheck (.tmp 83), 0, none, true⟩,
  ⟨some (85, false), .fieldAddr 112 (.tmp 84) 0, 0, none, true⟩,
  ⟨some (86, false), .load 64 (.tmp 85), 64, none, true⟩,
  ⟨some (87, false), .call { callee := .value (.func 31), args := #[.tmp 86, .const (.int .i64 2)], argTypes := #[64, 3] }, 3, none, false⟩,
  ⟨some (7, true), .assign (.tmp 87), 3, none, true⟩]
def rr_code_r15_go := @goOps Try.prog _ _ rr_code_r15.eq_1
def rr_code_r16 : List Sop := [
  ⟨some (88, false), .move (.tmp 7), 3, none, true⟩,
  ⟨some (89, false), .binOp .gtr 3 (.tmp 88) (.const (.int .i64 0)) 3, 4, none, true⟩,
  ⟨some (90, false), .move (.tmp 89), 4, none, true⟩,
  ⟨some (91, false), .move (.tmp 0), 110, some (90, true), true⟩,
  ⟨some (92, false), .nilCheck (.tmp 91), 0, some (90, true), true⟩,
  ⟨some (93, false), .fieldAddr 112 (.tmp 92) 0, 0, some (90, true), true⟩,
  ⟨some (94, false), .load 64 (.tmp 93), 64, some (90, true), true⟩,
  ⟨some (95, false), .nilCheck (.tmp 94), 0, some (90, true), true⟩,
  ⟨some (96, false), .fieldAddr 66 (.tmp 95) 2, 0, some (90, true), true⟩,
  ⟨some (97, false), .load 27 (.tmp 96), 27, some (90, true), true⟩,
  ⟨some (98, false), .binOp .eql 27 (.tmp 97) (.const (.int .i64 0)) 27, 4, some (90, true), true⟩,
  ⟨some (99, true), .pick (.tmp 90) (.tmp 98) (.const (.bool false)), 4, none, true⟩]
def rr_code_r16_go := @goOps Try.prog _ _ rr_code_r16.eq_1
def rr_code_r17 : List Sop := [
  ⟨some (103, false), .move (.tmp 0), 110, none, true⟩,
  ⟨some (104, false), .call { callee := .value (.func 63), args := #[.tmp 103], argTypes := #[110] }, 116, none, false⟩,
  ⟨some (102, false), .move (.tmp 104), 116, none, true⟩,
  ⟨some (105, false), .extract (.tmp 102) 0, 9, none, true⟩,
  ⟨some (106, false), .extract (.tmp 102) 1, 3, none, true⟩,
  ⟨some (107, false), .extract (.tmp 102) 2, 3, none, true⟩,
  ⟨some (8, true), .assign (.tmp 105), 9, none, true⟩,
  ⟨some (9, true), .assign (.tmp 106), 3, none, true⟩,
  ⟨some (10, true), .assign (.tmp 107), 3, none, true⟩]
def rr_code_r17_go := @goOps Try.prog _ _ rr_code_r17.eq_1
def rr_code_r18 : List Sop := [
  ⟨some (108, false), .move (.tmp 8), 9, none, true⟩,
  ⟨some (109, false), .binOp .eql 9 (.tmp 108) (.const (.string { data := #[83, 116, 97, 99, 107, 77, 97, 112, 84, 97, 98, 108, 101] })) 9, 4, none, true⟩,
  ⟨some (11, true), .assign (.tmp 109), 4, none, true⟩]
def rr_code_r18_go := @goOps Try.prog _ _ rr_code_r18.eq_1
def rr_code_r19 : List Sop := [
  ⟨some (110, true), .move (.tmp 11), 4, none, true⟩]
def rr_code_r19_go := @goOps Try.prog _ _ rr_code_r19.eq_1
def rr_code_r20 : List Sop := [
  ⟨some (111, true), .move (.tmp 6), 4, none, true⟩]
def rr_code_r20_go := @goOps Try.prog _ _ rr_code_r20.eq_1
def rr_code_r21 : List Sop := [
  ⟨some (112, false), .move (.tmp 0), 110, none, true⟩,
  ⟨some (113, false), .nilCheck (.tmp 112), 0, none, true⟩,
  ⟨some (114, false), .fieldAddr 112 (.tmp 113) 0, 0, none, true⟩,
  ⟨some (115, false), .load 64 (.tmp 114), 64, none, true⟩,
  ⟨some (116, false), .move (.tmp 9), 3, none, true⟩,
  ⟨some (117, false), .call { callee := .value (.func 34), args := #[.tmp 115, .const (.int .i64 11), .tmp 116], argTypes := #[64, 27, 3] }, 0, none, false⟩]
def rr_code_r21_go := @goOps Try.prog _ _ rr_code_r21.eq_1
def rr_code_r22 : List Sop := [
  ⟨some (6, true), .assign (.const (.bool true)), 4, none, true⟩]
def rr_code_r22_go := @goOps Try.prog _ _ rr_code_r22.eq_1
def rr_code_r23 : List (Sop × List Sop) := [
  (⟨some (118, false), .move (.tmp 0), 110, none, true⟩, []),
  (⟨some (119, false), .nilCheck (.tmp 118), 0, none, true⟩, []),
  (⟨some (120, false), .fieldAddr 112 (.tmp 119) 0, 0, none, true⟩, []),
  (⟨some (121, false), .load 64 (.tmp 120), 64, none, true⟩, []),
  (⟨some (122, false), .move (.tmp 10), 3, none, true⟩, []),
  (⟨some (123, false), .move (.tmp 0), 110, none, true⟩, []),
  (⟨some (124, false), .nilCheck (.tmp 123), 0, none, true⟩, []),
  (⟨some (125, false), .fieldAddr 112 (.tmp 124) 0, 0, none, true⟩, []),
  (⟨some (126, false), .load 64 (.tmp 125), 64, none, true⟩, []),
  (⟨some (127, false), .nilCheck (.tmp 126), 0, none, true⟩, []),
  (⟨some (128, false), .fieldAddr 66 (.tmp 127) 1, 0, none, true⟩, []),
  (⟨some (129, false), .load 3 (.tmp 128), 3, none, true⟩, []),
  (⟨some (130, false), .binOp .sub 3 (.tmp 122) (.tmp 129) 3, 3, none, true⟩, []),
  (⟨some (131, false), .call { callee := .value (.func 58), args := #[.tmp 121, .tmp 130], argTypes := #[64, 3] }, 9, none, false⟩, []),
  (⟨some (132, false), .fieldAddr 79 (.tmp 3) 4, 0, none, true⟩, []),
  (⟨none, .store 9 (.tmp 132) (.tmp 131), 0, none, false⟩, [])]
def rr_code_r23_go := @goDraw Try.prog _ _ rr_code_r23.eq_1
def rr_code_r24 : List Sop := [
  ⟨some (133, false), .move (.tmp 0), 110, none, true⟩,
  ⟨some (134, false), .move (.tmp 11), 4, none, true⟩,
  ⟨some (135, false), .move (.tmp 9), 3, none, true⟩,
  ⟨some (136, false), .move (.tmp 10), 3, none, true⟩,
  ⟨some (137, false), .call { callee := .value (.func 64), args := #[.tmp 133, .tmp 134, .tmp 135, .tmp 136], argTypes := #[110, 4, 3, 3] }, 0, none, false⟩]
def rr_code_r24_go := @goOps Try.prog _ _ rr_code_r24.eq_1
def rr_code_r25 : List Sop := [
  ⟨some (100, false), .move (.tmp 7), 3, none, true⟩,
  ⟨some (101, false), .binOp .sub 3 (.tmp 100) (.const (.int .i64 1)) 3, 3, none, true⟩,
  ⟨some (7, true), .assign (.tmp 101), 3, none, true⟩]
def rr_code_r25_go := @goOps Try.prog _ _ rr_code_r25.eq_1
def rr_code_r26 : List Sop := [
  ⟨some (138, false), .load 79 (.tmp 3), 79, none, true⟩,
  ⟨none, .store 79 (.tmp 2) (.tmp 138), 0, none, false⟩]
def rr_code_r26_go := @goOps Try.prog _ _ rr_code_r26.eq_1
def rr_code_l0 : Cd := .seq (.seq (.region rr_code_r6) (.cond (.tmp 52) (.skip) (.exit 0))) (.seq (.block 1 (.seq (.region rr_code_r7) (.seq (.region rr_code_r8) (.seq (.region rr_code_r9) (.seq (.region rr_code_r10) (.seq (.region rr_code_r11) (.region rr_code_r12))))))) (.region rr_code_r13))
def rr_code_l0_go := @goVc Try.prog _ _ rr_code_l0.eq_1
def rr_code_l1 : Cd := .seq (.seq (.region rr_code_r16) (.cond (.tmp 99) (.skip) (.exit 2))) (.seq (.block 3 (.seq (.region rr_code_r17) (.seq (.region rr_code_r18) (.seq (.seq (.region rr_code_r19) (.cond (.tmp 110) (.seq (.seq (.region rr_code_r20) (.cond (.tmp 111) (.region rr_code_r21) (.skip))) (.seq (.region rr_code_r22) (.draw rr_code_r23))) (.skip))) (.region rr_code_r24))))) (.region rr_code_r25))
def rr_code_l1_go := @goVc Try.prog _ _ rr_code_l1.eq_1
def rr_code_t0 : Cd := .seq (.region rr_code_r14) (.seq (.seq (.region rr_code_r15) (.block 2 (.loop rr_code_l1))) (.seq (.region rr_code_r26) (.ret)))
def rr_code_t0_go := @goVc Try.prog _ _ rr_code_t0.eq_1
def rr_code : Cd := .seq (.region rr_code_r0) (.seq (.region rr_code_r1) (.seq (.region rr_code_r2) (.seq (.region rr_code_r3) (.seq (.draw rr_code_r4) (.seq (.seq (.region rr_code_r5) (.block 0 (.loop rr_code_l0))) (rr_code_t0))))))
def rr_code_go := @goVc Try.prog _ _ rr_code.eq_1
theorem rr_code_calls {args : List Value} {h : Heap} {R : Value → Heap → Prop} (hl : args.length = 1) (hv : Cd.vc Try.prog rr_code (retQ Try.prog [(2, some 79)] R) (initEnv args [0, 2, 3, 4, 5, 6, 7, 8, 9, 10, 11, 52, 99, 110, 111]) h) : HCalls Try.prog 85 args.toArray h R :=
  hcalls_of_vc (by kernel_rfl) Try.func85 (cd := rr_code) (L := [0, 2, 3, 4, 5, 6, 7, 8, 9, 10, 11, 52, 99, 110, 111]) (by kernel_rfl) (by kernel_rfl) ⟨by rw [hl, Try.ntmps85]; decide, by rw [Try.ntmps85]; decide⟩ hv
def rr_code_gos := And.intro @rr_code_go (And.intro @rr_code_r0_go (And.intro @rr_code_r1_go (And.intro @rr_code_r2_go (And.intro @rr_code_r3_go (And.intro @rr_code_r4_go (And.intro @rr_code_r5_go (And.intro @rr_code_r6_go (And.intro @rr_code_r7_go (And.intro @rr_code_r8_go (And.intro @rr_code_r9_go (And.intro @rr_code_r10_go (And.intro @rr_code_r11_go (And.intro @rr_code_r12_go (And.intro @rr_code_r13_go (And.intro @rr_code_r14_go (And.intro @rr_code_r15_go (And.intro @rr_code_r16_go (And.intro @rr_code_r17_go (And.intro @rr_code_r18_go (And.intro @rr_code_r19_go (And.intro @rr_code_r20_go (And.intro @rr_code_r21_go (And.intro @rr_code_r22_go (And.intro @rr_code_r23_go (And.intro @rr_code_r24_go (And.intro @rr_code_r25_go (And.intro @rr_code_r26_go (And.intro @rr_code_l0_go (@rr_code_l1_go)))))))))))))))))))))))))))))

end Go.Proofs.Ytohkbpnblkkdgaa.C
