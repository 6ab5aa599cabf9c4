/- The stripped code of some functions of this seat's program, printed by a program; that it is that code is proved by the kernel. No condition. -/

import Derived.Test.YtohkbpnblkkdgaaProg

import Derived.Test.YtohkbpnblkkdgaaVcJ

set_option maxRecDepth 100000

set_option linter.defProp false

namespace Go.Proofs.Ytohkbpnblkkdgaa.C

open Go.Vc

/-! jvmcore/jvmcoreref1.Num: function 67: slots [0, 2, 3, 4, 8] -/
def ref1_Num_r0 : List Sop := [
  ⟨some (2, true), .assign (.const (.int .u64 0)), 74, none, true⟩]
def ref1_Num_r0_go := @goOps Try.prog _ _ ref1_Num_r0.eq_1
def ref1_Num_r1 : List Sop := [
  ⟨some (3, true), .assign (.const (.int .u64 0)), 74, none, true⟩]
def ref1_Num_r1_go := @goOps Try.prog _ _ ref1_Num_r1.eq_1
def ref1_Num_r2 : List Sop := [
  ⟨some (4, true), .assign (.const (.int .i64 0)), 3, none, true⟩]
def ref1_Num_r2_go := @goOps Try.prog _ _ ref1_Num_r2.eq_1
def ref1_Num_r3 : List Sop := [
  ⟨some (5, false), .move (.tmp 4), 3, none, true⟩,
  ⟨some (6, false), .move (.tmp 0), 9, none, true⟩,
  ⟨some (7, false), .call { callee := .builtin .len, args := #[.tmp 6], argTypes := #[9] }, 3, none, true⟩,
  ⟨some (8, true), .binOp .lss 3 (.tmp 5) (.tmp 7) 3, 4, none, true⟩]
def ref1_Num_r3_go := @goOps Try.prog _ _ ref1_Num_r3.eq_1
def ref1_Num_r4 : List Sop := [
  ⟨some (11, false), .move (.tmp 3), 74, none, true⟩,
  ⟨some (12, false), .binOp .mul 74 (.tmp 11) (.const (.int .u64 256)) 74, 74, none, true⟩,
  ⟨some (13, false), .move (.tmp 0), 9, none, true⟩,
  ⟨some (14, false), .move (.tmp 4), 3, none, true⟩,
  ⟨some (15, false), .index 9 (.tmp 13) (.tmp 14), 5, none, true⟩,
  ⟨some (16, false), .convert 5 74 (.tmp 15), 74, none, true⟩,
  ⟨some (17, false), .binOp .add 74 (.tmp 12) (.tmp 16) 74, 74, none, true⟩,
  ⟨some (3, true), .assign (.tmp 17), 74, none, true⟩]
def ref1_Num_r4_go := @goOps Try.prog _ _ ref1_Num_r4.eq_1
def ref1_Num_r5 : List Sop := [
  ⟨some (9, false), .move (.tmp 4), 3, none, true⟩,
  ⟨some (10, false), .binOp .add 3 (.tmp 9) (.const (.int .i64 1)) 3, 3, none, true⟩,
  ⟨some (4, true), .assign (.tmp 10), 3, none, true⟩]
def ref1_Num_r5_go := @goOps Try.prog _ _ ref1_Num_r5.eq_1
def ref1_Num_r6 : List Sop := [
  ⟨some (18, false), .move (.tmp 3), 74, none, true⟩,
  ⟨some (2, true), .assign (.tmp 18), 74, none, true⟩]
def ref1_Num_r6_go := @goOps Try.prog _ _ ref1_Num_r6.eq_1
def ref1_Num_l0 : Cd := .seq (.seq (.region ref1_Num_r3) (.cond (.tmp 8) (.skip) (.exit 0))) (.seq (.block 1 (.region ref1_Num_r4)) (.region ref1_Num_r5))
def ref1_Num_l0_go := @goVc Try.prog _ _ ref1_Num_l0.eq_1
def ref1_Num : Cd := .seq (.region ref1_Num_r0) (.seq (.region ref1_Num_r1) (.seq (.seq (.region ref1_Num_r2) (.block 0 (.loop ref1_Num_l0))) (.seq (.region ref1_Num_r6) (.ret))))
def ref1_Num_go := @goVc Try.prog _ _ ref1_Num.eq_1
theorem ref1_Num_calls {args : List Value} {h : Heap} {R : Value → Heap → Prop} (hl : args.length = 1) (hv : Cd.vc Try.prog ref1_Num (retQ Try.prog [(2, none)] R) (initEnv args [0, 2, 3, 4, 8]) h) : HCalls Try.prog 67 args.toArray h R :=
  hcalls_of_vc (by kernel_rfl) Try.func67 (cd := ref1_Num) (L := [0, 2, 3, 4, 8]) (by kernel_rfl) (by kernel_rfl) ⟨by rw [hl, Try.ntmps67]; decide, by rw [Try.ntmps67]; decide⟩ hv
def ref1_Num_gos := And.intro @ref1_Num_go (And.intro @ref1_Num_r0_go (And.intro @ref1_Num_r1_go (And.intro @ref1_Num_r2_go (And.intro @ref1_Num_r3_go (And.intro @ref1_Num_r4_go (And.intro @ref1_Num_r5_go (And.intro @ref1_Num_r6_go (@ref1_Num_l0_go))))))))

/-! (*jvmcore/jvmcoreref3.cut).fail: function 34: slots [0, 1, 2, 10] -/
def cut_fail_r0 : List Sop := [
  ⟨some (6, false), .move (.tmp 0), 64, none, true⟩,
  ⟨some (7, false), .nilCheck (.tmp 6), 0, none, true⟩,
  ⟨some (8, false), .fieldAddr 66 (.tmp 7) 2, 0, none, true⟩,
  ⟨some (9, false), .load 27 (.tmp 8), 27, none, true⟩,
  ⟨some (10, true), .binOp .eql 27 (.tmp 9) (.const (.int .i64 0)) 27, 4, none, true⟩]
def cut_fail_r0_go := @goOps Try.prog _ _ cut_fail_r0.eq_1
def cut_fail_r1 : List Sop := [
  ⟨some (11, false), .move (.tmp 0), 64, none, true⟩,
  ⟨some (12, false), .move (.tmp 1), 27, none, true⟩,
  ⟨some (13, false), .nilCheck (.tmp 11), 0, none, true⟩,
  ⟨some (14, false), .fieldAddr 66 (.tmp 13) 2, 0, none, true⟩,
  ⟨none, .store 27 (.tmp 14) (.tmp 12), 0, none, false⟩]
def cut_fail_r1_go := @goOps Try.prog _ _ cut_fail_r1.eq_1
def cut_fail_r2 : List Sop := [
  ⟨some (15, false), .move (.tmp 0), 64, none, true⟩,
  ⟨some (16, false), .move (.tmp 2), 3, none, true⟩,
  ⟨some (17, false), .nilCheck (.tmp 15), 0, none, true⟩,
  ⟨some (18, false), .fieldAddr 66 (.tmp 17) 3, 0, none, true⟩,
  ⟨none, .store 3 (.tmp 18) (.tmp 16), 0, none, false⟩]
def cut_fail_r2_go := @goOps Try.prog _ _ cut_fail_r2.eq_1
def cut_fail : Cd := .seq (.region cut_fail_r0) (.cond (.tmp 10) (.seq (.region cut_fail_r1) (.region cut_fail_r2)) (.skip))
def cut_fail_go := @goVc Try.prog _ _ cut_fail.eq_1
theorem cut_fail_calls {args : List Value} {h : Heap} {R : Value → Heap → Prop} (hl : args.length = 3) (hv : Cd.vc Try.prog cut_fail (retQ Try.prog [] R) (initEnv args [0, 1, 2, 10]) h) : HCalls Try.prog 34 args.toArray h R :=
  hcalls_of_vc (by kernel_rfl) Try.func34 (cd := cut_fail) (L := [0, 1, 2, 10]) (by kernel_rfl) (by kernel_rfl) ⟨by rw [hl, Try.ntmps34]; decide, by rw [Try.ntmps34]; decide⟩ hv
def cut_fail_gos := And.intro @cut_fail_go (And.intro @cut_fail_r0_go (And.intro @cut_fail_r1_go (@cut_fail_r2_go)))

/-! (*jvmcore/jvmcoreref3.cut).take: function 58: slots [0, 1, 4, 5, 28, 40] -/
def cut_take_r0 : List Sop := [
  ⟨some (4, true), .assign (.const (.string { data := #[] })), 9, none, true⟩]
def cut_take_r0_go := @goOps Try.prog _ _ cut_take_r0.eq_1
def cut_take_r1 : List (Sop × List Sop) := [
  (⟨some (6, false), .move (.tmp 0), 64, none, true⟩, []),
  (⟨some (7, false), .nilCheck (.tmp 6), 0, none, true⟩, []),
  (⟨some (8, false), .fieldAddr 66 (.tmp 7) 2, 0, none, true⟩, []),
  (⟨some (9, false), .load 27 (.tmp 8), 27, none, true⟩, []),
  (⟨some (10, false), .binOp .eql 27 (.tmp 9) (.const (.int .i64 0)) 27, 4, none, true⟩, []),
  (⟨some (11, false), .move (.tmp 10), 4, none, true⟩, []),
  (⟨some (12, false), .move (.tmp 1), 3, some (11, true), true⟩, []),
  (⟨some (13, false), .binOp .lss 3 (.tmp 12) (.const (.int .i64 0)) 3, 4, some (11, true), true⟩, []),
  (⟨some (14, false), .move (.tmp 13), 4, some (11, true), true⟩, []),
  (⟨some (15, false), .move (.tmp 0), 64, some (14, false), true⟩, []),
  (⟨some (16, false), .nilCheck (.tmp 15), 0, some (14, false), true⟩, []),
  (⟨some (17, false), .fieldAddr 66 (.tmp 16) 1, 0, some (14, false), true⟩, []),
  (⟨some (18, false), .load 3 (.tmp 17), 3, some (14, false), true⟩, []),
  (⟨some (19, false), .move (.tmp 1), 3, some (14, false), true⟩, []),
  (⟨some (20, false), .binOp .add 3 (.tmp 18) (.tmp 19) 3, 3, some (14, false), true⟩, []),
  (⟨some (21, false), .move (.tmp 0), 64, some (14, false), true⟩, []),
  (⟨some (22, false), .nilCheck (.tmp 21), 0, some (14, false), true⟩, []),
  (⟨some (23, false), .fieldAddr 66 (.tmp 22) 0, 0, some (14, false), true⟩, []),
  (⟨some (24, false), .load 9 (.tmp 23), 9, some (14, false), true⟩, []),
  (⟨some (25, false), .call { callee := .builtin .len, args := #[.tmp 24], argTypes := #[9] }, 3, some (14, false), true⟩, []),
  (⟨some (26, false), .binOp .gtr 3 (.tmp 20) (.tmp 25) 3, 4, some (14, false), true⟩, []),
  (⟨some (27, false), .pick (.tmp 14) (.const (.bool true)) (.tmp 26), 4, some (11, true), true⟩, []),
  (⟨some (28, true), .pick (.tmp 11) (.tmp 27) (.const (.bool false)), 4, none, true⟩, [])]
def cut_take_r1_go := @goDraw Try.prog _ _ cut_take_r1.eq_1
def cut_take_r2 : List Sop := [
  ⟨some (29, false), .move (.tmp 0), 64, none, true⟩,
  ⟨some (30, false), .move (.tmp 0), 64, none, true⟩,
  ⟨some (31, false), .nilCheck (.tmp 30), 0, none, true⟩,
  ⟨some (32, false), .fieldAddr 66 (.tmp 31) 0, 0, none, true⟩,
  ⟨some (33, false), .load 9 (.tmp 32), 9, none, true⟩,
  ⟨some (34, false), .call { callee := .builtin .len, args := #[.tmp 33], argTypes := #[9] }, 3, none, true⟩,
  ⟨some (35, false), .call { callee := .value (.func 34), args := #[.tmp 29, .const (.int .i64 1), .tmp 34], argTypes := #[64, 27, 3] }, 0, none, false⟩]
def cut_take_r2_go := @goOps Try.prog _ _ cut_take_r2.eq_1
def cut_take_r3 : List Sop := [
  ⟨some (36, false), .move (.tmp 0), 64, none, true⟩,
  ⟨some (37, false), .nilCheck (.tmp 36), 0, none, true⟩,
  ⟨some (38, false), .fieldAddr 66 (.tmp 37) 2, 0, none, true⟩,
  ⟨some (39, false), .load 27 (.tmp 38), 27, none, true⟩,
  ⟨some (40, true), .binOp .neq 27 (.tmp 39) (.const (.int .i64 0)) 27, 4, none, true⟩]
def cut_take_r3_go := @goOps Try.prog _ _ cut_take_r3.eq_1
def cut_take_r4 : List Sop := [
  ⟨some (4, true), .assign (.const (.string { data := #[] })), 9, none, true⟩]
def cut_take_r4_go := @goOps Try.prog _ _ cut_take_r4.eq_1
def cut_take_r5 : List (Sop × List Sop) := [
  (⟨some (41, false), .move (.tmp 0), 64, none, true⟩, []),
  (⟨some (42, false), .nilCheck (.tmp 41), 0, none, true⟩, []),
  (⟨some (43, false), .fieldAddr 66 (.tmp 42) 0, 0, none, true⟩, []),
  (⟨some (44, false), .load 9 (.tmp 43), 9, none, true⟩, []),
  (⟨some (45, false), .move (.tmp 0), 64, none, true⟩, []),
  (⟨some (46, false), .nilCheck (.tmp 45), 0, none, true⟩, []),
  (⟨some (47, false), .fieldAddr 66 (.tmp 46) 1, 0, none, true⟩, []),
  (⟨some (48, false), .load 3 (.tmp 47), 3, none, true⟩, []),
  (⟨some (49, false), .move (.tmp 0), 64, none, true⟩, []),
  (⟨some (50, false), .nilCheck (.tmp 49), 0, none, true⟩, []),
  (⟨some (51, false), .fieldAddr 66 (.tmp 50) 1, 0, none, true⟩, []),
  (⟨some (52, false), .load 3 (.tmp 51), 3, none, true⟩, []),
  (⟨some (53, false), .move (.tmp 1), 3, none, true⟩, []),
  (⟨some (54, false), .binOp .add 3 (.tmp 52) (.tmp 53) 3, 3, none, true⟩, []),
  (⟨some (55, false), .slice 9 (.tmp 44) (some (.tmp 48)) (some (.tmp 54)) none, 9, none, true⟩, []),
  (⟨some (5, true), .assign (.tmp 55), 9, none, true⟩, [])]
def cut_take_r5_go := @goDraw Try.prog _ _ cut_take_r5.eq_1
def cut_take_r6 : List Sop := [
  ⟨some (56, false), .move (.tmp 0), 64, none, true⟩,
  ⟨some (57, false), .nilCheck (.tmp 56), 0, none, true⟩,
  ⟨some (58, false), .fieldAddr 66 (.tmp 57) 1, 0, none, true⟩,
  ⟨some (59, false), .load 3 (.tmp 58), 3, none, true⟩,
  ⟨some (60, false), .move (.tmp 1), 3, none, true⟩,
  ⟨some (61, false), .binOp .add 3 (.tmp 59) (.tmp 60) 3, 3, none, true⟩,
  ⟨some (62, false), .nilCheck (.tmp 56), 0, none, true⟩,
  ⟨some (63, false), .fieldAddr 66 (.tmp 62) 1, 0, none, true⟩,
  ⟨none, .store 3 (.tmp 63) (.tmp 61), 0, none, false⟩]
def cut_take_r6_go := @goOps Try.prog _ _ cut_take_r6.eq_1
def cut_take_r7 : List Sop := [
  ⟨some (64, false), .move (.tmp 5), 9, none, true⟩,
  ⟨some (4, true), .assign (.tmp 64), 9, none, true⟩]
def cut_take_r7_go := @goOps Try.prog _ _ cut_take_r7.eq_1
def cut_take : Cd := .seq (.region cut_take_r0) (.seq (.seq (.draw cut_take_r1) (.cond (.tmp 28) (.region cut_take_r2) (.skip))) (.seq (.seq (.region cut_take_r3) (.cond (.tmp 40) (.seq (.region cut_take_r4) (.ret)) (.skip))) (.seq (.draw cut_take_r5) (.seq (.region cut_take_r6) (.seq (.region cut_take_r7) (.ret))))))
def cut_take_go := @goVc Try.prog _ _ cut_take.eq_1
theorem cut_take_calls {args : List Value} {h : Heap} {R : Value → Heap → Prop} (hl : args.length = 2) (hv : Cd.vc Try.prog cut_take (retQ Try.prog [(4, none)] R) (initEnv args [0, 1, 4, 5, 28, 40]) h) : HCalls Try.prog 58 args.toArray h R :=
  hcalls_of_vc (by kernel_rfl) Try.func58 (cd := cut_take) (L := [0, 1, 4, 5, 28, 40]) (by kernel_rfl) (by kernel_rfl) ⟨by rw [hl, Try.ntmps58]; decide, by rw [Try.ntmps58]; decide⟩ hv
def cut_take_gos := And.intro @cut_take_go (And.intro @cut_take_r0_go (And.intro @cut_take_r1_go (And.intro @cut_take_r2_go (And.intro @cut_take_r3_go (And.intro @cut_take_r4_go (And.intro @cut_take_r5_go (And.intro @cut_take_r6_go (@cut_take_r7_go))))))))

/-! (*jvmcore/jvmcoreref3.cut).num: function 31: slots [0, 1, 4] -/
def cut_num_r0 : List Sop := [
  ⟨some (4, true), .assign (.const (.int .i64 0)), 3, none, true⟩]
def cut_num_r0_go := @goOps Try.prog _ _ cut_num_r0.eq_1
def cut_num_r1 : List Sop := [
  ⟨some (5, false), .move (.tmp 0), 64, none, true⟩,
  ⟨some (6, false), .move (.tmp 1), 3, none, true⟩,
  ⟨some (7, false), .call { callee := .value (.func 58), args := #[.tmp 5, .tmp 6], argTypes := #[64, 3] }, 9, none, false⟩,
  ⟨some (8, false), .call { callee := .value (.func 67), args := #[.tmp 7], argTypes := #[9] }, 74, none, false⟩,
  ⟨some (9, false), .convert 74 3 (.tmp 8), 3, none, true⟩,
  ⟨some (4, true), .assign (.tmp 9), 3, none, true⟩]
def cut_num_r1_go := @goOps Try.prog _ _ cut_num_r1.eq_1
def cut_num : Cd := .seq (.region cut_num_r0) (.seq (.region cut_num_r1) (.ret))
def cut_num_go := @goVc Try.prog _ _ cut_num.eq_1
theorem cut_num_calls {args : List Value} {h : Heap} {R : Value → Heap → Prop} (hl : args.length = 2) (hv : Cd.vc Try.prog cut_num (retQ Try.prog [(4, none)] R) (initEnv args [0, 1, 4]) h) : HCalls Try.prog 31 args.toArray h R :=
  hcalls_of_vc (by kernel_rfl) Try.func31 (cd := cut_num) (L := [0, 1, 4]) (by kernel_rfl) (by kernel_rfl) ⟨by rw [hl, Try.ntmps31]; decide, by rw [Try.ntmps31]; decide⟩ hv
def cut_num_gos := And.intro @cut_num_go (And.intro @cut_num_r0_go (@cut_num_r1_go))

end Go.Proofs.Ytohkbpnblkkdgaa.C
