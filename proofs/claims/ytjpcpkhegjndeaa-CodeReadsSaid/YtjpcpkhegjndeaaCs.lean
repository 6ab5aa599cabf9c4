/- The stripped code of some functions of this seat's program, printed by a program; that it is that code is proved by the kernel. No condition. -/

import Derived.Test.YtjpcpkhegjndeaaProg

import Derived.Test.YtjpcpkhegjndeaaVcH

set_option maxRecDepth 100000

set_option linter.defProp false

namespace Go.Proofs.Ytjpcpkhegjndeaa.C

open Go.Vc

/-! jvmcore/jvmcorelaw2.same: function 10: slots [0, 1, 4, 5, 6, 7, 12, 14, 15, 16, 81] -/
def law2_same_r0 : List Sop := [
  ⟨some (4, true), .assign (.const (.bool false)), 4, none, true⟩]
theorem law2_same_r0_go {K : Env → Heap → Prop} {τ ρ : Env} {h : Heap} : vcOps Try.prog K law2_same_r0 τ ρ h = vcOps Try.prog K [
  ⟨some (4, true), .assign (.const (.bool false)), 4, none, true⟩] τ ρ h := _root_.id rfl
def law2_same_r1 : List Sop := [
  ⟨some (8, false), .move (.tmp 0), 22, none, true⟩,
  ⟨some (9, false), .call { callee := .builtin .len, args := #[.tmp 8], argTypes := #[22] }, 3, none, true⟩,
  ⟨some (10, false), .move (.tmp 1), 22, none, true⟩,
  ⟨some (11, false), .call { callee := .builtin .len, args := #[.tmp 10], argTypes := #[22] }, 3, none, true⟩,
  ⟨some (12, true), .binOp .neq 3 (.tmp 9) (.tmp 11) 3, 4, none, true⟩]
theorem law2_same_r1_go {K : Env → Heap → Prop} {τ ρ : Env} {h : Heap} : vcOps Try.prog K law2_same_r1 τ ρ h = vcOps Try.prog K [
  ⟨some (8, false), .move (.tmp 0), 22, none, true⟩,
  ⟨some (9, false), .call { callee := .builtin .len, args := #[.tmp 8], argTypes := #[22] }, 3, none, true⟩,
  ⟨some (10, false), .move (.tmp 1), 22, none, true⟩,
  ⟨some (11, false), .call { callee := .builtin .len, args := #[.tmp 10], argTypes := #[22] }, 3, none, true⟩,
  ⟨some (12, true), .binOp .neq 3 (.tmp 9) (.tmp 11) 3, 4, none, true⟩] τ ρ h := _root_.id rfl
def law2_same_r2 : List Sop := [
  ⟨some (4, true), .assign (.const (.bool false)), 4, none, true⟩]
theorem law2_same_r2_go {K : Env → Heap → Prop} {τ ρ : Env} {h : Heap} : vcOps Try.prog K law2_same_r2 τ ρ h = vcOps Try.prog K [
  ⟨some (4, true), .assign (.const (.bool false)), 4, none, true⟩] τ ρ h := _root_.id rfl
def law2_same_r3 : List Sop := [
  ⟨some (13, false), .move (.tmp 0), 22, none, true⟩,
  ⟨some (14, true), .call { callee := .builtin .len, args := #[.tmp 13], argTypes := #[22] }, 3, none, true⟩,
  ⟨some (15, true), .move (.const (.int .i64 0)), 3, none, true⟩]
theorem law2_same_r3_go {K : Env → Heap → Prop} {τ ρ : Env} {h : Heap} : vcOps Try.prog K law2_same_r3 τ ρ h = vcOps Try.prog K [
  ⟨some (13, false), .move (.tmp 0), 22, none, true⟩,
  ⟨some (14, true), .call { callee := .builtin .len, args := #[.tmp 13], argTypes := #[22] }, 3, none, true⟩,
  ⟨some (15, true), .move (.const (.int .i64 0)), 3, none, true⟩] τ ρ h := _root_.id rfl
def law2_same_r4 : List Sop := [
  ⟨some (16, true), .binOp .lss 3 (.tmp 15) (.tmp 14) 3, 0, none, true⟩]
theorem law2_same_r4_go {K : Env → Heap → Prop} {τ ρ : Env} {h : Heap} : vcOps Try.prog K law2_same_r4 τ ρ h = vcOps Try.prog K [
  ⟨some (16, true), .binOp .lss 3 (.tmp 15) (.tmp 14) 3, 0, none, true⟩] τ ρ h := _root_.id rfl
def law2_same_r5 : List Sop := [
  ⟨some (17, false), .move (.tmp 15), 3, none, true⟩,
  ⟨some (5, true), .assign (.tmp 17), 3, none, true⟩]
theorem law2_same_r5_go {K : Env → Heap → Prop} {τ ρ : Env} {h : Heap} : vcOps Try.prog K law2_same_r5 τ ρ h = vcOps Try.prog K [
  ⟨some (17, false), .move (.tmp 15), 3, none, true⟩,
  ⟨some (5, true), .assign (.tmp 17), 3, none, true⟩] τ ρ h := _root_.id rfl
def law2_same_r6 : List Sop := [
  ⟨some (18, false), .move (.tmp 0), 22, none, true⟩,
  ⟨some (19, false), .move (.tmp 5), 3, none, true⟩,
  ⟨some (20, false), .indexAddr 22 (.tmp 18) (.tmp 19), 0, none, true⟩,
  ⟨some (21, false), .load 35 (.tmp 20), 35, none, true⟩,
  ⟨some (6, true), .alloc 35, 0, none, false⟩,
  ⟨none, .store 35 (.tmp 6) (.tmp 21), 0, none, false⟩]
theorem law2_same_r6_go {K : Env → Heap → Prop} {τ ρ : Env} {h : Heap} : vcOps Try.prog K law2_same_r6 τ ρ h = vcOps Try.prog K [
  ⟨some (18, false), .move (.tmp 0), 22, none, true⟩,
  ⟨some (19, false), .move (.tmp 5), 3, none, true⟩,
  ⟨some (20, false), .indexAddr 22 (.tmp 18) (.tmp 19), 0, none, true⟩,
  ⟨some (21, false), .load 35 (.tmp 20), 35, none, true⟩,
  ⟨some (6, true), .alloc 35, 0, none, false⟩,
  ⟨none, .store 35 (.tmp 6) (.tmp 21), 0, none, false⟩] τ ρ h := _root_.id rfl
def law2_same_r7 : List Sop := [
  ⟨some (22, false), .move (.tmp 1), 22, none, true⟩,
  ⟨some (23, false), .move (.tmp 5), 3, none, true⟩,
  ⟨some (24, false), .indexAddr 22 (.tmp 22) (.tmp 23), 0, none, true⟩,
  ⟨some (25, false), .load 35 (.tmp 24), 35, none, true⟩,
  ⟨some (7, true), .alloc 35, 0, none, false⟩,
  ⟨none, .store 35 (.tmp 7) (.tmp 25), 0, none, false⟩]
theorem law2_same_r7_go {K : Env → Heap → Prop} {τ ρ : Env} {h : Heap} : vcOps Try.prog K law2_same_r7 τ ρ h = vcOps Try.prog K [
  ⟨some (22, false), .move (.tmp 1), 22, none, true⟩,
  ⟨some (23, false), .move (.tmp 5), 3, none, true⟩,
  ⟨some (24, false), .indexAddr 22 (.tmp 22) (.tmp 23), 0, none, true⟩,
  ⟨some (25, false), .load 35 (.tmp 24), 35, none, true⟩,
  ⟨some (7, true), .alloc 35, 0, none, false⟩,
  ⟨none, .store 35 (.tmp 7) (.tmp 25), 0, none, false⟩] τ ρ h := _root_.id rfl
def law2_same_r8 : List Sop := [
  ⟨some (26, false), .fieldAddr 35 (.tmp 6) 0, 0, none, true⟩,
  ⟨some (27, false), .load 3 (.tmp 26), 3, none, true⟩,
  ⟨some (28, false), .fieldAddr 35 (.tmp 7) 0, 0, none, true⟩,
  ⟨some (29, false), .load 3 (.tmp 28), 3, none, true⟩,
  ⟨some (30, false), .binOp .neq 3 (.tmp 27) (.tmp 29) 3, 4, none, true⟩,
  ⟨some (31, false), .move (.tmp 30), 4, none, true⟩,
  ⟨some (32, false), .fieldAddr 35 (.tmp 6) 1, 0, some (31, false), true⟩,
  ⟨some (33, false), .load 5 (.tmp 32), 5, some (31, false), true⟩,
  ⟨some (34, false), .fieldAddr 35 (.tmp 7) 1, 0, some (31, false), true⟩,
  ⟨some (35, false), .load 5 (.tmp 34), 5, some (31, false), true⟩,
  ⟨some (36, false), .binOp .neq 5 (.tmp 33) (.tmp 35) 5, 4, some (31, false), true⟩,
  ⟨some (37, false), .pick (.tmp 31) (.const (.bool true)) (.tmp 36), 4, none, true⟩,
  ⟨some (38, false), .move (.tmp 37), 4, none, true⟩,
  ⟨some (39, false), .fieldAddr 35 (.tmp 6) 2, 0, some (38, false), true⟩,
  ⟨some (40, false), .load 4 (.tmp 39), 4, some (38, false), true⟩,
  ⟨some (41, false), .fieldAddr 35 (.tmp 7) 2, 0, some (38, false), true⟩,
  ⟨some (42, false), .load 4 (.tmp 41), 4, some (38, false), true⟩,
  ⟨some (43, false), .binOp .neq 4 (.tmp 40) (.tmp 42) 4, 4, some (38, false), true⟩,
  ⟨some (44, false), .pick (.tmp 38) (.const (.bool true)) (.tmp 43), 4, none, true⟩,
  ⟨some (45, false), .move (.tmp 44), 4, none, true⟩,
  ⟨some (46, false), .fieldAddr 35 (.tmp 6) 3, 0, some (45, false), true⟩,
  ⟨some (47, false), .load 3 (.tmp 46), 3, some (45, false), true⟩,
  ⟨some (48, false), .fieldAddr 35 (.tmp 7) 3, 0, some (45, false), true⟩,
  ⟨some (49, false), .load 3 (.tmp 48), 3, some (45, false), true⟩,
  ⟨some (50, false), .binOp .neq 3 (.tmp 47) (.tmp 49) 3, 4, some (45, false), true⟩,
  ⟨some (51, false), .pick (.tmp 45) (.const (.bool true)) (.tmp 50), 4, none, true⟩,
  ⟨some (52, false), .move (.tmp 51), 4, none, true⟩,
  ⟨some (53, false), .fieldAddr 35 (.tmp 6) 4, 0, some (52, false), true⟩,
  ⟨some (54, false), .load 3 (.tmp 53), 3, some (52, false), true⟩,
  ⟨some (55, false), .fieldAddr 35 (.tmp 7) 4, 0, some (52, false), true⟩,
  ⟨some (56, false), .load 3 (.tmp 55), 3, some (52, false), true⟩,
  ⟨some (57, false), .binOp .neq 3 (.tmp 54) (.tmp 56) 3, 4, some (52, false), true⟩,
  ⟨some (58, false), .pick (.tmp 52) (.const (.bool true)) (.tmp 57), 4, none, true⟩,
  ⟨some (59, false), .move (.tmp 58), 4, none, true⟩,
  ⟨some (60, false), .fieldAddr 35 (.tmp 6) 5, 0, some (59, false), true⟩,
  ⟨some (61, false), .load 3 (.tmp 60), 3, some (59, false), true⟩,
  ⟨some (62, false), .fieldAddr 35 (.tmp 7) 5, 0, some (59, false), true⟩,
  ⟨some (63, false), .load 3 (.tmp 62), 3, some (59, false), true⟩,
  ⟨some (64, false), .binOp .neq 3 (.tmp 61) (.tmp 63) 3, 4, some (59, false), true⟩,
  ⟨some (65, false), .pick (.tmp 59) (.const (.bool true)) (.tmp 64), 4, none, true⟩,
  ⟨some (66, false), .move (.tmp 65), 4, none, true⟩,
  ⟨some (67, false), .fieldAddr 35 (.tmp 6) 6, 0, some (66, false), true⟩,
  ⟨some (68, false), .load 33 (.tmp 67), 33, some (66, false), true⟩,
  ⟨some (69, false), .fieldAddr 35 (.tmp 7) 6, 0, some (66, false), true⟩,
  ⟨some (70, false), .load 33 (.tmp 69), 33, some (66, false), true⟩,
  ⟨some (71, false), .call { callee := .value (.func 18), args := #[.tmp 68, .tmp 70], argTypes := #[33, 33] }, 4, some (66, false), false⟩,
  ⟨some (72, false), .unOp .not 4 (.tmp 71), 4, some (66, false), true⟩,
  ⟨some (73, false), .pick (.tmp 66) (.const (.bool true)) (.tmp 72), 4, none, true⟩,
  ⟨some (74, false), .move (.tmp 73), 4, none, true⟩,
  ⟨some (75, false), .fieldAddr 35 (.tmp 6) 7, 0, some (74, false), true⟩,
  ⟨some (76, false), .load 33 (.tmp 75), 33, some (74, false), true⟩,
  ⟨some (77, false), .fieldAddr 35 (.tmp 7) 7, 0, some (74, false), true⟩,
  ⟨some (78, false), .load 33 (.tmp 77), 33, some (74, false), true⟩,
  ⟨some (79, false), .call { callee := .value (.func 18), args := #[.tmp 76, .tmp 78], argTypes := #[33, 33] }, 4, some (74, false), false⟩,
  ⟨some (80, false), .unOp .not 4 (.tmp 79), 4, some (74, false), true⟩,
  ⟨some (81, true), .pick (.tmp 74) (.const (.bool true)) (.tmp 80), 4, none, true⟩]
theorem law2_same_r8_go {K : Env → Heap → Prop} {τ ρ : Env} {h : Heap} : vcOps Try.prog K law2_same_r8 τ ρ h = vcOps Try.prog K [
  ⟨some (26, false), .fieldAddr 35 (.tmp 6) 0, 0, none, true⟩,
  ⟨some (27, false), .load 3 (.tmp 26), 3, none, true⟩,
  ⟨some (28, false), .fieldAddr 35 (.tmp 7) 0, 0, none, true⟩,
  ⟨some (29, false), .load 3 (.tmp 28), 3, none, true⟩,
  ⟨some (30, false), .binOp .neq 3 (.tmp 27) (.tmp 29) 3, 4, none, true⟩,
  ⟨some (31, false), .move (.tmp 30), 4, none, true⟩,
  ⟨some (32, false), .fieldAddr 35 (.tmp 6) 1, 0, some (31, false), true⟩,
  ⟨some (33, false), .load 5 (.tmp 32), 5, some (31, false), true⟩,
  ⟨some (34, false), .fieldAddr 35 (.tmp 7) 1, 0, some (31, false), true⟩,
  ⟨some (35, false), .load 5 (.tmp 34), 5, some (31, false), true⟩,
  ⟨some (36, false), .binOp .neq 5 (.tmp 33) (.tmp 35) 5, 4, some (31, false), true⟩,
  ⟨some (37, false), .pick (.tmp 31) (.const (.bool true)) (.tmp 36), 4, none, true⟩,
  ⟨some (38, false), .move (.tmp 37), 4, none, true⟩,
  ⟨some (39, false), .fieldAddr 35 (.tmp 6) 2, 0, some (38, false), true⟩,
  ⟨some (40, false), .load 4 (.tmp 39), 4, some (38, false), true⟩,
  ⟨some (41, false), .fieldAddr 35 (.tmp 7) 2, 0, some (38, false), true⟩,
  ⟨some (42, false), .load 4 (.tmp 41), 4, some (38, false), true⟩,
  ⟨some (43, false), .binOp .neq 4 (.tmp 40) (.tmp 42) 4, 4, some (38, false), true⟩,
  ⟨some (44, false), .pick (.tmp 38) (.const (.bool true)) (.tmp 43), 4, none, true⟩,
  ⟨some (45, false), .move (.tmp 44), 4, none, true⟩,
  ⟨some (46, false), .fieldAddr 35 (.tmp 6) 3, 0, some (45, false), true⟩,
  ⟨some (47, false), .load 3 (.tmp 46), 3, some (45, false), true⟩,
  ⟨some (48, false), .fieldAddr 35 (.tmp 7) 3, 0, some (45, false), true⟩,
  ⟨some (49, false), .load 3 (.tmp 48), 3, some (45, false), true⟩,
  ⟨some (50, false), .binOp .neq 3 (.tmp 47) (.tmp 49) 3, 4, some (45, false), true⟩,
  ⟨some (51, false), .pick (.tmp 45) (.const (.bool true)) (.tmp 50), 4, none, true⟩,
  ⟨some (52, false), .move (.tmp 51), 4, none, true⟩,
  ⟨some (53, false), .fieldAddr 35 (.tmp 6) 4, 0, some (52, false), true⟩,
  ⟨some (54, false), .load 3 (.tmp 53), 3, some (52, false), true⟩,
  ⟨some (55, false), .fieldAddr 35 (.tmp 7) 4, 0, some (52, false), true⟩,
  ⟨some (56, false), .load 3 (.tmp 55), 3, some (52, false), true⟩,
  ⟨some (57, false), .binOp .neq 3 (.tmp 54) (.tmp 56) 3, 4, some (52, false), true⟩,
  ⟨some (58, false), .pick (.tmp 52) (.const (.bool true)) (.tmp 57), 4, none, true⟩,
  ⟨some (59, false), .move (.tmp 58), 4, none, true⟩,
  ⟨some (60, false), .fieldAddr 35 (.tmp 6) 5, 0, some (59, false), true⟩,
  ⟨some (61, false), .load 3 (.tmp 60), 3, some (59, false), true⟩,
  ⟨some (62, false), .fieldAddr 35 (.tmp 7) 5, 0, some (59, false), true⟩,
  ⟨some (63, false), .load 3 (.tmp 62), 3, some (59, false), true⟩,
  ⟨some (64, false), .binOp .neq 3 (.tmp 61) (.tmp 63) 3, 4, some (59, false), true⟩,
  ⟨some (65, false), .pick (.tmp 59) (.const (.bool true)) (.tmp 64), 4, none, true⟩,
  ⟨some (66, false), .move (.tmp 65), 4, none, true⟩,
  ⟨some (67, false), .fieldAddr 35 (.tmp 6) 6, 0, some (66, false), true⟩,
  ⟨some (68, false), .load 33 (.tmp 67), 33, some (66, false), true⟩,
  ⟨some (69, false), .fieldAddr 35 (.tmp 7) 6, 0, some (66, false), true⟩,
  ⟨some (70, false), .load 33 (.tmp 69), 33, some (66, false), true⟩,
  ⟨some (71, false), .call { callee := .value (.func 18), args := #[.tmp 68, .tmp 70], argTypes := #[33, 33] }, 4, some (66, false), false⟩,
  ⟨some (72, false), .unOp .not 4 (.tmp 71), 4, some (66, false), true⟩,
  ⟨some (73, false), .pick (.tmp 66) (.const (.bool true)) (.tmp 72), 4, none, true⟩,
  ⟨some (74, false), .move (.tmp 73), 4, none, true⟩,
  ⟨some (75, false), .fieldAddr 35 (.tmp 6) 7, 0, some (74, false), true⟩,
  ⟨some (76, false), .load 33 (.tmp 75), 33, some (74, false), true⟩,
  ⟨some (77, false), .fieldAddr 35 (.tmp 7) 7, 0, some (74, false), true⟩,
  ⟨some (78, false), .load 33 (.tmp 77), 33, some (74, false), true⟩,
  ⟨some (79, false), .call { callee := .value (.func 18), args := #[.tmp 76, .tmp 78], argTypes := #[33, 33] }, 4, some (74, false), false⟩,
  ⟨some (80, false), .unOp .not 4 (.tmp 79), 4, some (74, false), true⟩,
  ⟨some (81, true), .pick (.tmp 74) (.const (.bool true)) (.tmp 80), 4, none, true⟩] τ ρ h := _root_.id rfl
def law2_same_r9 : List Sop := [
  ⟨some (4, true), .assign (.const (.bool false)), 4, none, true⟩]
theorem law2_same_r9_go {K : Env → Heap → Prop} {τ ρ : Env} {h : Heap} : vcOps Try.prog K law2_same_r9 τ ρ h = vcOps Try.prog K [
  ⟨some (4, true), .assign (.const (.bool false)), 4, none, true⟩] τ ρ h := _root_.id rfl
def law2_same_r10 : List Sop := [
  ⟨some (82, false), .binOp .add 3 (.tmp 15) (.const (.int .i64 1)) 3, 3, none, true⟩,
  ⟨some (15, true), .move (.tmp 82), 3, none, true⟩]
theorem law2_same_r10_go {K : Env → Heap → Prop} {τ ρ : Env} {h : Heap} : vcOps Try.prog K law2_same_r10 τ ρ h = vcOps Try.prog K [
  ⟨some (82, false), .binOp .add 3 (.tmp 15) (.const (.int .i64 1)) 3, 3, none, true⟩,
  ⟨some (15, true), .move (.tmp 82), 3, none, true⟩] τ ρ h := _root_.id rfl
def law2_same_r11 : List Sop := [
  ⟨some (4, true), .assign (.const (.bool true)), 4, none, true⟩]
theorem law2_same_r11_go {K : Env → Heap → Prop} {τ ρ : Env} {h : Heap} : vcOps Try.prog K law2_same_r11 τ ρ h = vcOps Try.prog K [
  ⟨some (4, true), .assign (.const (.bool true)), 4, none, true⟩] τ ρ h := _root_.id rfl
def law2_same_l0 : Cd := .seq (.region law2_same_r4) (.seq (.cond (.tmp 16) (.skip) (.exit 0)) (.seq (.block 1 (.seq (.region law2_same_r5) (.seq (.region law2_same_r6) (.seq (.region law2_same_r7) (.seq (.region law2_same_r8) (.cond (.tmp 81) (.seq (.region law2_same_r9) (.ret)) (.skip))))))) (.region law2_same_r10)))
theorem law2_same_l0_go {Q : Ex → Env → Heap → Prop} {ρ : Env} {h : Heap} : Cd.vc Try.prog law2_same_l0 Q ρ h = Cd.vc Try.prog (.seq (.region law2_same_r4) (.seq (.cond (.tmp 16) (.skip) (.exit 0)) (.seq (.block 1 (.seq (.region law2_same_r5) (.seq (.region law2_same_r6) (.seq (.region law2_same_r7) (.seq (.region law2_same_r8) (.cond (.tmp 81) (.seq (.region law2_same_r9) (.ret)) (.skip))))))) (.region law2_same_r10)))) Q ρ h := _root_.id rfl
def law2_same : Cd := .seq (.region law2_same_r0) (.seq (.seq (.region law2_same_r1) (.cond (.tmp 12) (.seq (.region law2_same_r2) (.ret)) (.skip))) (.seq (.seq (.region law2_same_r3) (.block 0 (.loop law2_same_l0))) (.seq (.region law2_same_r11) (.ret))))
theorem law2_same_go {Q : Ex → Env → Heap → Prop} {ρ : Env} {h : Heap} : Cd.vc Try.prog law2_same Q ρ h = Cd.vc Try.prog (.seq (.region law2_same_r0) (.seq (.seq (.region law2_same_r1) (.cond (.tmp 12) (.seq (.region law2_same_r2) (.ret)) (.skip))) (.seq (.seq (.region law2_same_r3) (.block 0 (.loop law2_same_l0))) (.seq (.region law2_same_r11) (.ret))))) Q ρ h := _root_.id rfl
theorem law2_same_calls {args : List Value} {h : Heap} {R : Value → Heap → Prop} (hl : args.length = 2) (hv : Cd.vc Try.prog law2_same (retQ Try.prog [(4, none)] R) (initEnv args [0, 1, 4, 5, 6, 7, 12, 14, 15, 16, 81]) h) : HCalls Try.prog 10 args.toArray h R :=
  hcalls_of_vc (by kernel_rfl) Try.func10 (cd := law2_same) (L := [0, 1, 4, 5, 6, 7, 12, 14, 15, 16, 81]) (by kernel_rfl) (by kernel_rfl) ⟨by rw [hl, Try.ntmps10]; decide, by rw [Try.ntmps10]; decide⟩ hv
def law2_same_gos := And.intro @law2_same_go (And.intro @law2_same_r0_go (And.intro @law2_same_r1_go (And.intro @law2_same_r2_go (And.intro @law2_same_r3_go (And.intro @law2_same_r4_go (And.intro @law2_same_r5_go (And.intro @law2_same_r6_go (And.intro @law2_same_r7_go (And.intro @law2_same_r8_go (And.intro @law2_same_r9_go (And.intro @law2_same_r10_go (And.intro @law2_same_r11_go (@law2_same_l0_go)))))))))))))

/-! jvmcore/jvmcorelaw2.sameInts: function 18: slots [0, 1, 4, 5, 10, 12, 13, 14, 24] -/
def law2_sameInts_r0 : List Sop := [
  ⟨some (4, true), .assign (.const (.bool false)), 4, none, true⟩]
theorem law2_sameInts_r0_go {K : Env → Heap → Prop} {τ ρ : Env} {h : Heap} : vcOps Try.prog K law2_sameInts_r0 τ ρ h = vcOps Try.prog K [
  ⟨some (4, true), .assign (.const (.bool false)), 4, none, true⟩] τ ρ h := _root_.id rfl
def law2_sameInts_r1 : List Sop := [
  ⟨some (6, false), .move (.tmp 0), 33, none, true⟩,
  ⟨some (7, false), .call { callee := .builtin .len, args := #[.tmp 6], argTypes := #[33] }, 3, none, true⟩,
  ⟨some (8, false), .move (.tmp 1), 33, none, true⟩,
  ⟨some (9, false), .call { callee := .builtin .len, args := #[.tmp 8], argTypes := #[33] }, 3, none, true⟩,
  ⟨some (10, true), .binOp .neq 3 (.tmp 7) (.tmp 9) 3, 4, none, true⟩]
theorem law2_sameInts_r1_go {K : Env → Heap → Prop} {τ ρ : Env} {h : Heap} : vcOps Try.prog K law2_sameInts_r1 τ ρ h = vcOps Try.prog K [
  ⟨some (6, false), .move (.tmp 0), 33, none, true⟩,
  ⟨some (7, false), .call { callee := .builtin .len, args := #[.tmp 6], argTypes := #[33] }, 3, none, true⟩,
  ⟨some (8, false), .move (.tmp 1), 33, none, true⟩,
  ⟨some (9, false), .call { callee := .builtin .len, args := #[.tmp 8], argTypes := #[33] }, 3, none, true⟩,
  ⟨some (10, true), .binOp .neq 3 (.tmp 7) (.tmp 9) 3, 4, none, true⟩] τ ρ h := _root_.id rfl
def law2_sameInts_r2 : List Sop := [
  ⟨some (4, true), .assign (.const (.bool false)), 4, none, true⟩]
theorem law2_sameInts_r2_go {K : Env → Heap → Prop} {τ ρ : Env} {h : Heap} : vcOps Try.prog K law2_sameInts_r2 τ ρ h = vcOps Try.prog K [
  ⟨some (4, true), .assign (.const (.bool false)), 4, none, true⟩] τ ρ h := _root_.id rfl
def law2_sameInts_r3 : List Sop := [
  ⟨some (11, false), .move (.tmp 0), 33, none, true⟩,
  ⟨some (12, true), .call { callee := .builtin .len, args := #[.tmp 11], argTypes := #[33] }, 3, none, true⟩,
  ⟨some (13, true), .move (.const (.int .i64 0)), 3, none, true⟩]
theorem law2_sameInts_r3_go {K : Env → Heap → Prop} {τ ρ : Env} {h : Heap} : vcOps Try.prog K law2_sameInts_r3 τ ρ h = vcOps Try.prog K [
  ⟨some (11, false), .move (.tmp 0), 33, none, true⟩,
  ⟨some (12, true), .call { callee := .builtin .len, args := #[.tmp 11], argTypes := #[33] }, 3, none, true⟩,
  ⟨some (13, true), .move (.const (.int .i64 0)), 3, none, true⟩] τ ρ h := _root_.id rfl
def law2_sameInts_r4 : List Sop := [
  ⟨some (14, true), .binOp .lss 3 (.tmp 13) (.tmp 12) 3, 0, none, true⟩]
theorem law2_sameInts_r4_go {K : Env → Heap → Prop} {τ ρ : Env} {h : Heap} : vcOps Try.prog K law2_sameInts_r4 τ ρ h = vcOps Try.prog K [
  ⟨some (14, true), .binOp .lss 3 (.tmp 13) (.tmp 12) 3, 0, none, true⟩] τ ρ h := _root_.id rfl
def law2_sameInts_r5 : List Sop := [
  ⟨some (15, false), .move (.tmp 13), 3, none, true⟩,
  ⟨some (5, true), .assign (.tmp 15), 3, none, true⟩]
theorem law2_sameInts_r5_go {K : Env → Heap → Prop} {τ ρ : Env} {h : Heap} : vcOps Try.prog K law2_sameInts_r5 τ ρ h = vcOps Try.prog K [
  ⟨some (15, false), .move (.tmp 13), 3, none, true⟩,
  ⟨some (5, true), .assign (.tmp 15), 3, none, true⟩] τ ρ h := _root_.id rfl
def law2_sameInts_r6 : List (Sop × List Sop) := [
  (⟨some (16, false), .move (.tmp 0), 33, none, true⟩, []),
  (⟨some (17, false), .move (.tmp 5), 3, none, true⟩, []),
  (⟨some (18, false), .indexAddr 33 (.tmp 16) (.tmp 17), 0, none, true⟩, []),
  (⟨some (19, false), .load 3 (.tmp 18), 3, none, true⟩, []),
  (⟨some (20, false), .move (.tmp 1), 33, none, true⟩, []),
  (⟨some (21, false), .move (.tmp 5), 3, none, true⟩, []),
  (⟨some (22, false), .indexAddr 33 (.tmp 20) (.tmp 21), 0, none, true⟩, []),
  (⟨some (23, false), .load 3 (.tmp 22), 3, none, true⟩, []),
  (⟨some (24, true), .binOp .neq 3 (.tmp 19) (.tmp 23) 3, 4, none, true⟩, [])]
theorem law2_sameInts_r6_go {K : Env → Heap → Prop} {τ ρ : Env} {h : Heap} : vcDraw Try.prog K law2_sameInts_r6 τ ρ h = vcDraw Try.prog K [
  (⟨some (16, false), .move (.tmp 0), 33, none, true⟩, []),
  (⟨some (17, false), .move (.tmp 5), 3, none, true⟩, []),
  (⟨some (18, false), .indexAddr 33 (.tmp 16) (.tmp 17), 0, none, true⟩, []),
  (⟨some (19, false), .load 3 (.tmp 18), 3, none, true⟩, []),
  (⟨some (20, false), .move (.tmp 1), 33, none, true⟩, []),
  (⟨some (21, false), .move (.tmp 5), 3, none, true⟩, []),
  (⟨some (22, false), .indexAddr 33 (.tmp 20) (.tmp 21), 0, none, true⟩, []),
  (⟨some (23, false), .load 3 (.tmp 22), 3, none, true⟩, []),
  (⟨some (24, true), .binOp .neq 3 (.tmp 19) (.tmp 23) 3, 4, none, true⟩, [])] τ ρ h := _root_.id rfl
def law2_sameInts_r7 : List Sop := [
  ⟨some (4, true), .assign (.const (.bool false)), 4, none, true⟩]
theorem law2_sameInts_r7_go {K : Env → Heap → Prop} {τ ρ : Env} {h : Heap} : vcOps Try.prog K law2_sameInts_r7 τ ρ h = vcOps Try.prog K [
  ⟨some (4, true), .assign (.const (.bool false)), 4, none, true⟩] τ ρ h := _root_.id rfl
def law2_sameInts_r8 : List Sop := [
  ⟨some (25, false), .binOp .add 3 (.tmp 13) (.const (.int .i64 1)) 3, 3, none, true⟩,
  ⟨some (13, true), .move (.tmp 25), 3, none, true⟩]
theorem law2_sameInts_r8_go {K : Env → Heap → Prop} {τ ρ : Env} {h : Heap} : vcOps Try.prog K law2_sameInts_r8 τ ρ h = vcOps Try.prog K [
  ⟨some (25, false), .binOp .add 3 (.tmp 13) (.const (.int .i64 1)) 3, 3, none, true⟩,
  ⟨some (13, true), .move (.tmp 25), 3, none, true⟩] τ ρ h := _root_.id rfl
def law2_sameInts_r9 : List Sop := [
  ⟨some (4, true), .assign (.const (.bool true)), 4, none, true⟩]
theorem law2_sameInts_r9_go {K : Env → Heap → Prop} {τ ρ : Env} {h : Heap} : vcOps Try.prog K law2_sameInts_r9 τ ρ h = vcOps Try.prog K [
  ⟨some (4, true), .assign (.const (.bool true)), 4, none, true⟩] τ ρ h := _root_.id rfl
def law2_sameInts_l0 : Cd := .seq (.region law2_sameInts_r4) (.seq (.cond (.tmp 14) (.skip) (.exit 0)) (.seq (.block 1 (.seq (.region law2_sameInts_r5) (.seq (.draw law2_sameInts_r6) (.cond (.tmp 24) (.seq (.region law2_sameInts_r7) (.ret)) (.skip))))) (.region law2_sameInts_r8)))
theorem law2_sameInts_l0_go {Q : Ex → Env → Heap → Prop} {ρ : Env} {h : Heap} : Cd.vc Try.prog law2_sameInts_l0 Q ρ h = Cd.vc Try.prog (.seq (.region law2_sameInts_r4) (.seq (.cond (.tmp 14) (.skip) (.exit 0)) (.seq (.block 1 (.seq (.region law2_sameInts_r5) (.seq (.draw law2_sameInts_r6) (.cond (.tmp 24) (.seq (.region law2_sameInts_r7) (.ret)) (.skip))))) (.region law2_sameInts_r8)))) Q ρ h := _root_.id rfl
def law2_sameInts : Cd := .seq (.region law2_sameInts_r0) (.seq (.seq (.region law2_sameInts_r1) (.cond (.tmp 10) (.seq (.region law2_sameInts_r2) (.ret)) (.skip))) (.seq (.seq (.region law2_sameInts_r3) (.block 0 (.loop law2_sameInts_l0))) (.seq (.region law2_sameInts_r9) (.ret))))
theorem law2_sameInts_go {Q : Ex → Env → Heap → Prop} {ρ : Env} {h : Heap} : Cd.vc Try.prog law2_sameInts Q ρ h = Cd.vc Try.prog (.seq (.region law2_sameInts_r0) (.seq (.seq (.region law2_sameInts_r1) (.cond (.tmp 10) (.seq (.region law2_sameInts_r2) (.ret)) (.skip))) (.seq (.seq (.region law2_sameInts_r3) (.block 0 (.loop law2_sameInts_l0))) (.seq (.region law2_sameInts_r9) (.ret))))) Q ρ h := _root_.id rfl
theorem law2_sameInts_calls {args : List Value} {h : Heap} {R : Value → Heap → Prop} (hl : args.length = 2) (hv : Cd.vc Try.prog law2_sameInts (retQ Try.prog [(4, none)] R) (initEnv args [0, 1, 4, 5, 10, 12, 13, 14, 24]) h) : HCalls Try.prog 18 args.toArray h R :=
  hcalls_of_vc (by kernel_rfl) Try.func18 (cd := law2_sameInts) (L := [0, 1, 4, 5, 10, 12, 13, 14, 24]) (by kernel_rfl) (by kernel_rfl) ⟨by rw [hl, Try.ntmps18]; decide, by rw [Try.ntmps18]; decide⟩ hv
def law2_sameInts_gos := And.intro @law2_sameInts_go (And.intro @law2_sameInts_r0_go (And.intro @law2_sameInts_r1_go (And.intro @law2_sameInts_r2_go (And.intro @law2_sameInts_r3_go (And.intro @law2_sameInts_r4_go (And.intro @law2_sameInts_r5_go (And.intro @law2_sameInts_r6_go (And.intro @law2_sameInts_r7_go (And.intro @law2_sameInts_r8_go (And.intro @law2_sameInts_r9_go (@law2_sameInts_l0_go)))))))))))

end Go.Proofs.Ytjpcpkhegjndeaa.C
