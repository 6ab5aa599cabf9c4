/- The stripped code of some functions of this seat's program, printed by a program; that it is that code is proved by the kernel. No condition. -/

import Derived.Test.YtohkbpnblkkdgaaProg

import Derived.Test.YtohkbpnblkkdgaaVcH

set_option maxRecDepth 100000

set_option linter.defProp false

namespace Go.Proofs.Ytohkbpnblkkdgaa.C

open Go.Vc

/-! jvmcore/class.Write: function 16: slots [0, 1, 2, 3, 4, 5, 6, 9, 11, 36, 47, 84, 85, 86, 87, 101, 116, 117, 118, 119, 133, 148] -/
def class_Write_r0 : List Sop := [
  ⟨some (1, true), .box 43 (.tmp 0), 0, none, false⟩,
  ⟨some (2, true), .assign (.const (.string { data := #[] })), 9, none, true⟩,
  ⟨some (3, true), .assign (.const (.int .i64 0)), 27, none, true⟩]
theorem class_Write_r0_go {K : Env → Heap → Prop} {τ ρ : Env} {h : Heap} : vcOps Try.prog K class_Write_r0 τ ρ h = vcOps Try.prog K [
  ⟨some (1, true), .box 43 (.tmp 0), 0, none, false⟩,
  ⟨some (2, true), .assign (.const (.string { data := #[] })), 9, none, true⟩,
  ⟨some (3, true), .assign (.const (.int .i64 0)), 27, none, true⟩] τ ρ h := _root_.id rfl
def class_Write_r1 : List Sop := [
  ⟨some (12, false), .load 43 (.tmp 1), 43, none, true⟩,
  ⟨some (13, false), .build 84 #[(1, .tmp 12)], 84, none, true⟩,
  ⟨some (14, false), .box 84 (.tmp 13), 82, none, false⟩,
  ⟨some (4, true), .alloc 82, 0, none, false⟩,
  ⟨none, .store 82 (.tmp 4) (.tmp 14), 0, none, false⟩]
theorem class_Write_r1_go {K : Env → Heap → Prop} {τ ρ : Env} {h : Heap} : vcOps Try.prog K class_Write_r1 τ ρ h = vcOps Try.prog K [
  ⟨some (12, false), .load 43 (.tmp 1), 43, none, true⟩,
  ⟨some (13, false), .build 84 #[(1, .tmp 12)], 84, none, true⟩,
  ⟨some (14, false), .box 84 (.tmp 13), 82, none, false⟩,
  ⟨some (4, true), .alloc 82, 0, none, false⟩,
  ⟨none, .store 82 (.tmp 4) (.tmp 14), 0, none, false⟩] τ ρ h := _root_.id rfl
def class_Write_r2 : List Sop := [
  ⟨some (15, false), .load 82 (.tmp 4), 82, none, true⟩,
  ⟨some (16, false), .call { callee := .value (.func 37), args := #[.tmp 15, .const (.int .i64 3405691582), .const (.int .i64 4)], argTypes := #[82, 3, 3] }, 0, none, false⟩]
theorem class_Write_r2_go {K : Env → Heap → Prop} {τ ρ : Env} {h : Heap} : vcOps Try.prog K class_Write_r2 τ ρ h = vcOps Try.prog K [
  ⟨some (15, false), .load 82 (.tmp 4), 82, none, true⟩,
  ⟨some (16, false), .call { callee := .value (.func 37), args := #[.tmp 15, .const (.int .i64 3405691582), .const (.int .i64 4)], argTypes := #[82, 3, 3] }, 0, none, false⟩] τ ρ h := _root_.id rfl
def class_Write_r3 : List Sop := [
  ⟨some (17, false), .load 82 (.tmp 4), 82, none, true⟩,
  ⟨some (18, false), .fieldAddr 43 (.tmp 1) 0, 0, none, true⟩,
  ⟨some (19, false), .load 38 (.tmp 18), 38, none, true⟩,
  ⟨some (20, false), .fieldAddr 43 (.tmp 1) 1, 0, none, true⟩,
  ⟨some (21, false), .load 38 (.tmp 20), 38, none, true⟩,
  ⟨some (22, false), .buildSlice 39 2 #[(0, .tmp 19), (1, .tmp 21)], 39, none, false⟩,
  ⟨some (23, false), .call { callee := .value (.func 38), args := #[.tmp 17, .tmp 22], argTypes := #[82, 39] }, 0, none, false⟩]
theorem class_Write_r3_go {K : Env → Heap → Prop} {τ ρ : Env} {h : Heap} : vcOps Try.prog K class_Write_r3 τ ρ h = vcOps Try.prog K [
  ⟨some (17, false), .load 82 (.tmp 4), 82, none, true⟩,
  ⟨some (18, false), .fieldAddr 43 (.tmp 1) 0, 0, none, true⟩,
  ⟨some (19, false), .load 38 (.tmp 18), 38, none, true⟩,
  ⟨some (20, false), .fieldAddr 43 (.tmp 1) 1, 0, none, true⟩,
  ⟨some (21, false), .load 38 (.tmp 20), 38, none, true⟩,
  ⟨some (22, false), .buildSlice 39 2 #[(0, .tmp 19), (1, .tmp 21)], 39, none, false⟩,
  ⟨some (23, false), .call { callee := .value (.func 38), args := #[.tmp 17, .tmp 22], argTypes := #[82, 39] }, 0, none, false⟩] τ ρ h := _root_.id rfl
def class_Write_r4 : List Sop := [
  ⟨some (24, false), .fieldAddr 43 (.tmp 1) 1, 0, none, true⟩,
  ⟨some (25, false), .load 38 (.tmp 24), 38, none, true⟩,
  ⟨some (26, false), .binOp .neq 38 (.tmp 25) (.const (.int .u16 50)) 38, 4, none, true⟩,
  ⟨some (27, false), .move (.tmp 26), 4, none, true⟩,
  ⟨some (28, false), .fieldAddr 43 (.tmp 1) 1, 0, some (27, true), true⟩,
  ⟨some (29, false), .load 38 (.tmp 28), 38, some (27, true), true⟩,
  ⟨some (30, false), .binOp .neq 38 (.tmp 29) (.const (.int .u16 51)) 38, 4, some (27, true), true⟩,
  ⟨some (31, false), .pick (.tmp 27) (.tmp 30) (.const (.bool false)), 4, none, true⟩,
  ⟨some (32, false), .move (.tmp 31), 4, none, true⟩,
  ⟨some (33, false), .fieldAddr 43 (.tmp 1) 0, 0, some (32, false), true⟩,
  ⟨some (34, false), .load 38 (.tmp 33), 38, some (32, false), true⟩,
  ⟨some (35, false), .binOp .neq 38 (.tmp 34) (.const (.int .u16 0)) 38, 4, some (32, false), true⟩,
  ⟨some (36, true), .pick (.tmp 32) (.const (.bool true)) (.tmp 35), 4, none, true⟩]
theorem class_Write_r4_go {K : Env → Heap → Prop} {τ ρ : Env} {h : Heap} : vcOps Try.prog K class_Write_r4 τ ρ h = vcOps Try.prog K [
  ⟨some (24, false), .fieldAddr 43 (.tmp 1) 1, 0, none, true⟩,
  ⟨some (25, false), .load 38 (.tmp 24), 38, none, true⟩,
  ⟨some (26, false), .binOp .neq 38 (.tmp 25) (.const (.int .u16 50)) 38, 4, none, true⟩,
  ⟨some (27, false), .move (.tmp 26), 4, none, true⟩,
  ⟨some (28, false), .fieldAddr 43 (.tmp 1) 1, 0, some (27, true), true⟩,
  ⟨some (29, false), .load 38 (.tmp 28), 38, some (27, true), true⟩,
  ⟨some (30, false), .binOp .neq 38 (.tmp 29) (.const (.int .u16 51)) 38, 4, some (27, true), true⟩,
  ⟨some (31, false), .pick (.tmp 27) (.tmp 30) (.const (.bool false)), 4, none, true⟩,
  ⟨some (32, false), .move (.tmp 31), 4, none, true⟩,
  ⟨some (33, false), .fieldAddr 43 (.tmp 1) 0, 0, some (32, false), true⟩,
  ⟨some (34, false), .load 38 (.tmp 33), 38, some (32, false), true⟩,
  ⟨some (35, false), .binOp .neq 38 (.tmp 34) (.const (.int .u16 0)) 38, 4, some (32, false), true⟩,
  ⟨some (36, true), .pick (.tmp 32) (.const (.bool true)) (.tmp 35), 4, none, true⟩] τ ρ h := _root_.id rfl
def class_Write_r5 : List Sop := [
  ⟨some (37, false), .load 82 (.tmp 4), 82, none, true⟩,
  ⟨some (38, false), .call { callee := .value (.func 39), args := #[.tmp 37, .const (.int .i64 4)], argTypes := #[82, 27] }, 0, none, false⟩]
theorem class_Write_r5_go {K : Env → Heap → Prop} {τ ρ : Env} {h : Heap} : vcOps Try.prog K class_Write_r5 τ ρ h = vcOps Try.prog K [
  ⟨some (37, false), .load 82 (.tmp 4), 82, none, true⟩,
  ⟨some (38, false), .call { callee := .value (.func 39), args := #[.tmp 37, .const (.int .i64 4)], argTypes := #[82, 27] }, 0, none, false⟩] τ ρ h := _root_.id rfl
def class_Write_r6 : List Sop := [
  ⟨some (40, false), .fieldAddr 43 (.tmp 1) 5, 0, none, true⟩,
  ⟨some (41, false), .load 22 (.tmp 40), 22, none, true⟩,
  ⟨some (42, false), .call { callee := .value (.func 40), args := #[.tmp 41], argTypes := #[22] }, 36, none, false⟩,
  ⟨some (39, false), .move (.tmp 42), 36, none, true⟩,
  ⟨some (43, false), .extract (.tmp 39) 0, 9, none, true⟩,
  ⟨some (44, false), .extract (.tmp 39) 1, 27, none, true⟩,
  ⟨some (45, false), .extract (.tmp 39) 2, 3, none, true⟩,
  ⟨some (5, true), .assign (.tmp 43), 9, none, true⟩,
  ⟨some (6, true), .assign (.tmp 44), 27, none, true⟩,
  ⟨some (7, false), .assign (.tmp 45), 3, none, true⟩]
theorem class_Write_r6_go {K : Env → Heap → Prop} {τ ρ : Env} {h : Heap} : vcOps Try.prog K class_Write_r6 τ ρ h = vcOps Try.prog K [
  ⟨some (40, false), .fieldAddr 43 (.tmp 1) 5, 0, none, true⟩,
  ⟨some (41, false), .load 22 (.tmp 40), 22, none, true⟩,
  ⟨some (42, false), .call { callee := .value (.func 40), args := #[.tmp 41], argTypes := #[22] }, 36, none, false⟩,
  ⟨some (39, false), .move (.tmp 42), 36, none, true⟩,
  ⟨some (43, false), .extract (.tmp 39) 0, 9, none, true⟩,
  ⟨some (44, false), .extract (.tmp 39) 1, 27, none, true⟩,
  ⟨some (45, false), .extract (.tmp 39) 2, 3, none, true⟩,
  ⟨some (5, true), .assign (.tmp 43), 9, none, true⟩,
  ⟨some (6, true), .assign (.tmp 44), 27, none, true⟩,
  ⟨some (7, false), .assign (.tmp 45), 3, none, true⟩] τ ρ h := _root_.id rfl
def class_Write_r7 : List Sop := [
  ⟨some (46, false), .move (.tmp 6), 27, none, true⟩,
  ⟨some (47, true), .binOp .neq 27 (.tmp 46) (.const (.int .i64 0)) 27, 4, none, true⟩]
theorem class_Write_r7_go {K : Env → Heap → Prop} {τ ρ : Env} {h : Heap} : vcOps Try.prog K class_Write_r7 τ ρ h = vcOps Try.prog K [
  ⟨some (46, false), .move (.tmp 6), 27, none, true⟩,
  ⟨some (47, true), .binOp .neq 27 (.tmp 46) (.const (.int .i64 0)) 27, 4, none, true⟩] τ ρ h := _root_.id rfl
def class_Write_r8 : List Sop := [
  ⟨some (48, false), .load 82 (.tmp 4), 82, none, true⟩,
  ⟨some (49, false), .move (.tmp 6), 27, none, true⟩,
  ⟨some (50, false), .call { callee := .value (.func 39), args := #[.tmp 48, .tmp 49], argTypes := #[82, 27] }, 0, none, false⟩]
theorem class_Write_r8_go {K : Env → Heap → Prop} {τ ρ : Env} {h : Heap} : vcOps Try.prog K class_Write_r8 τ ρ h = vcOps Try.prog K [
  ⟨some (48, false), .load 82 (.tmp 4), 82, none, true⟩,
  ⟨some (49, false), .move (.tmp 6), 27, none, true⟩,
  ⟨some (50, false), .call { callee := .value (.func 39), args := #[.tmp 48, .tmp 49], argTypes := #[82, 27] }, 0, none, false⟩] τ ρ h := _root_.id rfl
def class_Write_r9 : List (Sop × List Sop) := [
  (⟨some (51, false), .load 82 (.tmp 4), 82, none, true⟩, []),
  (⟨some (52, false), .load 82 (.tmp 4), 82, none, true⟩, []),
  (⟨some (53, false), .nilCheck (.tmp 52), 0, none, true⟩, []),
  (⟨some (54, false), .fieldAddr 84 (.tmp 53) 0, 0, none, true⟩, []),
  (⟨some (55, false), .load 69 (.tmp 54), 69, none, true⟩, []),
  (⟨some (56, false), .move (.tmp 5), 9, none, true⟩, []),
  (⟨some (57, false), .call { callee := .builtin .append, args := #[.tmp 55, .tmp 56], argTypes := #[69, 9] }, 69, none, false⟩, [⟨some (51, false), .load 82 (.tmp 4), 82, none, true⟩]),
  (⟨some (58, false), .nilCheck (.tmp 51), 0, none, true⟩, []),
  (⟨some (59, false), .fieldAddr 84 (.tmp 58) 0, 0, none, true⟩, []),
  (⟨none, .store 69 (.tmp 59) (.tmp 57), 0, none, false⟩, [])]
theorem class_Write_r9_go {K : Env → Heap → Prop} {τ ρ : Env} {h : Heap} : vcDraw Try.prog K class_Write_r9 τ ρ h = vcDraw Try.prog K [
  (⟨some (51, false), .load 82 (.tmp 4), 82, none, true⟩, []),
  (⟨some (52, false), .load 82 (.tmp 4), 82, none, true⟩, []),
  (⟨some (53, false), .nilCheck (.tmp 52), 0, none, true⟩, []),
  (⟨some (54, false), .fieldAddr 84 (.tmp 53) 0, 0, none, true⟩, []),
  (⟨some (55, false), .load 69 (.tmp 54), 69, none, true⟩, []),
  (⟨some (56, false), .move (.tmp 5), 9, none, true⟩, []),
  (⟨some (57, false), .call { callee := .builtin .append, args := #[.tmp 55, .tmp 56], argTypes := #[69, 9] }, 69, none, false⟩, [⟨some (51, false), .load 82 (.tmp 4), 82, none, true⟩]),
  (⟨some (58, false), .nilCheck (.tmp 51), 0, none, true⟩, []),
  (⟨some (59, false), .fieldAddr 84 (.tmp 58) 0, 0, none, true⟩, []),
  (⟨none, .store 69 (.tmp 59) (.tmp 57), 0, none, false⟩, [])] τ ρ h := _root_.id rfl
def class_Write_r10 : List Sop := [
  ⟨some (60, false), .load 82 (.tmp 4), 82, none, true⟩,
  ⟨some (61, false), .fieldAddr 43 (.tmp 1) 2, 0, none, true⟩,
  ⟨some (62, false), .load 38 (.tmp 61), 38, none, true⟩,
  ⟨some (63, false), .fieldAddr 43 (.tmp 1) 3, 0, none, true⟩,
  ⟨some (64, false), .load 38 (.tmp 63), 38, none, true⟩,
  ⟨some (65, false), .fieldAddr 43 (.tmp 1) 4, 0, none, true⟩,
  ⟨some (66, false), .load 38 (.tmp 65), 38, none, true⟩,
  ⟨some (67, false), .buildSlice 39 3 #[(0, .tmp 62), (1, .tmp 64), (2, .tmp 66)], 39, none, false⟩,
  ⟨some (68, false), .call { callee := .value (.func 38), args := #[.tmp 60, .tmp 67], argTypes := #[82, 39] }, 0, none, false⟩]
theorem class_Write_r10_go {K : Env → Heap → Prop} {τ ρ : Env} {h : Heap} : vcOps Try.prog K class_Write_r10 τ ρ h = vcOps Try.prog K [
  ⟨some (60, false), .load 82 (.tmp 4), 82, none, true⟩,
  ⟨some (61, false), .fieldAddr 43 (.tmp 1) 2, 0, none, true⟩,
  ⟨some (62, false), .load 38 (.tmp 61), 38, none, true⟩,
  ⟨some (63, false), .fieldAddr 43 (.tmp 1) 3, 0, none, true⟩,
  ⟨some (64, false), .load 38 (.tmp 63), 38, none, true⟩,
  ⟨some (65, false), .fieldAddr 43 (.tmp 1) 4, 0, none, true⟩,
  ⟨some (66, false), .load 38 (.tmp 65), 38, none, true⟩,
  ⟨some (67, false), .buildSlice 39 3 #[(0, .tmp 62), (1, .tmp 64), (2, .tmp 66)], 39, none, false⟩,
  ⟨some (68, false), .call { callee := .value (.func 38), args := #[.tmp 60, .tmp 67], argTypes := #[82, 39] }, 0, none, false⟩] τ ρ h := _root_.id rfl
def class_Write_r11 : List Sop := [
  ⟨some (69, false), .load 82 (.tmp 4), 82, none, true⟩,
  ⟨some (70, false), .fieldAddr 43 (.tmp 1) 6, 0, none, true⟩,
  ⟨some (71, false), .load 39 (.tmp 70), 39, none, true⟩,
  ⟨some (72, false), .call { callee := .builtin .len, args := #[.tmp 71], argTypes := #[39] }, 3, none, true⟩,
  ⟨some (73, false), .call { callee := .value (.func 37), args := #[.tmp 69, .tmp 72, .const (.int .i64 2)], argTypes := #[82, 3, 3] }, 0, none, false⟩]
theorem class_Write_r11_go {K : Env → Heap → Prop} {τ ρ : Env} {h : Heap} : vcOps Try.prog K class_Write_r11 τ ρ h = vcOps Try.prog K [
  ⟨some (69, false), .load 82 (.tmp 4), 82, none, true⟩,
  ⟨some (70, false), .fieldAddr 43 (.tmp 1) 6, 0, none, true⟩,
  ⟨some (71, false), .load 39 (.tmp 70), 39, none, true⟩,
  ⟨some (72, false), .call { callee := .builtin .len, args := #[.tmp 71], argTypes := #[39] }, 3, none, true⟩,
  ⟨some (73, false), .call { callee := .value (.func 37), args := #[.tmp 69, .tmp 72, .const (.int .i64 2)], argTypes := #[82, 3, 3] }, 0, none, false⟩] τ ρ h := _root_.id rfl
def class_Write_r12 : List Sop := [
  ⟨some (74, false), .load 82 (.tmp 4), 82, none, true⟩,
  ⟨some (75, false), .fieldAddr 43 (.tmp 1) 6, 0, none, true⟩,
  ⟨some (76, false), .load 39 (.tmp 75), 39, none, true⟩,
  ⟨some (77, false), .call { callee := .value (.func 38), args := #[.tmp 74, .tmp 76], argTypes := #[82, 39] }, 0, none, false⟩]
theorem class_Write_r12_go {K : Env → Heap → Prop} {τ ρ : Env} {h : Heap} : vcOps Try.prog K class_Write_r12 τ ρ h = vcOps Try.prog K [
  ⟨some (74, false), .load 82 (.tmp 4), 82, none, true⟩,
  ⟨some (75, false), .fieldAddr 43 (.tmp 1) 6, 0, none, true⟩,
  ⟨some (76, false), .load 39 (.tmp 75), 39, none, true⟩,
  ⟨some (77, false), .call { callee := .value (.func 38), args := #[.tmp 74, .tmp 76], argTypes := #[82, 39] }, 0, none, false⟩] τ ρ h := _root_.id rfl
def class_Write_r13 : List Sop := [
  ⟨some (78, false), .load 82 (.tmp 4), 82, none, true⟩,
  ⟨some (79, false), .fieldAddr 43 (.tmp 1) 7, 0, none, true⟩,
  ⟨some (80, false), .load 40 (.tmp 79), 40, none, true⟩,
  ⟨some (81, false), .call { callee := .builtin .len, args := #[.tmp 80], argTypes := #[40] }, 3, none, true⟩,
  ⟨some (82, false), .call { callee := .value (.func 37), args := #[.tmp 78, .tmp 81, .const (.int .i64 2)], argTypes := #[82, 3, 3] }, 0, none, false⟩]
theorem class_Write_r13_go {K : Env → Heap → Prop} {τ ρ : Env} {h : Heap} : vcOps Try.prog K class_Write_r13 τ ρ h = vcOps Try.prog K [
  ⟨some (78, false), .load 82 (.tmp 4), 82, none, true⟩,
  ⟨some (79, false), .fieldAddr 43 (.tmp 1) 7, 0, none, true⟩,
  ⟨some (80, false), .load 40 (.tmp 79), 40, none, true⟩,
  ⟨some (81, false), .call { callee := .builtin .len, args := #[.tmp 80], argTypes := #[40] }, 3, none, true⟩,
  ⟨some (82, false), .call { callee := .value (.func 37), args := #[.tmp 78, .tmp 81, .const (.int .i64 2)], argTypes := #[82, 3, 3] }, 0, none, false⟩] τ ρ h := _root_.id rfl
def class_Write_r14 : List Sop := [
  ⟨some (83, false), .fieldAddr 43 (.tmp 1) 7, 0, none, true⟩,
  ⟨some (84, true), .load 40 (.tmp 83), 40, none, true⟩,
  ⟨some (85, true), .call { callee := .builtin .len, args := #[.tmp 84], argTypes := #[40] }, 3, none, true⟩,
  ⟨some (86, true), .move (.const (.int .i64 0)), 3, none, true⟩]
theorem class_Write_r14_go {K : Env → Heap → Prop} {τ ρ : Env} {h : Heap} : vcOps Try.prog K class_Write_r14 τ ρ h = vcOps Try.prog K [
  ⟨some (83, false), .fieldAddr 43 (.tmp 1) 7, 0, none, true⟩,
  ⟨some (84, true), .load 40 (.tmp 83), 40, none, true⟩,
  ⟨some (85, true), .call { callee := .builtin .len, args := #[.tmp 84], argTypes := #[40] }, 3, none, true⟩,
  ⟨some (86, true), .move (.const (.int .i64 0)), 3, none, true⟩] τ ρ h := _root_.id rfl
def class_Write_r15 : List Sop := [
  ⟨some (87, true), .binOp .lss 3 (.tmp 86) (.tmp 85) 3, 0, none, true⟩]
theorem class_Write_r15_go {K : Env → Heap → Prop} {τ ρ : Env} {h : Heap} : vcOps Try.prog K class_Write_r15 τ ρ h = vcOps Try.prog K [
  ⟨some (87, true), .binOp .lss 3 (.tmp 86) (.tmp 85) 3, 0, none, true⟩] τ ρ h := _root_.id rfl
def class_Write_r16 : List Sop := [
  ⟨some (88, false), .indexAddr 40 (.tmp 84) (.tmp 86), 0, none, true⟩,
  ⟨some (89, false), .load 89 (.tmp 88), 89, none, true⟩,
  ⟨some (9, true), .alloc 89, 0, none, false⟩,
  ⟨none, .store 89 (.tmp 9) (.tmp 89), 0, none, false⟩]
theorem class_Write_r16_go {K : Env → Heap → Prop} {τ ρ : Env} {h : Heap} : vcOps Try.prog K class_Write_r16 τ ρ h = vcOps Try.prog K [
  ⟨some (88, false), .indexAddr 40 (.tmp 84) (.tmp 86), 0, none, true⟩,
  ⟨some (89, false), .load 89 (.tmp 88), 89, none, true⟩,
  ⟨some (9, true), .alloc 89, 0, none, false⟩,
  ⟨none, .store 89 (.tmp 9) (.tmp 89), 0, none, false⟩] τ ρ h := _root_.id rfl
def class_Write_r17 : List Sop := [
  ⟨some (90, false), .load 82 (.tmp 4), 82, none, true⟩,
  ⟨some (91, false), .fieldAddr 89 (.tmp 9) 0, 0, none, true⟩,
  ⟨some (92, false), .load 38 (.tmp 91), 38, none, true⟩,
  ⟨some (93, false), .fieldAddr 89 (.tmp 9) 1, 0, none, true⟩,
  ⟨some (94, false), .load 38 (.tmp 93), 38, none, true⟩,
  ⟨some (95, false), .fieldAddr 89 (.tmp 9) 2, 0, none, true⟩,
  ⟨some (96, false), .load 38 (.tmp 95), 38, none, true⟩,
  ⟨some (97, false), .buildSlice 39 3 #[(0, .tmp 92), (1, .tmp 94), (2, .tmp 96)], 39, none, false⟩,
  ⟨some (98, false), .call { callee := .value (.func 38), args := #[.tmp 90, .tmp 97], argTypes := #[82, 39] }, 0, none, false⟩]
theorem class_Write_r17_go {K : Env → Heap → Prop} {τ ρ : Env} {h : Heap} : vcOps Try.prog K class_Write_r17 τ ρ h = vcOps Try.prog K [
  ⟨some (90, false), .load 82 (.tmp 4), 82, none, true⟩,
  ⟨some (91, false), .fieldAddr 89 (.tmp 9) 0, 0, none, true⟩,
  ⟨some (92, false), .load 38 (.tmp 91), 38, none, true⟩,
  ⟨some (93, false), .fieldAddr 89 (.tmp 9) 1, 0, none, true⟩,
  ⟨some (94, false), .load 38 (.tmp 93), 38, none, true⟩,
  ⟨some (95, false), .fieldAddr 89 (.tmp 9) 2, 0, none, true⟩,
  ⟨some (96, false), .load 38 (.tmp 95), 38, none, true⟩,
  ⟨some (97, false), .buildSlice 39 3 #[(0, .tmp 92), (1, .tmp 94), (2, .tmp 96)], 39, none, false⟩,
  ⟨some (98, false), .call { callee := .value (.func 38), args := #[.tmp 90, .tmp 97], argTypes := #[82, 39] }, 0, none, false⟩] τ ρ h := _root_.id rfl
def class_Write_r18 : List Sop := [
  ⟨some (99, false), .fieldAddr 89 (.tmp 9) 3, 0, none, true⟩,
  ⟨some (100, false), .load 38 (.tmp 99), 38, none, true⟩,
  ⟨some (101, true), .binOp .eql 38 (.tmp 100) (.const (.int .u16 0)) 38, 4, none, true⟩]
theorem class_Write_r18_go {K : Env → Heap → Prop} {τ ρ : Env} {h : Heap} : vcOps Try.prog K class_Write_r18 τ ρ h = vcOps Try.prog K [
  ⟨some (99, false), .fieldAddr 89 (.tmp 9) 3, 0, none, true⟩,
  ⟨some (100, false), .load 38 (.tmp 99), 38, none, true⟩,
  ⟨some (101, true), .binOp .eql 38 (.tmp 100) (.const (.int .u16 0)) 38, 4, none, true⟩] τ ρ h := _root_.id rfl
def class_Write_r19 : List Sop := [
  ⟨some (102, false), .load 82 (.tmp 4), 82, none, true⟩,
  ⟨some (103, false), .call { callee := .value (.func 37), args := #[.tmp 102, .const (.int .i64 0), .const (.int .i64 2)], argTypes := #[82, 3, 3] }, 0, none, false⟩]
theorem class_Write_r19_go {K : Env → Heap → Prop} {τ ρ : Env} {h : Heap} : vcOps Try.prog K class_Write_r19 τ ρ h = vcOps Try.prog K [
  ⟨some (102, false), .load 82 (.tmp 4), 82, none, true⟩,
  ⟨some (103, false), .call { callee := .value (.func 37), args := #[.tmp 102, .const (.int .i64 0), .const (.int .i64 2)], argTypes := #[82, 3, 3] }, 0, none, false⟩] τ ρ h := _root_.id rfl
def class_Write_r20 : List Sop := [
  ⟨some (104, false), .load 82 (.tmp 4), 82, none, true⟩,
  ⟨some (105, false), .call { callee := .value (.func 37), args := #[.tmp 104, .const (.int .i64 1), .const (.int .i64 2)], argTypes := #[82, 3, 3] }, 0, none, false⟩]
theorem class_Write_r20_go {K : Env → Heap → Prop} {τ ρ : Env} {h : Heap} : vcOps Try.prog K class_Write_r20 τ ρ h = vcOps Try.prog K [
  ⟨some (104, false), .load 82 (.tmp 4), 82, none, true⟩,
  ⟨some (105, false), .call { callee := .value (.func 37), args := #[.tmp 104, .const (.int .i64 1), .const (.int .i64 2)], argTypes := #[82, 3, 3] }, 0, none, false⟩] τ ρ h := _root_.id rfl
def class_Write_r21 : List Sop := [
  ⟨some (106, false), .load 82 (.tmp 4), 82, none, true⟩,
  ⟨some (107, false), .makeFunc (.func 42) #[] #[.tmp 4, .tmp 9], 1, none, true⟩,
  ⟨some (108, false), .call { callee := .value (.func 41), args := #[.tmp 106, .const (.string { data := #[67, 111, 110, 115, 116, 97, 110, 116, 86, 97, 108, 117, 101] }), .tmp 107], argTypes := #[82, 9, 1] }, 0, none, false⟩]
theorem class_Write_r21_go {K : Env → Heap → Prop} {τ ρ : Env} {h : Heap} : vcOps Try.prog K class_Write_r21 τ ρ h = vcOps Try.prog K [
  ⟨some (106, false), .load 82 (.tmp 4), 82, none, true⟩,
  ⟨some (107, false), .makeFunc (.func 42) #[] #[.tmp 4, .tmp 9], 1, none, true⟩,
  ⟨some (108, false), .call { callee := .value (.func 41), args := #[.tmp 106, .const (.string { data := #[67, 111, 110, 115, 116, 97, 110, 116, 86, 97, 108, 117, 101] }), .tmp 107], argTypes := #[82, 9, 1] }, 0, none, false⟩] τ ρ h := _root_.id rfl
def class_Write_r22 : List Sop := [
  ⟨some (109, false), .binOp .add 3 (.tmp 86) (.const (.int .i64 1)) 3, 3, none, true⟩,
  ⟨some (86, true), .move (.tmp 109), 3, none, true⟩]
theorem class_Write_r22_go {K : Env → Heap → Prop} {τ ρ : Env} {h : Heap} : vcOps Try.prog K class_Write_r22 τ ρ h = vcOps Try.prog K [
  ⟨some (109, false), .binOp .add 3 (.tmp 86) (.const (.int .i64 1)) 3, 3, none, true⟩,
  ⟨some (86, true), .move (.tmp 109), 3, none, true⟩] τ ρ h := _root_.id rfl
def class_Write_r23 : List Sop := [
  ⟨some (110, false), .load 82 (.tmp 4), 82, none, true⟩,
  ⟨some (111, false), .fieldAddr 43 (.tmp 1) 8, 0, none, true⟩,
  ⟨some (112, false), .load 41 (.tmp 111), 41, none, true⟩,
  ⟨some (113, false), .call { callee := .builtin .len, args := #[.tmp 112], argTypes := #[41] }, 3, none, true⟩,
  ⟨some (114, false), .call { callee := .value (.func 37), args := #[.tmp 110, .tmp 113, .const (.int .i64 2)], argTypes := #[82, 3, 3] }, 0, none, false⟩]
theorem class_Write_r23_go {K : Env → Heap → Prop} {τ ρ : Env} {h : Heap} : vcOps Try.prog K class_Write_r23 τ ρ h = vcOps Try.prog K [
  ⟨some (110, false), .load 82 (.tmp 4), 82, none, true⟩,
  ⟨some (111, false), .fieldAddr 43 (.tmp 1) 8, 0, none, true⟩,
  ⟨some (112, false), .load 41 (.tmp 111), 41, none, true⟩,
  ⟨some (113, false), .call { callee := .builtin .len, args := #[.tmp 112], argTypes := #[41] }, 3, none, true⟩,
  ⟨some (114, false), .call { callee := .value (.func 37), args := #[.tmp 110, .tmp 113, .const (.int .i64 2)], argTypes := #[82, 3, 3] }, 0, none, false⟩] τ ρ h := _root_.id rfl
def class_Write_r24 : List Sop := [
  ⟨some (115, false), .fieldAddr 43 (.tmp 1) 8, 0, none, true⟩,
  ⟨some (116, true), .load 41 (.tmp 115), 41, none, true⟩,
  ⟨some (117, true), .call { callee := .builtin .len, args := #[.tmp 116], argTypes := #[41] }, 3, none, true⟩,
  ⟨some (118, true), .move (.const (.int .i64 0)), 3, none, true⟩]
theorem class_Write_r24_go {K : Env → Heap → Prop} {τ ρ : Env} {h : Heap} : vcOps Try.prog K class_Write_r24 τ ρ h = vcOps Try.prog K [
  ⟨some (115, false), .fieldAddr 43 (.tmp 1) 8, 0, none, true⟩,
  ⟨some (116, true), .load 41 (.tmp 115), 41, none, true⟩,
  ⟨some (117, true), .call { callee := .builtin .len, args := #[.tmp 116], argTypes := #[41] }, 3, none, true⟩,
  ⟨some (118, true), .move (.const (.int .i64 0)), 3, none, true⟩] τ ρ h := _root_.id rfl
def class_Write_r25 : List Sop := [
  ⟨some (119, true), .binOp .lss 3 (.tmp 118) (.tmp 117) 3, 0, none, true⟩]
theorem class_Write_r25_go {K : Env → Heap → Prop} {τ ρ : Env} {h : Heap} : vcOps Try.prog K class_Write_r25 τ ρ h = vcOps Try.prog K [
  ⟨some (119, true), .binOp .lss 3 (.tmp 118) (.tmp 117) 3, 0, none, true⟩] τ ρ h := _root_.id rfl
def class_Write_r26 : List Sop := [
  ⟨some (120, false), .indexAddr 41 (.tmp 116) (.tmp 118), 0, none, true⟩,
  ⟨some (121, false), .load 81 (.tmp 120), 81, none, true⟩,
  ⟨some (11, true), .alloc 81, 0, none, false⟩,
  ⟨none, .store 81 (.tmp 11) (.tmp 121), 0, none, false⟩]
theorem class_Write_r26_go {K : Env → Heap → Prop} {τ ρ : Env} {h : Heap} : vcOps Try.prog K class_Write_r26 τ ρ h = vcOps Try.prog K [
  ⟨some (120, false), .indexAddr 41 (.tmp 116) (.tmp 118), 0, none, true⟩,
  ⟨some (121, false), .load 81 (.tmp 120), 81, none, true⟩,
  ⟨some (11, true), .alloc 81, 0, none, false⟩,
  ⟨none, .store 81 (.tmp 11) (.tmp 121), 0, none, false⟩] τ ρ h := _root_.id rfl
def class_Write_r27 : List Sop := [
  ⟨some (122, false), .load 82 (.tmp 4), 82, none, true⟩,
  ⟨some (123, false), .fieldAddr 81 (.tmp 11) 0, 0, none, true⟩,
  ⟨some (124, false), .load 38 (.tmp 123), 38, none, true⟩,
  ⟨some (125, false), .fieldAddr 81 (.tmp 11) 1, 0, none, true⟩,
  ⟨some (126, false), .load 38 (.tmp 125), 38, none, true⟩,
  ⟨some (127, false), .fieldAddr 81 (.tmp 11) 2, 0, none, true⟩,
  ⟨some (128, false), .load 38 (.tmp 127), 38, none, true⟩,
  ⟨some (129, false), .buildSlice 39 3 #[(0, .tmp 124), (1, .tmp 126), (2, .tmp 128)], 39, none, false⟩,
  ⟨some (130, false), .call { callee := .value (.func 38), args := #[.tmp 122, .tmp 129], argTypes := #[82, 39] }, 0, none, false⟩]
theorem class_Write_r27_go {K : Env → Heap → Prop} {τ ρ : Env} {h : Heap} : vcOps Try.prog K class_Write_r27 τ ρ h = vcOps Try.prog K [
  ⟨some (122, false), .load 82 (.tmp 4), 82, none, true⟩,
  ⟨some (123, false), .fieldAddr 81 (.tmp 11) 0, 0, none, true⟩,
  ⟨some (124, false), .load 38 (.tmp 123), 38, none, true⟩,
  ⟨some (125, false), .fieldAddr 81 (.tmp 11) 1, 0, none, true⟩,
  ⟨some (126, false), .load 38 (.tmp 125), 38, none, true⟩,
  ⟨some (127, false), .fieldAddr 81 (.tmp 11) 2, 0, none, true⟩,
  ⟨some (128, false), .load 38 (.tmp 127), 38, none, true⟩,
  ⟨some (129, false), .buildSlice 39 3 #[(0, .tmp 124), (1, .tmp 126), (2, .tmp 128)], 39, none, false⟩,
  ⟨some (130, false), .call { callee := .value (.func 38), args := #[.tmp 122, .tmp 129], argTypes := #[82, 39] }, 0, none, false⟩] τ ρ h := _root_.id rfl
def class_Write_r28 : List Sop := [
  ⟨some (131, false), .fieldAddr 81 (.tmp 11) 3, 0, none, true⟩,
  ⟨some (132, false), .load 4 (.tmp 131), 4, none, true⟩,
  ⟨some (133, true), .unOp .not 4 (.tmp 132), 4, none, true⟩]
theorem class_Write_r28_go {K : Env → Heap → Prop} {τ ρ : Env} {h : Heap} : vcOps Try.prog K class_Write_r28 τ ρ h = vcOps Try.prog K [
  ⟨some (131, false), .fieldAddr 81 (.tmp 11) 3, 0, none, true⟩,
  ⟨some (132, false), .load 4 (.tmp 131), 4, none, true⟩,
  ⟨some (133, true), .unOp .not 4 (.tmp 132), 4, none, true⟩] τ ρ h := _root_.id rfl
def class_Write_r29 : List Sop := [
  ⟨some (134, false), .load 82 (.tmp 4), 82, none, true⟩,
  ⟨some (135, false), .call { callee := .value (.func 37), args := #[.tmp 134, .const (.int .i64 0), .const (.int .i64 2)], argTypes := #[82, 3, 3] }, 0, none, false⟩]
theorem class_Write_r29_go {K : Env → Heap → Prop} {τ ρ : Env} {h : Heap} : vcOps Try.prog K class_Write_r29 τ ρ h = vcOps Try.prog K [
  ⟨some (134, false), .load 82 (.tmp 4), 82, none, true⟩,
  ⟨some (135, false), .call { callee := .value (.func 37), args := #[.tmp 134, .const (.int .i64 0), .const (.int .i64 2)], argTypes := #[82, 3, 3] }, 0, none, false⟩] τ ρ h := _root_.id rfl
def class_Write_r30 : List Sop := [
  ⟨some (136, false), .load 82 (.tmp 4), 82, none, true⟩,
  ⟨some (137, false), .call { callee := .value (.func 37), args := #[.tmp 136, .const (.int .i64 1), .const (.int .i64 2)], argTypes := #[82, 3, 3] }, 0, none, false⟩]
theorem class_Write_r30_go {K : Env → Heap → Prop} {τ ρ : Env} {h : Heap} : vcOps Try.prog K class_Write_r30 τ ρ h = vcOps Try.prog K [
  ⟨some (136, false), .load 82 (.tmp 4), 82, none, true⟩,
  ⟨some (137, false), .call { callee := .value (.func 37), args := #[.tmp 136, .const (.int .i64 1), .const (.int .i64 2)], argTypes := #[82, 3, 3] }, 0, none, false⟩] τ ρ h := _root_.id rfl
def class_Write_r31 : List Sop := [
  ⟨some (138, false), .load 82 (.tmp 4), 82, none, true⟩,
  ⟨some (139, false), .makeFunc (.func 43) #[] #[.tmp 4, .tmp 11], 1, none, true⟩,
  ⟨some (140, false), .call { callee := .value (.func 41), args := #[.tmp 138, .const (.string { data := #[67, 111, 100, 101] }), .tmp 139], argTypes := #[82, 9, 1] }, 0, none, false⟩]
theorem class_Write_r31_go {K : Env → Heap → Prop} {τ ρ : Env} {h : Heap} : vcOps Try.prog K class_Write_r31 τ ρ h = vcOps Try.prog K [
  ⟨some (138, false), .load 82 (.tmp 4), 82, none, true⟩,
  ⟨some (139, false), .makeFunc (.func 43) #[] #[.tmp 4, .tmp 11], 1, none, true⟩,
  ⟨some (140, false), .call { callee := .value (.func 41), args := #[.tmp 138, .const (.string { data := #[67, 111, 100, 101] }), .tmp 139], argTypes := #[82, 9, 1] }, 0, none, false⟩] τ ρ h := _root_.id rfl
def class_Write_r32 : List Sop := [
  ⟨some (141, false), .binOp .add 3 (.tmp 118) (.const (.int .i64 1)) 3, 3, none, true⟩,
  ⟨some (118, true), .move (.tmp 141), 3, none, true⟩]
theorem class_Write_r32_go {K : Env → Heap → Prop} {τ ρ : Env} {h : Heap} : vcOps Try.prog K class_Write_r32 τ ρ h = vcOps Try.prog K [
  ⟨some (141, false), .binOp .add 3 (.tmp 118) (.const (.int .i64 1)) 3, 3, none, true⟩,
  ⟨some (118, true), .move (.tmp 141), 3, none, true⟩] τ ρ h := _root_.id rfl
def class_Write_r33 : List Sop := [
  ⟨some (142, false), .load 82 (.tmp 4), 82, none, true⟩,
  ⟨some (143, false), .call { callee := .value (.func 37), args := #[.tmp 142, .const (.int .i64 0), .const (.int .i64 2)], argTypes := #[82, 3, 3] }, 0, none, false⟩]
theorem class_Write_r33_go {K : Env → Heap → Prop} {τ ρ : Env} {h : Heap} : vcOps Try.prog K class_Write_r33 τ ρ h = vcOps Try.prog K [
  ⟨some (142, false), .load 82 (.tmp 4), 82, none, true⟩,
  ⟨some (143, false), .call { callee := .value (.func 37), args := #[.tmp 142, .const (.int .i64 0), .const (.int .i64 2)], argTypes := #[82, 3, 3] }, 0, none, false⟩] τ ρ h := _root_.id rfl
def class_Write_r34 : List Sop := [
  ⟨some (144, false), .load 82 (.tmp 4), 82, none, true⟩,
  ⟨some (145, false), .nilCheck (.tmp 144), 0, none, true⟩,
  ⟨some (146, false), .fieldAddr 84 (.tmp 145) 2, 0, none, true⟩,
  ⟨some (147, false), .load 27 (.tmp 146), 27, none, true⟩,
  ⟨some (148, true), .binOp .neq 27 (.tmp 147) (.const (.int .i64 0)) 27, 4, none, true⟩]
theorem class_Write_r34_go {K : Env → Heap → Prop} {τ ρ : Env} {h : Heap} : vcOps Try.prog K class_Write_r34 τ ρ h = vcOps Try.prog K [
  ⟨some (144, false), .load 82 (.tmp 4), 82, none, true⟩,
  ⟨some (145, false), .nilCheck (.tmp 144), 0, none, true⟩,
  ⟨some (146, false), .fieldAddr 84 (.tmp 145) 2, 0, none, true⟩,
  ⟨some (147, false), .load 27 (.tmp 146), 27, none, true⟩,
  ⟨some (148, true), .binOp .neq 27 (.tmp 147) (.const (.int .i64 0)) 27, 4, none, true⟩] τ ρ h := _root_.id rfl
def class_Write_r35 : List (Sop × List Sop) := [
  (⟨some (149, false), .load 82 (.tmp 4), 82, none, true⟩, []),
  (⟨some (150, false), .nilCheck (.tmp 149), 0, none, true⟩, []),
  (⟨some (151, false), .fieldAddr 84 (.tmp 150) 2, 0, none, true⟩, []),
  (⟨some (152, false), .load 27 (.tmp 151), 27, none, true⟩, []),
  (⟨some (2, true), .assign (.const (.string { data := #[] })), 9, none, true⟩, []),
  (⟨some (3, true), .assign (.tmp 152), 27, none, true⟩, [])]
theorem class_Write_r35_go {K : Env → Heap → Prop} {τ ρ : Env} {h : Heap} : vcDraw Try.prog K class_Write_r35 τ ρ h = vcDraw Try.prog K [
  (⟨some (149, false), .load 82 (.tmp 4), 82, none, true⟩, []),
  (⟨some (150, false), .nilCheck (.tmp 149), 0, none, true⟩, []),
  (⟨some (151, false), .fieldAddr 84 (.tmp 150) 2, 0, none, true⟩, []),
  (⟨some (152, false), .load 27 (.tmp 151), 27, none, true⟩, []),
  (⟨some (2, true), .assign (.const (.string { data := #[] })), 9, none, true⟩, []),
  (⟨some (3, true), .assign (.tmp 152), 27, none, true⟩, [])] τ ρ h := _root_.id rfl
def class_Write_r36 : List Sop := [
  ⟨some (153, false), .load 82 (.tmp 4), 82, none, true⟩,
  ⟨some (154, false), .nilCheck (.tmp 153), 0, none, true⟩,
  ⟨some (155, false), .fieldAddr 84 (.tmp 154) 0, 0, none, true⟩,
  ⟨some (156, false), .load 69 (.tmp 155), 69, none, true⟩,
  ⟨some (157, false), .convert 69 9 (.tmp 156), 9, none, true⟩,
  ⟨some (2, true), .assign (.tmp 157), 9, none, true⟩,
  ⟨some (3, true), .assign (.const (.int .i64 0)), 27, none, true⟩]
theorem class_Write_r36_go {K : Env → Heap → Prop} {τ ρ : Env} {h : Heap} : vcOps Try.prog K class_Write_r36 τ ρ h = vcOps Try.prog K [
  ⟨some (153, false), .load 82 (.tmp 4), 82, none, true⟩,
  ⟨some (154, false), .nilCheck (.tmp 153), 0, none, true⟩,
  ⟨some (155, false), .fieldAddr 84 (.tmp 154) 0, 0, none, true⟩,
  ⟨some (156, false), .load 69 (.tmp 155), 69, none, true⟩,
  ⟨some (157, false), .convert 69 9 (.tmp 156), 9, none, true⟩,
  ⟨some (2, true), .assign (.tmp 157), 9, none, true⟩,
  ⟨some (3, true), .assign (.const (.int .i64 0)), 27, none, true⟩] τ ρ h := _root_.id rfl
def class_Write_l0 : Cd := .seq (.region class_Write_r15) (.seq (.cond (.tmp 87) (.skip) (.exit 0)) (.seq (.block 1 (.seq (.region class_Write_r16) (.seq (.region class_Write_r17) (.seq (.seq (.region class_Write_r18) (.cond (.tmp 101) (.seq (.region class_Write_r19) (.exit 1)) (.skip))) (.seq (.region class_Write_r20) (.region class_Write_r21)))))) (.region class_Write_r22)))
theorem class_Write_l0_go {Q : Ex → Env → Heap → Prop} {ρ : Env} {h : Heap} : Cd.vc Try.prog class_Write_l0 Q ρ h = Cd.vc Try.prog (.seq (.region class_Write_r15) (.seq (.cond (.tmp 87) (.skip) (.exit 0)) (.seq (.block 1 (.seq (.region class_Write_r16) (.seq (.region class_Write_r17) (.seq (.seq (.region class_Write_r18) (.cond (.tmp 101) (.seq (.region class_Write_r19) (.exit 1)) (.skip))) (.seq (.region class_Write_r20) (.region class_Write_r21)))))) (.region class_Write_r22)))) Q ρ h := _root_.id rfl
def class_Write_l1 : Cd := .seq (.region class_Write_r25) (.seq (.cond (.tmp 119) (.skip) (.exit 2)) (.seq (.block 3 (.seq (.region class_Write_r26) (.seq (.region class_Write_r27) (.seq (.seq (.region class_Write_r28) (.cond (.tmp 133) (.seq (.region class_Write_r29) (.exit 3)) (.skip))) (.seq (.region class_Write_r30) (.region class_Write_r31)))))) (.region class_Write_r32)))
theorem class_Write_l1_go {Q : Ex → Env → Heap → Prop} {ρ : Env} {h : Heap} : Cd.vc Try.prog class_Write_l1 Q ρ h = Cd.vc Try.prog (.seq (.region class_Write_r25) (.seq (.cond (.tmp 119) (.skip) (.exit 2)) (.seq (.block 3 (.seq (.region class_Write_r26) (.seq (.region class_Write_r27) (.seq (.seq (.region class_Write_r28) (.cond (.tmp 133) (.seq (.region class_Write_r29) (.exit 3)) (.skip))) (.seq (.region class_Write_r30) (.region class_Write_r31)))))) (.region class_Write_r32)))) Q ρ h := _root_.id rfl
def class_Write_t0 : Cd := .seq (.draw class_Write_r9) (.seq (.region class_Write_r10) (.seq (.region class_Write_r11) (.seq (.region class_Write_r12) (.seq (.region class_Write_r13) (.seq (.seq (.region class_Write_r14) (.block 0 (.loop class_Write_l0))) (.seq (.region class_Write_r23) (.seq (.seq (.region class_Write_r24) (.block 2 (.loop class_Write_l1))) (.seq (.region class_Write_r33) (.seq (.seq (.region class_Write_r34) (.cond (.tmp 148) (.seq (.draw class_Write_r35) (.ret)) (.skip))) (.seq (.region class_Write_r36) (.ret)))))))))))
theorem class_Write_t0_go {Q : Ex → Env → Heap → Prop} {ρ : Env} {h : Heap} : Cd.vc Try.prog class_Write_t0 Q ρ h = Cd.vc Try.prog (.seq (.draw class_Write_r9) (.seq (.region class_Write_r10) (.seq (.region class_Write_r11) (.seq (.region class_Write_r12) (.seq (.region class_Write_r13) (.seq (.seq (.region class_Write_r14) (.block 0 (.loop class_Write_l0))) (.seq (.region class_Write_r23) (.seq (.seq (.region class_Write_r24) (.block 2 (.loop class_Write_l1))) (.seq (.region class_Write_r33) (.seq (.seq (.region class_Write_r34) (.cond (.tmp 148) (.seq (.draw class_Write_r35) (.ret)) (.skip))) (.seq (.region class_Write_r36) (.ret)))))))))))) Q ρ h := _root_.id rfl
def class_Write_t1 : Cd := .seq (.region class_Write_r6) (.seq (.seq (.region class_Write_r7) (.cond (.tmp 47) (.region class_Write_r8) (.skip))) (class_Write_t0))
theorem class_Write_t1_go {Q : Ex → Env → Heap → Prop} {ρ : Env} {h : Heap} : Cd.vc Try.prog class_Write_t1 Q ρ h = Cd.vc Try.prog (.seq (.region class_Write_r6) (.seq (.seq (.region class_Write_r7) (.cond (.tmp 47) (.region class_Write_r8) (.skip))) (class_Write_t0))) Q ρ h := _root_.id rfl
def class_Write : Cd := .seq (.region class_Write_r0) (.seq (.region class_Write_r1) (.seq (.region class_Write_r2) (.seq (.region class_Write_r3) (.seq (.seq (.region class_Write_r4) (.cond (.tmp 36) (.region class_Write_r5) (.skip))) (class_Write_t1)))))
theorem class_Write_go {Q : Ex → Env → Heap → Prop} {ρ : Env} {h : Heap} : Cd.vc Try.prog class_Write Q ρ h = Cd.vc Try.prog (.seq (.region class_Write_r0) (.seq (.region class_Write_r1) (.seq (.region class_Write_r2) (.seq (.region class_Write_r3) (.seq (.seq (.region class_Write_r4) (.cond (.tmp 36) (.region class_Write_r5) (.skip))) (class_Write_t1)))))) Q ρ h := _root_.id rfl
theorem class_Write_calls {args : List Value} {h : Heap} {R : Value → Heap → Prop} (hl : args.length = 1) (hv : Cd.vc Try.prog class_Write (retQ Try.prog [(2, none), (3, none)] R) (initEnv args [0, 1, 2, 3, 4, 5, 6, 9, 11, 36, 47, 84, 85, 86, 87, 101, 116, 117, 118, 119, 133, 148]) h) : HCalls Try.prog 16 args.toArray h R :=
  hcalls_of_vc (by kernel_rfl) Try.func16 (cd := class_Write) (L := [0, 1, 2, 3, 4, 5, 6, 9, 11, 36, 47, 84, 85, 86, 87, 101, 116, 117, 118, 119, 133, 148]) (by kernel_rfl) (by kernel_rfl) ⟨by rw [hl, Try.ntmps16]; decide, by rw [Try.ntmps16]; decide⟩ hv
def class_Write_gos := And.intro @class_Write_go (And.intro @class_Write_r0_go (And.intro @class_Write_r1_go (And.intro @class_Write_r2_go (And.intro @class_Write_r3_go (And.intro @class_Write_r4_go (And.intro @class_Write_r5_go (And.intro @class_Write_r6_go (And.intro @class_Write_r7_go (And.intro @class_Write_r8_go (And.intro @class_Write_r9_go (And.intro @class_Write_r10_go (And.intro @class_Write_r11_go (And.intro @class_Write_r12_go (And.intro @class_Write_r13_go (And.intro @class_Write_r14_go (And.intro @class_Write_r15_go (And.intro @class_Write_r16_go (And.intro @class_Write_r17_go (And.intro @class_Write_r18_go (And.intro @class_Write_r19_go (And.intro @class_Write_r20_go (And.intro @class_Write_r21_go (And.intro @class_Write_r22_go (And.intro @class_Write_r23_go (And.intro @class_Write_r24_go (And.intro @class_Write_r25_go (And.intro @class_Write_r26_go (And.intro @class_Write_r27_go (And.intro @class_Write_r28_go (And.intro @class_Write_r29_go (And.intro @class_Write_r30_go (And.intro @class_Write_r31_go (And.intro @class_Write_r32_go (And.intro @class_Write_r33_go (And.intro @class_Write_r34_go (And.intro @class_Write_r35_go (And.intro @class_Write_r36_go (And.intro @class_Write_l0_go (@class_Write_l1_go)))))))))))))))))))))))))))))))))))))))

/-! jvmcore/class.Write.1: function 42: slots [0, 1] -/
def class_Write_1_r0 : List Sop := [
  ⟨some (2, false), .load 82 (.tmp 0), 82, none, true⟩,
  ⟨some (3, false), .fieldAddr 89 (.tmp 1) 3, 0, none, true⟩,
  ⟨some (4, false), .load 38 (.tmp 3), 38, none, true⟩,
  ⟨some (5, false), .buildSlice 39 1 #[(0, .tmp 4)], 39, none, false⟩,
  ⟨some (6, false), .call { callee := .value (.func 38), args := #[.tmp 2, .tmp 5], argTypes := #[82, 39] }, 0, none, false⟩]
theorem class_Write_1_r0_go {K : Env → Heap → Prop} {τ ρ : Env} {h : Heap} : vcOps Try.prog K class_Write_1_r0 τ ρ h = vcOps Try.prog K [
  ⟨some (2, false), .load 82 (.tmp 0), 82, none, true⟩,
  ⟨some (3, false), .fieldAddr 89 (.tmp 1) 3, 0, none, true⟩,
  ⟨some (4, false), .load 38 (.tmp 3), 38, none, true⟩,
  ⟨some (5, false), .buildSlice 39 1 #[(0, .tmp 4)], 39, none, false⟩,
  ⟨some (6, false), .call { callee := .value (.func 38), args := #[.tmp 2, .tmp 5], argTypes := #[82, 39] }, 0, none, false⟩] τ ρ h := _root_.id rfl
def class_Write_1 : Cd := .region class_Write_1_r0
theorem class_Write_1_go {Q : Ex → Env → Heap → Prop} {ρ : Env} {h : Heap} : Cd.vc Try.prog class_Write_1 Q ρ h = Cd.vc Try.prog (.region class_Write_1_r0) Q ρ h := _root_.id rfl
theorem class_Write_1_calls {args : List Value} {h : Heap} {R : Value → Heap → Prop} (hl : args.length = 2) (hv : Cd.vc Try.prog class_Write_1 (retQ Try.prog [] R) (initEnv args [0, 1]) h) : HCalls Try.prog 42 args.toArray h R :=
  hcalls_of_vc (by kernel_rfl) Try.func42 (cd := class_Write_1) (L := [0, 1]) (by kernel_rfl) (by kernel_rfl) ⟨by rw [hl, Try.ntmps42]; decide, by rw [Try.ntmps42]; decide⟩ hv
def class_Write_1_gos := And.intro @class_Write_1_go (@class_Write_1_r0_go)

/-! jvmcore/class.Write.2: function 43: slots [0, 1] -/
def class_Write_2_r0 : List Sop := [
  ⟨some (2, false), .load 82 (.tmp 0), 82, none, true⟩,
  ⟨some (3, false), .fieldAddr 81 (.tmp 1) 4, 0, none, true⟩,
  ⟨some (4, false), .load 79 (.tmp 3), 79, none, true⟩,
  ⟨some (5, false), .call { callee := .value (.func 44), args := #[.tmp 2, .tmp 4], argTypes := #[82, 79] }, 0, none, false⟩]
theorem class_Write_2_r0_go {K : Env → Heap → Prop} {τ ρ : Env} {h : Heap} : vcOps Try.prog K class_Write_2_r0 τ ρ h = vcOps Try.prog K [
  ⟨some (2, false), .load 82 (.tmp 0), 82, none, true⟩,
  ⟨some (3, false), .fieldAddr 81 (.tmp 1) 4, 0, none, true⟩,
  ⟨some (4, false), .load 79 (.tmp 3), 79, none, true⟩,
  ⟨some (5, false), .call { callee := .value (.func 44), args := #[.tmp 2, .tmp 4], argTypes := #[82, 79] }, 0, none, false⟩] τ ρ h := _root_.id rfl
def class_Write_2 : Cd := .region class_Write_2_r0
theorem class_Write_2_go {Q : Ex → Env → Heap → Prop} {ρ : Env} {h : Heap} : Cd.vc Try.prog class_Write_2 Q ρ h = Cd.vc Try.prog (.region class_Write_2_r0) Q ρ h := _root_.id rfl
theorem class_Write_2_calls {args : List Value} {h : Heap} {R : Value → Heap → Prop} (hl : args.length = 2) (hv : Cd.vc Try.prog class_Write_2 (retQ Try.prog [] R) (initEnv args [0, 1]) h) : HCalls Try.prog 43 args.toArray h R :=
  hcalls_of_vc (by kernel_rfl) Try.func43 (cd := class_Write_2) (L := [0, 1]) (by kernel_rfl) (by kernel_rfl) ⟨by rw [hl, Try.ntmps43]; decide, by rw [Try.ntmps43]; decide⟩ hv
def class_Write_2_gos := And.intro @class_Write_2_go (@class_Write_2_r0_go)

/-! (*jvmcore/class.writer).fail: function 39: slots [0, 1, 8] -/
def cw_fail_r0 : List Sop := [
  ⟨some (4, false), .move (.tmp 0), 82, none, true⟩,
  ⟨some (5, false), .nilCheck (.tmp 4), 0, none, true⟩,
  ⟨some (6, false), .fieldAddr 84 (.tmp 5) 2, 0, none, true⟩,
  ⟨some (7, false), .load 27 (.tmp 6), 27, none, true⟩,
  ⟨some (8, true), .binOp .eql 27 (.tmp 7) (.const (.int .i64 0)) 27, 4, none, true⟩]
theorem cw_fail_r0_go {K : Env → Heap → Prop} {τ ρ : Env} {h : Heap} : vcOps Try.prog K cw_fail_r0 τ ρ h = vcOps Try.prog K [
  ⟨some (4, false), .move (.tmp 0), 82, none, true⟩,
  ⟨some (5, false), .nilCheck (.tmp 4), 0, none, true⟩,
  ⟨some (6, false), .fieldAddr 84 (.tmp 5) 2, 0, none, true⟩,
  ⟨some (7, false), .load 27 (.tmp 6), 27, none, true⟩,
  ⟨some (8, true), .binOp .eql 27 (.tmp 7) (.const (.int .i64 0)) 27, 4, none, true⟩] τ ρ h := _root_.id rfl
def cw_fail_r1 : List Sop := [
  ⟨some (9, false), .move (.tmp 0), 82, none, true⟩,
  ⟨some (10, false), .move (.tmp 1), 27, none, true⟩,
  ⟨some (11, false), .nilCheck (.tmp 9), 0, none, true⟩,
  ⟨some (12, false), .fieldAddr 84 (.tmp 11) 2, 0, none, true⟩,
  ⟨none, .store 27 (.tmp 12) (.tmp 10), 0, none, false⟩]
theorem cw_fail_r1_go {K : Env → Heap → Prop} {τ ρ : Env} {h : Heap} : vcOps Try.prog K cw_fail_r1 τ ρ h = vcOps Try.prog K [
  ⟨some (9, false), .move (.tmp 0), 82, none, true⟩,
  ⟨some (10, false), .move (.tmp 1), 27, none, true⟩,
  ⟨some (11, false), .nilCheck (.tmp 9), 0, none, true⟩,
  ⟨some (12, false), .fieldAddr 84 (.tmp 11) 2, 0, none, true⟩,
  ⟨none, .store 27 (.tmp 12) (.tmp 10), 0, none, false⟩] τ ρ h := _root_.id rfl
def cw_fail : Cd := .seq (.region cw_fail_r0) (.cond (.tmp 8) (.region cw_fail_r1) (.skip))
theorem cw_fail_go {Q : Ex → Env → Heap → Prop} {ρ : Env} {h : Heap} : Cd.vc Try.prog cw_fail Q ρ h = Cd.vc Try.prog (.seq (.region cw_fail_r0) (.cond (.tmp 8) (.region cw_fail_r1) (.skip))) Q ρ h := _root_.id rfl
theorem cw_fail_calls {args : List Value} {h : Heap} {R : Value → Heap → Prop} (hl : args.length = 2) (hv : Cd.vc Try.prog cw_fail (retQ Try.prog [] R) (initEnv args [0, 1, 8]) h) : HCalls Try.prog 39 args.toArray h R :=
  hcalls_of_vc (by kernel_rfl) Try.func39 (cd := cw_fail) (L := [0, 1, 8]) (by kernel_rfl) (by kernel_rfl) ⟨by rw [hl, Try.ntmps39]; decide, by rw [Try.ntmps39]; decide⟩ hv
def cw_fail_gos := And.intro @cw_fail_go (And.intro @cw_fail_r0_go (@cw_fail_r1_go))

/-! (*jvmcore/class.writer).num: function 37: slots [0, 1, 2, 14] -/
def cw_num_r0 : List Sop := [
  ⟨some (6, false), .move (.tmp 1), 3, none, true⟩,
  ⟨some (7, false), .binOp .lss 3 (.tmp 6) (.const (.int .i64 0)) 3, 4, none, true⟩,
  ⟨some (8, false), .move (.tmp 7), 4, none, true⟩,
  ⟨some (9, false), .move (.tmp 1), 3, some (8, false), true⟩,
  ⟨some (10, false), .move (.tmp 2), 3, some (8, false), true⟩,
  ⟨some (11, false), .binOp .mul 3 (.const (.int .i64 8)) (.tmp 10) 3, 3, some (8, false), true⟩,
  ⟨some (12, false), .binOp .shr 3 (.tmp 9) (.tmp 11) 3, 3, some (8, false), true⟩,
  ⟨some (13, false), .binOp .neq 3 (.tmp 12) (.const (.int .i64 0)) 3, 4, some (8, false), true⟩,
  ⟨some (14, true), .pick (.tmp 8) (.const (.bool true)) (.tmp 13), 4, none, true⟩]
theorem cw_num_r0_go {K : Env → Heap → Prop} {τ ρ : Env} {h : Heap} : vcOps Try.prog K cw_num_r0 τ ρ h = vcOps Try.prog K [
  ⟨some (6, false), .move (.tmp 1), 3, none, true⟩,
  ⟨some (7, false), .binOp .lss 3 (.tmp 6) (.const (.int .i64 0)) 3, 4, none, true⟩,
  ⟨some (8, false), .move (.tmp 7), 4, none, true⟩,
  ⟨some (9, false), .move (.tmp 1), 3, some (8, false), true⟩,
  ⟨some (10, false), .move (.tmp 2), 3, some (8, false), true⟩,
  ⟨some (11, false), .binOp .mul 3 (.const (.int .i64 8)) (.tmp 10) 3, 3, some (8, false), true⟩,
  ⟨some (12, false), .binOp .shr 3 (.tmp 9) (.tmp 11) 3, 3, some (8, false), true⟩,
  ⟨some (13, false), .binOp .neq 3 (.tmp 12) (.const (.int .i64 0)) 3, 4, some (8, false), true⟩,
  ⟨some (14, true), .pick (.tmp 8) (.const (.bool true)) (.tmp 13), 4, none, true⟩] τ ρ h := _root_.id rfl
def cw_num_r1 : List Sop := [
  ⟨some (15, false), .move (.tmp 0), 82, none, true⟩,
  ⟨some (16, false), .call { callee := .value (.func 39), args := #[.tmp 15, .const (.int .i64 12)], argTypes := #[82, 27] }, 0, none, false⟩]
theorem cw_num_r1_go {K : Env → Heap → Prop} {τ ρ : Env} {h : Heap} : vcOps Try.prog K cw_num_r1 τ ρ h = vcOps Try.prog K [
  ⟨some (15, false), .move (.tmp 0), 82, none, true⟩,
  ⟨some (16, false), .call { callee := .value (.func 39), args := #[.tmp 15, .const (.int .i64 12)], argTypes := #[82, 27] }, 0, none, false⟩] τ ρ h := _root_.id rfl
def cw_num_r2 : List (Sop × List Sop) := [
  (⟨some (17, false), .move (.tmp 0), 82, none, true⟩, []),
  (⟨some (18, false), .move (.tmp 0), 82, none, true⟩, []),
  (⟨some (19, false), .nilCheck (.tmp 18), 0, none, true⟩, []),
  (⟨some (20, false), .fieldAddr 84 (.tmp 19) 0, 0, none, true⟩, []),
  (⟨some (21, false), .load 69 (.tmp 20), 69, none, true⟩, []),
  (⟨some (22, false), .move (.tmp 1), 3, none, true⟩, []),
  (⟨some (23, false), .convert 3 74 (.tmp 22), 74, none, true⟩, []),
  (⟨some (24, false), .move (.tmp 2), 3, none, true⟩, []),
  (⟨some (25, false), .call { callee := .value (.func 70), args := #[.tmp 23, .tmp 24], argTypes := #[74, 3] }, 9, none, false⟩, [⟨some (19, false), .nilCheck (.tmp 18), 0, none, true⟩, ⟨some (20, false), .fieldAddr 84 (.tmp 19) 0, 0, none, true⟩, ⟨some (21, false), .load 69 (.tmp 20), 69, none, true⟩]),
  (⟨some (26, false), .call { callee := .builtin .append, args := #[.tmp 21, .tmp 25], argTypes := #[69, 9] }, 69, none, false⟩, []),
  (⟨some (27, false), .nilCheck (.tmp 17), 0, none, true⟩, []),
  (⟨some (28, false), .fieldAddr 84 (.tmp 27) 0, 0, none, true⟩, []),
  (⟨none, .store 69 (.tmp 28) (.tmp 26), 0, none, false⟩, [])]
theorem cw_num_r2_go {K : Env → Heap → Prop} {τ ρ : Env} {h : Heap} : vcDraw Try.prog K cw_num_r2 τ ρ h = vcDraw Try.prog K [
  (⟨some (17, false), .move (.tmp 0), 82, none, true⟩, []),
  (⟨some (18, false), .move (.tmp 0), 82, none, true⟩, []),
  (⟨some (19, false), .nilCheck (.tmp 18), 0, none, true⟩, []),
  (⟨some (20, false), .fieldAddr 84 (.tmp 19) 0, 0, none, true⟩, []),
  (⟨some (21, false), .load 69 (.tmp 20), 69, none, true⟩, []),
  (⟨some (22, false), .move (.tmp 1), 3, none, true⟩, []),
  (⟨some (23, false), .convert 3 74 (.tmp 22), 74, none, true⟩, []),
  (⟨some (24, false), .move (.tmp 2), 3, none, true⟩, []),
  (⟨some (25, false), .call { callee := .value (.func 70), args := #[.tmp 23, .tmp 24], argTypes := #[74, 3] }, 9, none, false⟩, [⟨some (19, false), .nilCheck (.tmp 18), 0, none, true⟩, ⟨some (20, false), .fieldAddr 84 (.tmp 19) 0, 0, none, true⟩, ⟨some (21, false), .load 69 (.tmp 20), 69, none, true⟩]),
  (⟨some (26, false), .call { callee := .builtin .append, args := #[.tmp 21, .tmp 25], argTypes := #[69, 9] }, 69, none, false⟩, []),
  (⟨some (27, false), .nilCheck (.tmp 17), 0, none, true⟩, []),
  (⟨some (28, false), .fieldAddr 84 (.tmp 27) 0, 0, none, true⟩, []),
  (⟨none, .store 69 (.tmp 28) (.tmp 26), 0, none, false⟩, [])] τ ρ h := _root_.id rfl
def cw_num : Cd := .seq (.seq (.region cw_num_r0) (.cond (.tmp 14) (.region cw_num_r1) (.skip))) (.draw cw_num_r2)
theorem cw_num_go {Q : Ex → Env → Heap → Prop} {ρ : Env} {h : Heap} : Cd.vc Try.prog cw_num Q ρ h = Cd.vc Try.prog (.seq (.seq (.region cw_num_r0) (.cond (.tmp 14) (.region cw_num_r1) (.skip))) (.draw cw_num_r2)) Q ρ h := _root_.id rfl
theorem cw_num_calls {args : List Value} {h : Heap} {R : Value → Heap → Prop} (hl : args.length = 3) (hv : Cd.vc Try.prog cw_num (retQ Try.prog [] R) (initEnv args [0, 1, 2, 14]) h) : HCalls Try.prog 37 args.toArray h R :=
  hcalls_of_vc (by kernel_rfl) Try.func37 (cd := cw_num) (L := [0, 1, 2, 14]) (by kernel_rfl) (by kernel_rfl) ⟨by rw [hl, Try.ntmps37]; decide, by rw [Try.ntmps37]; decide⟩ hv
def cw_num_gos := And.intro @cw_num_go (And.intro @cw_num_r0_go (And.intro @cw_num_r1_go (@cw_num_r2_go)))

/-! (*jvmcore/class.writer).index: function 38: slots [0, 1, 5, 6, 7, 8, 9] -/
def cw_index_r0 : List Sop := [
  ⟨some (6, true), .move (.tmp 1), 39, none, true⟩,
  ⟨some (7, true), .call { callee := .builtin .len, args := #[.tmp 6], argTypes := #[39] }, 3, none, true⟩,
  ⟨some (8, true), .move (.const (.int .i64 0)), 3, none, true⟩]
theorem cw_index_r0_go {K : Env → Heap → Prop} {τ ρ : Env} {h : Heap} : vcOps Try.prog K cw_index_r0 τ ρ h = vcOps Try.prog K [
  ⟨some (6, true), .move (.tmp 1), 39, none, true⟩,
  ⟨some (7, true), .call { callee := .builtin .len, args := #[.tmp 6], argTypes := #[39] }, 3, none, true⟩,
  ⟨some (8, true), .move (.const (.int .i64 0)), 3, none, true⟩] τ ρ h := _root_.id rfl
def cw_index_r1 : List Sop := [
  ⟨some (9, true), .binOp .lss 3 (.tmp 8) (.tmp 7) 3, 0, none, true⟩]
theorem cw_index_r1_go {K : Env → Heap → Prop} {τ ρ : Env} {h : Heap} : vcOps Try.prog K cw_index_r1 τ ρ h = vcOps Try.prog K [
  ⟨some (9, true), .binOp .lss 3 (.tmp 8) (.tmp 7) 3, 0, none, true⟩] τ ρ h := _root_.id rfl
def cw_index_r2 : List Sop := [
  ⟨some (10, false), .indexAddr 39 (.tmp 6) (.tmp 8), 0, none, true⟩,
  ⟨some (11, false), .load 38 (.tmp 10), 38, none, true⟩,
  ⟨some (5, true), .assign (.tmp 11), 38, none, true⟩]
theorem cw_index_r2_go {K : Env → Heap → Prop} {τ ρ : Env} {h : Heap} : vcOps Try.prog K cw_index_r2 τ ρ h = vcOps Try.prog K [
  ⟨some (10, false), .indexAddr 39 (.tmp 6) (.tmp 8), 0, none, true⟩,
  ⟨some (11, false), .load 38 (.tmp 10), 38, none, true⟩,
  ⟨some (5, true), .assign (.tmp 11), 38, none, true⟩] τ ρ h := _root_.id rfl
def cw_index_r3 : List Sop := [
  ⟨some (12, false), .move (.tmp 0), 82, none, true⟩,
  ⟨some (13, false), .move (.tmp 5), 38, none, true⟩,
  ⟨some (14, false), .convert 38 3 (.tmp 13), 3, none, true⟩,
  ⟨some (15, false), .call { callee := .value (.func 37), args := #[.tmp 12, .tmp 14, .const (.int .i64 2)], argTypes := #[82, 3, 3] }, 0, none, false⟩]
theorem cw_index_r3_go {K : Env → Heap → Prop} {τ ρ : Env} {h : Heap} : vcOps Try.prog K cw_index_r3 τ ρ h = vcOps Try.prog K [
  ⟨some (12, false), .move (.tmp 0), 82, none, true⟩,
  ⟨some (13, false), .move (.tmp 5), 38, none, true⟩,
  ⟨some (14, false), .convert 38 3 (.tmp 13), 3, none, true⟩,
  ⟨some (15, false), .call { callee := .value (.func 37), args := #[.tmp 12, .tmp 14, .const (.int .i64 2)], argTypes := #[82, 3, 3] }, 0, none, false⟩] τ ρ h := _root_.id rfl
def cw_index_r4 : List Sop := [
  ⟨some (16, false), .binOp .add 3 (.tmp 8) (.const (.int .i64 1)) 3, 3, none, true⟩,
  ⟨some (8, true), .move (.tmp 16), 3, none, true⟩]
theorem cw_index_r4_go {K : Env → Heap → Prop} {τ ρ : Env} {h : Heap} : vcOps Try.prog K cw_index_r4 τ ρ h = vcOps Try.prog K [
  ⟨some (16, false), .binOp .add 3 (.tmp 8) (.const (.int .i64 1)) 3, 3, none, true⟩,
  ⟨some (8, true), .move (.tmp 16), 3, none, true⟩] τ ρ h := _root_.id rfl
def cw_index_l0 : Cd := .seq (.region cw_index_r1) (.seq (.cond (.tmp 9) (.skip) (.exit 0)) (.seq (.block 1 (.seq (.region cw_index_r2) (.region cw_index_r3))) (.region cw_index_r4)))
theorem cw_index_l0_go {Q : Ex → Env → Heap → Prop} {ρ : Env} {h : Heap} : Cd.vc Try.prog cw_index_l0 Q ρ h = Cd.vc Try.prog (.seq (.region cw_index_r1) (.seq (.cond (.tmp 9) (.skip) (.exit 0)) (.seq (.block 1 (.seq (.region cw_index_r2) (.region cw_index_r3))) (.region cw_index_r4)))) Q ρ h := _root_.id rfl
def cw_index : Cd := .seq (.region cw_index_r0) (.block 0 (.loop cw_index_l0))
theorem cw_index_go {Q : Ex → Env → Heap → Prop} {ρ : Env} {h : Heap} : Cd.vc Try.prog cw_index Q ρ h = Cd.vc Try.prog (.seq (.region cw_index_r0) (.block 0 (.loop cw_index_l0))) Q ρ h := _root_.id rfl
theorem cw_index_calls {args : List Value} {h : Heap} {R : Value → Heap → Prop} (hl : args.length = 2) (hv : Cd.vc Try.prog cw_index (retQ Try.prog [] R) (initEnv args [0, 1, 5, 6, 7, 8, 9]) h) : HCalls Try.prog 38 args.toArray h R :=
  hcalls_of_vc (by kernel_rfl) Try.func38 (cd := cw_index) (L := [0, 1, 5, 6, 7, 8, 9]) (by kernel_rfl) (by kernel_rfl) ⟨by rw [hl, Try.ntmps38]; decide, by rw [Try.ntmps38]; decide⟩ hv
def cw_index_gos := And.intro @cw_index_go (And.intro @cw_index_r0_go (And.intro @cw_index_r1_go (And.intro @cw_index_r2_go (And.intro @cw_index_r3_go (And.intro @cw_index_r4_go (@cw_index_l0_go))))))

/-! (*jvmcore/class.writer).attribute: function 41: slots [0, 1, 2, 6, 7, 8, 13, 14, 15, 16, 28] -/
def cw_attribute_r0 : List Sop := [
  ⟨some (9, false), .move (.tmp 0), 82, none, true⟩,
  ⟨some (10, false), .nilCheck (.tmp 9), 0, none, true⟩,
  ⟨some (11, false), .fieldAddr 84 (.tmp 10) 1, 0, none, true⟩,
  ⟨some (12, false), .fieldAddr 43 (.tmp 11) 5, 0, none, true⟩,
  ⟨some (13, true), .load 22 (.tmp 12), 22, none, true⟩,
  ⟨some (14, true), .call { callee := .builtin .len, args := #[.tmp 13], argTypes := #[22] }, 3, none, true⟩,
  ⟨some (15, true), .move (.const (.int .i64 0)), 3, none, true⟩]
theorem cw_attribute_r0_go {K : Env → Heap → Prop} {τ ρ : Env} {h : Heap} : vcOps Try.prog K cw_attribute_r0 τ ρ h = vcOps Try.prog K [
  ⟨some (9, false), .move (.tmp 0), 82, none, true⟩,
  ⟨some (10, false), .nilCheck (.tmp 9), 0, none, true⟩,
  ⟨some (11, false), .fieldAddr 84 (.tmp 10) 1, 0, none, true⟩,
  ⟨some (12, false), .fieldAddr 43 (.tmp 11) 5, 0, none, true⟩,
  ⟨some (13, true), .load 22 (.tmp 12), 22, none, true⟩,
  ⟨some (14, true), .call { callee := .builtin .len, args := #[.tmp 13], argTypes := #[22] }, 3, none, true⟩,
  ⟨some (15, true), .move (.const (.int .i64 0)), 3, none, true⟩] τ ρ h := _root_.id rfl
def cw_attribute_r1 : List Sop := [
  ⟨some (16, true), .binOp .lss 3 (.tmp 15) (.tmp 14) 3, 0, none, true⟩]
theorem cw_attribute_r1_go {K : Env → Heap → Prop} {τ ρ : Env} {h : Heap} : vcOps Try.prog K cw_attribute_r1 τ ρ h = vcOps Try.prog K [
  ⟨some (16, true), .binOp .lss 3 (.tmp 15) (.tmp 14) 3, 0, none, true⟩] τ ρ h := _root_.id rfl
def cw_attribute_r2 : List Sop := [
  ⟨some (17, false), .move (.tmp 15), 3, none, true⟩,
  ⟨some (18, false), .indexAddr 22 (.tmp 13) (.tmp 15), 0, none, true⟩,
  ⟨some (19, false), .load 76 (.tmp 18), 76, none, true⟩,
  ⟨some (7, true), .alloc 76, 0, none, false⟩,
  ⟨some (6, true), .assign (.tmp 17), 3, none, true⟩,
  ⟨none, .store 76 (.tmp 7) (.tmp 19), 0, none, false⟩]
theorem cw_attribute_r2_go {K : Env → Heap → Prop} {τ ρ : Env} {h : Heap} : vcOps Try.prog K cw_attribute_r2 τ ρ h = vcOps Try.prog K [
  ⟨some (17, false), .move (.tmp 15), 3, none, true⟩,
  ⟨some (18, false), .indexAddr 22 (.tmp 13) (.tmp 15), 0, none, true⟩,
  ⟨some (19, false), .load 76 (.tmp 18), 76, none, true⟩,
  ⟨some (7, true), .alloc 76, 0, none, false⟩,
  ⟨some (6, true), .assign (.tmp 17), 3, none, true⟩,
  ⟨none, .store 76 (.tmp 7) (.tmp 19), 0, none, false⟩] τ ρ h := _root_.id rfl
def cw_attribute_r3 : List Sop := [
  ⟨some (20, false), .fieldAddr 76 (.tmp 7) 0, 0, none, true⟩,
  ⟨some (21, false), .load 5 (.tmp 20), 5, none, true⟩,
  ⟨some (22, false), .binOp .eql 5 (.tmp 21) (.const (.int .u8 1)) 5, 4, none, true⟩,
  ⟨some (23, false), .move (.tmp 22), 4, none, true⟩,
  ⟨some (24, false), .fieldAddr 76 (.tmp 7) 1, 0, some (23, true), true⟩,
  ⟨some (25, false), .load 9 (.tmp 24), 9, some (23, true), true⟩,
  ⟨some (26, false), .move (.tmp 1), 9, some (23, true), true⟩,
  ⟨some (27, false), .binOp .eql 9 (.tmp 25) (.tmp 26) 9, 4, some (23, true), true⟩,
  ⟨some (28, true), .pick (.tmp 23) (.tmp 27) (.const (.bool false)), 4, none, true⟩]
theorem cw_attribute_r3_go {K : Env → Heap → Prop} {τ ρ : Env} {h : Heap} : vcOps Try.prog K cw_attribute_r3 τ ρ h = vcOps Try.prog K [
  ⟨some (20, false), .fieldAddr 76 (.tmp 7) 0, 0, none, true⟩,
  ⟨some (21, false), .load 5 (.tmp 20), 5, none, true⟩,
  ⟨some (22, false), .binOp .eql 5 (.tmp 21) (.const (.int .u8 1)) 5, 4, none, true⟩,
  ⟨some (23, false), .move (.tmp 22), 4, none, true⟩,
  ⟨some (24, false), .fieldAddr 76 (.tmp 7) 1, 0, some (23, true), true⟩,
  ⟨some (25, false), .load 9 (.tmp 24), 9, some (23, true), true⟩,
  ⟨some (26, false), .move (.tmp 1), 9, some (23, true), true⟩,
  ⟨some (27, false), .binOp .eql 9 (.tmp 25) (.tmp 26) 9, 4, some (23, true), true⟩,
  ⟨some (28, true), .pick (.tmp 23) (.tmp 27) (.const (.bool false)), 4, none, true⟩] τ ρ h := _root_.id rfl
def cw_attribute_r4 : List Sop := [
  ⟨some (29, false), .move (.tmp 0), 82, none, true⟩,
  ⟨some (30, false), .move (.tmp 6), 3, none, true⟩,
  ⟨some (31, false), .call { callee := .value (.func 37), args := #[.tmp 29, .tmp 30, .const (.int .i64 2)], argTypes := #[82, 3, 3] }, 0, none, false⟩]
theorem cw_attribute_r4_go {K : Env → Heap → Prop} {τ ρ : Env} {h : Heap} : vcOps Try.prog K cw_attribute_r4 τ ρ h = vcOps Try.prog K [
  ⟨some (29, false), .move (.tmp 0), 82, none, true⟩,
  ⟨some (30, false), .move (.tmp 6), 3, none, true⟩,
  ⟨some (31, false), .call { callee := .value (.func 37), args := #[.tmp 29, .tmp 30, .const (.int .i64 2)], argTypes := #[82, 3, 3] }, 0, none, false⟩] τ ρ h := _root_.id rfl
def cw_attribute_r5 : List Sop := [
  ⟨some (32, false), .move (.tmp 0), 82, none, true⟩,
  ⟨some (33, false), .nilCheck (.tmp 32), 0, none, true⟩,
  ⟨some (34, false), .fieldAddr 84 (.tmp 33) 0, 0, none, true⟩,
  ⟨some (35, false), .load 69 (.tmp 34), 69, none, true⟩,
  ⟨some (36, false), .call { callee := .builtin .len, args := #[.tmp 35], argTypes := #[69] }, 3, none, true⟩,
  ⟨some (8, true), .assign (.tmp 36), 3, none, true⟩]
theorem cw_attribute_r5_go {K : Env → Heap → Prop} {τ ρ : Env} {h : Heap} : vcOps Try.prog K cw_attribute_r5 τ ρ h = vcOps Try.prog K [
  ⟨some (32, false), .move (.tmp 0), 82, none, true⟩,
  ⟨some (33, false), .nilCheck (.tmp 32), 0, none, true⟩,
  ⟨some (34, false), .fieldAddr 84 (.tmp 33) 0, 0, none, true⟩,
  ⟨some (35, false), .load 69 (.tmp 34), 69, none, true⟩,
  ⟨some (36, false), .call { callee := .builtin .len, args := #[.tmp 35], argTypes := #[69] }, 3, none, true⟩,
  ⟨some (8, true), .assign (.tmp 36), 3, none, true⟩] τ ρ h := _root_.id rfl
def cw_attribute_r6 : List Sop := [
  ⟨some (37, false), .move (.tmp 0), 82, none, true⟩,
  ⟨some (38, false), .call { callee := .value (.func 37), args := #[.tmp 37, .const (.int .i64 0), .const (.int .i64 4)], argTypes := #[82, 3, 3] }, 0, none, false⟩]
theorem cw_attribute_r6_go {K : Env → Heap → Prop} {τ ρ : Env} {h : Heap} : vcOps Try.prog K cw_attribute_r6 τ ρ h = vcOps Try.prog K [
  ⟨some (37, false), .move (.tmp 0), 82, none, true⟩,
  ⟨some (38, false), .call { callee := .value (.func 37), args := #[.tmp 37, .const (.int .i64 0), .const (.int .i64 4)], argTypes := #[82, 3, 3] }, 0, none, false⟩] τ ρ h := _root_.id rfl
def cw_attribute_r7 : List Sop := [
  ⟨some (39, false), .move (.tmp 2), 1, none, true⟩,
  ⟨some (40, false), .call { callee := .value (.tmp 39), args := #[], argTypes := #[] }, 0, none, false⟩]
theorem cw_attribute_r7_go {K : Env → Heap → Prop} {τ ρ : Env} {h : Heap} : vcOps Try.prog K cw_attribute_r7 τ ρ h = vcOps Try.prog K [
  ⟨some (39, false), .move (.tmp 2), 1, none, true⟩,
  ⟨some (40, false), .call { callee := .value (.tmp 39), args := #[], argTypes := #[] }, 0, none, false⟩] τ ρ h := _root_.id rfl
def cw_attribute_r8 : List (Sop × List Sop) := [
  (⟨some (41, false), .move (.tmp 0), 82, none, true⟩, []),
  (⟨some (42, false), .nilCheck (.tmp 41), 0, none, true⟩, []),
  (⟨some (43, false), .fieldAddr 84 (.tmp 42) 0, 0, none, true⟩, []),
  (⟨some (44, false), .load 69 (.tmp 43), 69, none, true⟩, []),
  (⟨some (45, false), .move (.tmp 8), 3, none, true⟩, []),
  (⟨some (46, false), .slice 69 (.tmp 44) (some (.tmp 45)) none none, 69, none, true⟩, []),
  (⟨some (47, false), .move (.tmp 0), 82, none, true⟩, []),
  (⟨some (48, false), .nilCheck (.tmp 47), 0, none, true⟩, []),
  (⟨some (49, false), .fieldAddr 84 (.tmp 48) 0, 0, none, true⟩, []),
  (⟨some (50, false), .load 69 (.tmp 49), 69, none, true⟩, []),
  (⟨some (51, false), .call { callee := .builtin .len, args := #[.tmp 50], argTypes := #[69] }, 3, none, true⟩, []),
  (⟨some (52, false), .move (.tmp 8), 3, none, true⟩, []),
  (⟨some (53, false), .binOp .sub 3 (.tmp 51) (.tmp 52) 3, 3, none, true⟩, []),
  (⟨some (54, false), .binOp .sub 3 (.tmp 53) (.const (.int .i64 4)) 3, 3, none, true⟩, []),
  (⟨some (55, false), .convert 3 74 (.tmp 54), 74, none, true⟩, []),
  (⟨some (56, false), .call { callee := .value (.func 70), args := #[.tmp 55, .const (.int .i64 4)], argTypes := #[74, 3] }, 9, none, false⟩, [⟨some (42, false), .nilCheck (.tmp 41), 0, none, true⟩, ⟨some (43, false), .fieldAddr 84 (.tmp 42) 0, 0, none, true⟩, ⟨some (44, false), .load 69 (.tmp 43), 69, none, true⟩, ⟨some (46, false), .slice 69 (.tmp 44) (some (.tmp 45)) none none, 69, none, true⟩]),
  (⟨some (57, false), .call { callee := .builtin .copy, args := #[.tmp 46, .tmp 56], argTypes := #[69, 9] }, 3, none, false⟩, [])]
theorem cw_attribute_r8_go {K : Env → Heap → Prop} {τ ρ : Env} {h : Heap} : vcDraw Try.prog K cw_attribute_r8 τ ρ h = vcDraw Try.prog K [
  (⟨some (41, false), .move (.tmp 0), 82, none, true⟩, []),
  (⟨some (42, false), .nilCheck (.tmp 41), 0, none, true⟩, []),
  (⟨some (43, false), .fieldAddr 84 (.tmp 42) 0, 0, none, true⟩, []),
  (⟨some (44, false), .load 69 (.tmp 43), 69, none, true⟩, []),
  (⟨some (45, false), .move (.tmp 8), 3, none, true⟩, []),
  (⟨some (46, false), .slice 69 (.tmp 44) (some (.tmp 45)) none none, 69, none, true⟩, []),
  (⟨some (47, false), .move (.tmp 0), 82, none, true⟩, []),
  (⟨some (48, false), .nilCheck (.tmp 47), 0, none, true⟩, []),
  (⟨some (49, false), .fieldAddr 84 (.tmp 48) 0, 0, none, true⟩, []),
  (⟨some (50, false), .load 69 (.tmp 49), 69, none, true⟩, []),
  (⟨some (51, false), .call { callee := .builtin .len, args := #[.tmp 50], argTypes := #[69] }, 3, none, true⟩, []),
  (⟨some (52, false), .move (.tmp 8), 3, none, true⟩, []),
  (⟨some (53, false), .binOp .sub 3 (.tmp 51) (.tmp 52) 3, 3, none, true⟩, []),
  (⟨some (54, false), .binOp .sub 3 (.tmp 53) (.const (.int .i64 4)) 3, 3, none, true⟩, []),
  (⟨some (55, false), .convert 3 74 (.tmp 54), 74, none, true⟩, []),
  (⟨some (56, false), .call { callee := .value (.func 70), args := #[.tmp 55, .const (.int .i64 4)], argTypes := #[74, 3] }, 9, none, false⟩, [⟨some (42, false), .nilCheck (.tmp 41), 0, none, true⟩, ⟨some (43, false), .fieldAddr 84 (.tmp 42) 0, 0, none, true⟩, ⟨some (44, false), .load 69 (.tmp 43), 69, none, true⟩, ⟨some (46, false), .slice 69 (.tmp 44) (some (.tmp 45)) none none, 69, none, true⟩]),
  (⟨some (57, false), .call { callee := .builtin .copy, args := #[.tmp 46, .tmp 56], argTypes := #[69, 9] }, 3, none, false⟩, [])] τ ρ h := _root_.id rfl
def cw_attribute_r9 : List Sop := [
  ⟨some (58, false), .binOp .add 3 (.tmp 15) (.const (.int .i64 1)) 3, 3, none, true⟩,
  ⟨some (15, true), .move (.tmp 58), 3, none, true⟩]
theorem cw_attribute_r9_go {K : Env → Heap → Prop} {τ ρ : Env} {h : Heap} : vcOps Try.prog K cw_attribute_r9 τ ρ h = vcOps Try.prog K [
  ⟨some (58, false), .binOp .add 3 (.tmp 15) (.const (.int .i64 1)) 3, 3, none, true⟩,
  ⟨some (15, true), .move (.tmp 58), 3, none, true⟩] τ ρ h := _root_.id rfl
def cw_attribute_r10 : List Sop := [
  ⟨some (59, false), .move (.tmp 0), 82, none, true⟩,
  ⟨some (60, false), .call { callee := .value (.func 39), args := #[.tmp 59, .const (.int .i64 8)], argTypes := #[82, 27] }, 0, none, false⟩]
theorem cw_attribute_r10_go {K : Env → Heap → Prop} {τ ρ : Env} {h : Heap} : vcOps Try.prog K cw_attribute_r10 τ ρ h = vcOps Try.prog K [
  ⟨some (59, false), .move (.tmp 0), 82, none, true⟩,
  ⟨some (60, false), .call { callee := .value (.func 39), args := #[.tmp 59, .const (.int .i64 8)], argTypes := #[82, 27] }, 0, none, false⟩] τ ρ h := _root_.id rfl
def cw_attribute_l0 : Cd := .seq (.region cw_attribute_r1) (.seq (.cond (.tmp 16) (.skip) (.exit 0)) (.seq (.block 1 (.seq (.region cw_attribute_r2) (.seq (.region cw_attribute_r3) (.cond (.tmp 28) (.seq (.region cw_attribute_r4) (.seq (.region cw_attribute_r5) (.seq (.region cw_attribute_r6) (.seq (.region cw_attribute_r7) (.seq (.draw cw_attribute_r8) (.ret)))))) (.skip))))) (.region cw_attribute_r9)))
theorem cw_attribute_l0_go {Q : Ex → Env → Heap → Prop} {ρ : Env} {h : Heap} : Cd.vc Try.prog cw_attribute_l0 Q ρ h = Cd.vc Try.prog (.seq (.region cw_attribute_r1) (.seq (.cond (.tmp 16) (.skip) (.exit 0)) (.seq (.block 1 (.seq (.region cw_attribute_r2) (.seq (.region cw_attribute_r3) (.cond (.tmp 28) (.seq (.region cw_attribute_r4) (.seq (.region cw_attribute_r5) (.seq (.region cw_attribute_r6) (.seq (.region cw_attribute_r7) (.seq (.draw cw_attribute_r8) (.ret)))))) (.skip))))) (.region cw_attribute_r9)))) Q ρ h := _root_.id rfl
def cw_attribute : Cd := .seq (.seq (.region cw_attribute_r0) (.block 0 (.loop cw_attribute_l0))) (.region cw_attribute_r10)
theorem cw_attribute_go {Q : Ex → Env → Heap → Prop} {ρ : Env} {h : Heap} : Cd.vc Try.prog cw_attribute Q ρ h = Cd.vc Try.prog (.seq (.seq (.region cw_attribute_r0) (.block 0 (.loop cw_attribute_l0))) (.region cw_attribute_r10)) Q ρ h := _root_.id rfl
theorem cw_attribute_calls {args : List Value} {h : Heap} {R : Value → Heap → Prop} (hl : args.length = 3) (hv : Cd.vc Try.prog cw_attribute (retQ Try.prog [] R) (initEnv args [0, 1, 2, 6, 7, 8, 13, 14, 15, 16, 28]) h) : HCalls Try.prog 41 args.toArray h R :=
  hcalls_of_vc (by kernel_rfl) Try.func41 (cd := cw_attribute) (L := [0, 1, 2, 6, 7, 8, 13, 14, 15, 16, 28]) (by kernel_rfl) (by kernel_rfl) ⟨by rw [hl, Try.ntmps41]; decide, by rw [Try.ntmps41]; decide⟩ hv
def cw_attribute_gos := And.intro @cw_attribute_go (And.intro @cw_attribute_r0_go (And.intro @cw_attribute_r1_go (And.intro @cw_attribute_r2_go (And.intro @cw_attribute_r3_go (And.intro @cw_attribute_r4_go (And.intro @cw_attribute_r5_go (And.intro @cw_attribute_r6_go (And.intro @cw_attribute_r7_go (And.intro @cw_attribute_r8_go (And.intro @cw_attribute_r9_go (And.intro @cw_attribute_r10_go (@cw_attribute_l0_go))))))))))))

/-! (*jvmcore/class.writer).code: function 44: slots [0, 1, 2, 3, 5, 35, 36, 37, 38, 61] -/
def cw_code_r0 : List Sop := [
  ⟨some (2, true), .box 82 (.tmp 0), 0, none, false⟩,
  ⟨some (3, true), .box 79 (.tmp 1), 0, none, false⟩]
theorem cw_code_r0_go {K : Env → Heap → Prop} {τ ρ : Env} {h : Heap} : vcOps Try.prog K cw_code_r0 τ ρ h = vcOps Try.prog K [
  ⟨some (2, true), .box 82 (.tmp 0), 0, none, false⟩,
  ⟨some (3, true), .box 79 (.tmp 1), 0, none, false⟩] τ ρ h := _root_.id rfl
def cw_code_r1 : List Sop := [
  ⟨some (6, false), .load 82 (.tmp 2), 82, none, true⟩,
  ⟨some (7, false), .fieldAddr 79 (.tmp 3) 0, 0, none, true⟩,
  ⟨some (8, false), .load 3 (.tmp 7), 3, none, true⟩,
  ⟨some (9, false), .call { callee := .value (.func 37), args := #[.tmp 6, .tmp 8, .const (.int .i64 2)], argTypes := #[82, 3, 3] }, 0, none, false⟩]
theorem cw_code_r1_go {K : Env → Heap → Prop} {τ ρ : Env} {h : Heap} : vcOps Try.prog K cw_code_r1 τ ρ h = vcOps Try.prog K [
  ⟨some (6, false), .load 82 (.tmp 2), 82, none, true⟩,
  ⟨some (7, false), .fieldAddr 79 (.tmp 3) 0, 0, none, true⟩,
  ⟨some (8, false), .load 3 (.tmp 7), 3, none, true⟩,
  ⟨some (9, false), .call { callee := .value (.func 37), args := #[.tmp 6, .tmp 8, .const (.int .i64 2)], argTypes := #[82, 3, 3] }, 0, none, false⟩] τ ρ h := _root_.id rfl
def cw_code_r2 : List Sop := [
  ⟨some (10, false), .load 82 (.tmp 2), 82, none, true⟩,
  ⟨some (11, false), .fieldAddr 79 (.tmp 3) 1, 0, none, true⟩,
  ⟨some (12, false), .load 3 (.tmp 11), 3, none, true⟩,
  ⟨some (13, false), .call { callee := .value (.func 37), args := #[.tmp 10, .tmp 12, .const (.int .i64 2)], argTypes := #[82, 3, 3] }, 0, none, false⟩]
theorem cw_code_r2_go {K : Env → Heap → Prop} {τ ρ : Env} {h : Heap} : vcOps Try.prog K cw_code_r2 τ ρ h = vcOps Try.prog K [
  ⟨some (10, false), .load 82 (.tmp 2), 82, none, true⟩,
  ⟨some (11, false), .fieldAddr 79 (.tmp 3) 1, 0, none, true⟩,
  ⟨some (12, false), .load 3 (.tmp 11), 3, none, true⟩,
  ⟨some (13, false), .call { callee := .value (.func 37), args := #[.tmp 10, .tmp 12, .const (.int .i64 2)], argTypes := #[82, 3, 3] }, 0, none, false⟩] τ ρ h := _root_.id rfl
def cw_code_r3 : List Sop := [
  ⟨some (14, false), .load 82 (.tmp 2), 82, none, true⟩,
  ⟨some (15, false), .fieldAddr 79 (.tmp 3) 2, 0, none, true⟩,
  ⟨some (16, false), .load 9 (.tmp 15), 9, none, true⟩,
  ⟨some (17, false), .call { callee := .builtin .len, args := #[.tmp 16], argTypes := #[9] }, 3, none, true⟩,
  ⟨some (18, false), .call { callee := .value (.func 37), args := #[.tmp 14, .tmp 17, .const (.int .i64 4)], argTypes := #[82, 3, 3] }, 0, none, false⟩]
theorem cw_code_r3_go {K : Env → Heap → Prop} {τ ρ : Env} {h : Heap} : vcOps Try.prog K cw_code_r3 τ ρ h = vcOps Try.prog K [
  ⟨some (14, false), .load 82 (.tmp 2), 82, none, true⟩,
  ⟨some (15, false), .fieldAddr 79 (.tmp 3) 2, 0, none, true⟩,
  ⟨some (16, false), .load 9 (.tmp 15), 9, none, true⟩,
  ⟨some (17, false), .call { callee := .builtin .len, args := #[.tmp 16], argTypes := #[9] }, 3, none, true⟩,
  ⟨some (18, false), .call { callee := .value (.func 37), args := #[.tmp 14, .tmp 17, .const (.int .i64 4)], argTypes := #[82, 3, 3] }, 0, none, false⟩] τ ρ h := _root_.id rfl
def cw_code_r4 : List (Sop × List Sop) := [
  (⟨some (19, false), .load 82 (.tmp 2), 82, none, true⟩, []),
  (⟨some (20, false), .load 82 (.tmp 2), 82, none, true⟩, []),
  (⟨some (21, false), .nilCheck (.tmp 20), 0, none, true⟩, []),
  (⟨some (22, false), .fieldAddr 84 (.tmp 21) 0, 0, none, true⟩, []),
  (⟨some (23, false), .load 69 (.tmp 22), 69, none, true⟩, []),
  (⟨some (24, false), .fieldAddr 79 (.tmp 3) 2, 0, none, true⟩, []),
  (⟨some (25, false), .load 9 (.tmp 24), 9, none, true⟩, []),
  (⟨some (26, false), .call { callee := .builtin .append, args := #[.tmp 23, .tmp 25], argTypes := #[69, 9] }, 69, none, false⟩, [⟨some (19, false), .load 82 (.tmp 2), 82, none, true⟩]),
  (⟨some (27, false), .nilCheck (.tmp 19), 0, none, true⟩, []),
  (⟨some (28, false), .fieldAddr 84 (.tmp 27) 0, 0, none, true⟩, []),
  (⟨none, .store 69 (.tmp 28) (.tmp 26), 0, none, false⟩, [])]
theorem cw_code_r4_go {K : Env → Heap → Prop} {τ ρ : Env} {h : Heap} : vcDraw Try.prog K cw_code_r4 τ ρ h = vcDraw Try.prog K [
  (⟨some (19, false), .load 82 (.tmp 2), 82, none, true⟩, []),
  (⟨some (20, false), .load 82 (.tmp 2), 82, none, true⟩, []),
  (⟨some (21, false), .nilCheck (.tmp 20), 0, none, true⟩, []),
  (⟨some (22, false), .fieldAddr 84 (.tmp 21) 0, 0, none, true⟩, []),
  (⟨some (23, false), .load 69 (.tmp 22), 69, none, true⟩, []),
  (⟨some (24, false), .fieldAddr 79 (.tmp 3) 2, 0, none, true⟩, []),
  (⟨some (25, false), .load 9 (.tmp 24), 9, none, true⟩, []),
  (⟨some (26, false), .call { callee := .builtin .append, args := #[.tmp 23, .tmp 25], argTypes := #[69, 9] }, 69, none, false⟩, [⟨some (19, false), .load 82 (.tmp 2), 82, none, true⟩]),
  (⟨some (27, false), .nilCheck (.tmp 19), 0, none, true⟩, []),
  (⟨some (28, false), .fieldAddr 84 (.tmp 27) 0, 0, none, true⟩, []),
  (⟨none, .store 69 (.tmp 28) (.tmp 26), 0, none, false⟩, [])] τ ρ h := _root_.id rfl
def cw_code_r5 : List Sop := [
  ⟨some (29, false), .load 82 (.tmp 2), 82, none, true⟩,
  ⟨some (30, false), .fieldAddr 79 (.tmp 3) 3, 0, none, true⟩,
  ⟨some (31, false), .load 77 (.tmp 30), 77, none, true⟩,
  ⟨some (32, false), .call { callee := .builtin .len, args := #[.tmp 31], argTypes := #[77] }, 3, none, true⟩,
  ⟨some (33, false), .call { callee := .value (.func 37), args := #[.tmp 29, .tmp 32, .const (.int .i64 2)], argTypes := #[82, 3, 3] }, 0, none, false⟩]
theorem cw_code_r5_go {K : Env → Heap → Prop} {τ ρ : Env} {h : Heap} : vcOps Try.prog K cw_code_r5 τ ρ h = vcOps Try.prog K [
  ⟨some (29, false), .load 82 (.tmp 2), 82, none, true⟩,
  ⟨some (30, false), .fieldAddr 79 (.tmp 3) 3, 0, none, true⟩,
  ⟨some (31, false), .load 77 (.tmp 30), 77, none, true⟩,
  ⟨some (32, false), .call { callee := .builtin .len, args := #[.tmp 31], argTypes := #[77] }, 3, none, true⟩,
  ⟨some (33, false), .call { callee := .value (.func 37), args := #[.tmp 29, .tmp 32, .const (.int .i64 2)], argTypes := #[82, 3, 3] }, 0, none, false⟩] τ ρ h := _root_.id rfl
def cw_code_r6 : List Sop := [
  ⟨some (34, false), .fieldAddr 79 (.tmp 3) 3, 0, none, true⟩,
  ⟨some (35, true), .load 77 (.tmp 34), 77, none, true⟩,
  ⟨some (36, true), .call { callee := .builtin .len, args := #[.tmp 35], argTypes := #[77] }, 3, none, true⟩,
  ⟨some (37, true), .move (.const (.int .i64 0)), 3, none, true⟩]
theorem cw_code_r6_go {K : Env → Heap → Prop} {τ ρ : Env} {h : Heap} : vcOps Try.prog K cw_code_r6 τ ρ h = vcOps Try.prog K [
  ⟨some (34, false), .fieldAddr 79 (.tmp 3) 3, 0, none, true⟩,
  ⟨some (35, true), .load 77 (.tmp 34), 77, none, true⟩,
  ⟨some (36, true), .call { callee := .builtin .len, args := #[.tmp 35], argTypes := #[77] }, 3, none, true⟩,
  ⟨some (37, true), .move (.const (.int .i64 0)), 3, none, true⟩] τ ρ h := _root_.id rfl
def cw_code_r7 : List Sop := [
  ⟨some (38, true), .binOp .lss 3 (.tmp 37) (.tmp 36) 3, 0, none, true⟩]
theorem cw_code_r7_go {K : Env → Heap → Prop} {τ ρ : Env} {h : Heap} : vcOps Try.prog K cw_code_r7 τ ρ h = vcOps Try.prog K [
  ⟨some (38, true), .binOp .lss 3 (.tmp 37) (.tmp 36) 3, 0, none, true⟩] τ ρ h := _root_.id rfl
def cw_code_r8 : List Sop := [
  ⟨some (39, false), .indexAddr 77 (.tmp 35) (.tmp 37), 0, none, true⟩,
  ⟨some (40, false), .load 132 (.tmp 39), 132, none, true⟩,
  ⟨some (5, true), .alloc 132, 0, none, false⟩,
  ⟨none, .store 132 (.tmp 5) (.tmp 40), 0, none, false⟩]
theorem cw_code_r8_go {K : Env → Heap → Prop} {τ ρ : Env} {h : Heap} : vcOps Try.prog K cw_code_r8 τ ρ h = vcOps Try.prog K [
  ⟨some (39, false), .indexAddr 77 (.tmp 35) (.tmp 37), 0, none, true⟩,
  ⟨some (40, false), .load 132 (.tmp 39), 132, none, true⟩,
  ⟨some (5, true), .alloc 132, 0, none, false⟩,
  ⟨none, .store 132 (.tmp 5) (.tmp 40), 0, none, false⟩] τ ρ h := _root_.id rfl
def cw_code_r9 : List Sop := [
  ⟨some (41, false), .load 82 (.tmp 2), 82, none, true⟩,
  ⟨some (42, false), .fieldAddr 132 (.tmp 5) 0, 0, none, true⟩,
  ⟨some (43, false), .load 3 (.tmp 42), 3, none, true⟩,
  ⟨some (44, false), .call { callee := .value (.func 37), args := #[.tmp 41, .tmp 43, .const (.int .i64 2)], argTypes := #[82, 3, 3] }, 0, none, false⟩]
theorem cw_code_r9_go {K : Env → Heap → Prop} {τ ρ : Env} {h : Heap} : vcOps Try.prog K cw_code_r9 τ ρ h = vcOps Try.prog K [
  ⟨some (41, false), .load 82 (.tmp 2), 82, none, true⟩,
  ⟨some (42, false), .fieldAddr 132 (.tmp 5) 0, 0, none, true⟩,
  ⟨some (43, false), .load 3 (.tmp 42), 3, none, true⟩,
  ⟨some (44, false), .call { callee := .value (.func 37), args := #[.tmp 41, .tmp 43, .const (.int .i64 2)], argTypes := #[82, 3, 3] }, 0, none, false⟩] τ ρ h := _root_.id rfl
def cw_code_r10 : List Sop := [
  ⟨some (45, false), .load 82 (.tmp 2), 82, none, true⟩,
  ⟨some (46, false), .fieldAddr 132 (.tmp 5) 1, 0, none, true⟩,
  ⟨some (47, false), .load 3 (.tmp 46), 3, none, true⟩,
  ⟨some (48, false), .call { callee := .value (.func 37), args := #[.tmp 45, .tmp 47, .const (.int .i64 2)], argTypes := #[82, 3, 3] }, 0, none, false⟩]
theorem cw_code_r10_go {K : Env → Heap → Prop} {τ ρ : Env} {h : Heap} : vcOps Try.prog K cw_code_r10 τ ρ h = vcOps Try.prog K [
  ⟨some (45, false), .load 82 (.tmp 2), 82, none, true⟩,
  ⟨some (46, false), .fieldAddr 132 (.tmp 5) 1, 0, none, true⟩,
  ⟨some (47, false), .load 3 (.tmp 46), 3, none, true⟩,
  ⟨some (48, false), .call { callee := .value (.func 37), args := #[.tmp 45, .tmp 47, .const (.int .i64 2)], argTypes := #[82, 3, 3] }, 0, none, false⟩] τ ρ h := _root_.id rfl
def cw_code_r11 : List Sop := [
  ⟨some (49, false), .load 82 (.tmp 2), 82, none, true⟩,
  ⟨some (50, false), .fieldAddr 132 (.tmp 5) 2, 0, none, true⟩,
  ⟨some (51, false), .load 3 (.tmp 50), 3, none, true⟩,
  ⟨some (52, false), .call { callee := .value (.func 37), args := #[.tmp 49, .tmp 51, .const (.int .i64 2)], argTypes := #[82, 3, 3] }, 0, none, false⟩]
theorem cw_code_r11_go {K : Env → Heap → Prop} {τ ρ : Env} {h : Heap} : vcOps Try.prog K cw_code_r11 τ ρ h = vcOps Try.prog K [
  ⟨some (49, false), .load 82 (.tmp 2), 82, none, true⟩,
  ⟨some (50, false), .fieldAddr 132 (.tmp 5) 2, 0, none, true⟩,
  ⟨some (51, false), .load 3 (.tmp 50), 3, none, true⟩,
  ⟨some (52, false), .call { callee := .value (.func 37), args := #[.tmp 49, .tmp 51, .const (.int .i64 2)], argTypes := #[82, 3, 3] }, 0, none, false⟩] τ ρ h := _root_.id rfl
def cw_code_r12 : List Sop := [
  ⟨some (53, false), .load 82 (.tmp 2), 82, none, true⟩,
  ⟨some (54, false), .fieldAddr 132 (.tmp 5) 3, 0, none, true⟩,
  ⟨some (55, false), .load 38 (.tmp 54), 38, none, true⟩,
  ⟨some (56, false), .buildSlice 39 1 #[(0, .tmp 55)], 39, none, false⟩,
  ⟨some (57, false), .call { callee := .value (.func 38), args := #[.tmp 53, .tmp 56], argTypes := #[82, 39] }, 0, none, false⟩]
theorem cw_code_r12_go {K : Env → Heap → Prop} {τ ρ : Env} {h : Heap} : vcOps Try.prog K cw_code_r12 τ ρ h = vcOps Try.prog K [
  ⟨some (53, false), .load 82 (.tmp 2), 82, none, true⟩,
  ⟨some (54, false), .fieldAddr 132 (.tmp 5) 3, 0, none, true⟩,
  ⟨some (55, false), .load 38 (.tmp 54), 38, none, true⟩,
  ⟨some (56, false), .buildSlice 39 1 #[(0, .tmp 55)], 39, none, false⟩,
  ⟨some (57, false), .call { callee := .value (.func 38), args := #[.tmp 53, .tmp 56], argTypes := #[82, 39] }, 0, none, false⟩] τ ρ h := _root_.id rfl
def cw_code_r13 : List Sop := [
  ⟨some (58, false), .binOp .add 3 (.tmp 37) (.const (.int .i64 1)) 3, 3, none, true⟩,
  ⟨some (37, true), .move (.tmp 58), 3, none, true⟩]
theorem cw_code_r13_go {K : Env → Heap → Prop} {τ ρ : Env} {h : Heap} : vcOps Try.prog K cw_code_r13 τ ρ h = vcOps Try.prog K [
  ⟨some (58, false), .binOp .add 3 (.tmp 37) (.const (.int .i64 1)) 3, 3, none, true⟩,
  ⟨some (37, true), .move (.tmp 58), 3, none, true⟩] τ ρ h := _root_.id rfl
def cw_code_r14 : List Sop := [
  ⟨some (59, false), .fieldAddr 79 (.tmp 3) 4, 0, none, true⟩,
  ⟨some (60, false), .load 9 (.tmp 59), 9, none, true⟩,
  ⟨some (61, true), .binOp .eql 9 (.tmp 60) (.const (.string { data := #[] })) 9, 4, none, true⟩]
theorem cw_code_r14_go {K : Env → Heap → Prop} {τ ρ : Env} {h : Heap} : vcOps Try.prog K cw_code_r14 τ ρ h = vcOps Try.prog K [
  ⟨some (59, false), .fieldAddr 79 (.tmp 3) 4, 0, none, true⟩,
  ⟨some (60, false), .load 9 (.tmp 59), 9, none, true⟩,
  ⟨some (61, true), .binOp .eql 9 (.tmp 60) (.const (.string { data := #[] })) 9, 4, none, true⟩] τ ρ h := _root_.id rfl
def cw_code_r15 : List Sop := [
  ⟨some (62, false), .load 82 (.tmp 2), 82, none, true⟩,
  ⟨some (63, false), .call { callee := .value (.func 37), args := #[.tmp 62, .const (.int .i64 0), .const (.int .i64 2)], argTypes := #[82, 3, 3] }, 0, none, false⟩]
theorem cw_code_r15_go {K : Env → Heap → Prop} {τ ρ : Env} {h : Heap} : vcOps Try.prog K cw_code_r15 τ ρ h = vcOps Try.prog K [
  ⟨some (62, false), .load 82 (.tmp 2), 82, none, true⟩,
  ⟨some (63, false), .call { callee := .value (.func 37), args := #[.tmp 62, .const (.int .i64 0), .const (.int .i64 2)], argTypes := #[82, 3, 3] }, 0, none, false⟩] τ ρ h := _root_.id rfl
def cw_code_r16 : List Sop := [
  ⟨some (64, false), .load 82 (.tmp 2), 82, none, true⟩,
  ⟨some (65, false), .call { callee := .value (.func 37), args := #[.tmp 64, .const (.int .i64 1), .const (.int .i64 2)], argTypes := #[82, 3, 3] }, 0, none, false⟩]
theorem cw_code_r16_go {K : Env → Heap → Prop} {τ ρ : Env} {h : Heap} : vcOps Try.prog K cw_code_r16 τ ρ h = vcOps Try.prog K [
  ⟨some (64, false), .load 82 (.tmp 2), 82, none, true⟩,
  ⟨some (65, false), .call { callee := .value (.func 37), args := #[.tmp 64, .const (.int .i64 1), .const (.int .i64 2)], argTypes := #[82, 3, 3] }, 0, none, false⟩] τ ρ h := _root_.id rfl
def cw_code_r17 : List Sop := [
  ⟨some (66, false), .load 82 (.tmp 2), 82, none, true⟩,
  ⟨some (67, false), .makeFunc (.func 74) #[] #[.tmp 2, .tmp 3], 1, none, true⟩,
  ⟨some (68, false), .call { callee := .value (.func 41), args := #[.tmp 66, .const (.string { data := #[83, 116, 97, 99, 107, 77, 97, 112, 84, 97, 98, 108, 101] }), .tmp 67], argTypes := #[82, 9, 1] }, 0, none, false⟩]
theorem cw_code_r17_go {K : Env → Heap → Prop} {τ ρ : Env} {h : Heap} : vcOps Try.prog K cw_code_r17 τ ρ h = vcOps Try.prog K [
  ⟨some (66, false), .load 82 (.tmp 2), 82, none, true⟩,
  ⟨some (67, false), .makeFunc (.func 74) #[] #[.tmp 2, .tmp 3], 1, none, true⟩,
  ⟨some (68, false), .call { callee := .value (.func 41), args := #[.tmp 66, .const (.string { data := #[83, 116, 97, 99, 107, 77, 97, 112, 84, 97, 98, 108, 101] }), .tmp 67], argTypes := #[82, 9, 1] }, 0, none, false⟩] τ ρ h := _root_.id rfl
def cw_code_l0 : Cd := .seq (.region cw_code_r7) (.seq (.cond (.tmp 38) (.skip) (.exit 0)) (.seq (.block 1 (.seq (.region cw_code_r8) (.seq (.region cw_code_r9) (.seq (.region cw_code_r10) (.seq (.region cw_code_r11) (.region cw_code_r12)))))) (.region cw_code_r13)))
theorem cw_code_l0_go {Q : Ex → Env → Heap → Prop} {ρ : Env} {h : Heap} : Cd.vc Try.prog cw_code_l0 Q ρ h = Cd.vc Try.prog (.seq (.region cw_code_r7) (.seq (.cond (.tmp 38) (.skip) (.exit 0)) (.seq (.block 1 (.seq (.region cw_code_r8) (.seq (.region cw_code_r9) (.seq (.region cw_code_r10) (.seq (.region cw_code_r11) (.region cw_code_r12)))))) (.region cw_code_r13)))) Q ρ h := _root_.id rfl
def cw_code : Cd := .seq (.region cw_code_r0) (.seq (.region cw_code_r1) (.seq (.region cw_code_r2) (.seq (.region cw_code_r3) (.seq (.draw cw_code_r4) (.seq (.region cw_code_r5) (.seq (.seq (.region cw_code_r6) (.block 0 (.loop cw_code_l0))) (.seq (.seq (.region cw_code_r14) (.cond (.tmp 61) (.seq (.region cw_code_r15) (.ret)) (.skip))) (.seq (.region cw_code_r16) (.region cw_code_r17)))))))))
theorem cw_code_go {Q : Ex → Env → Heap → Prop} {ρ : Env} {h : Heap} : Cd.vc Try.prog cw_code Q ρ h = Cd.vc Try.prog (.seq (.region cw_code_r0) (.seq (.region cw_code_r1) (.seq (.region cw_code_r2) (.seq (.region cw_code_r3) (.seq (.draw cw_code_r4) (.seq (.region cw_code_r5) (.seq (.seq (.region cw_code_r6) (.block 0 (.loop cw_code_l0))) (.seq (.seq (.region cw_code_r14) (.cond (.tmp 61) (.seq (.region cw_code_r15) (.ret)) (.skip))) (.seq (.region cw_code_r16) (.region cw_code_r17)))))))))) Q ρ h := _root_.id rfl
theorem cw_code_calls {args : List Value} {h : Heap} {R : Value → Heap → Prop} (hl : args.length = 2) (hv : Cd.vc Try.prog cw_code (retQ Try.prog [] R) (initEnv args [0, 1, 2, 3, 5, 35, 36, 37, 38, 61]) h) : HCalls Try.prog 44 args.toArray h R :=
  hcalls_of_vc (by kernel_rfl) Try.func44 (cd := cw_code) (L := [0, 1, 2, 3, 5, 35, 36, 37, 38, 61]) (by kernel_rfl) (by kernel_rfl) ⟨by rw [hl, Try.ntmps44]; decide, by rw [Try.ntmps44]; decide⟩ hv
def cw_code_gos := And.intro @cw_code_go (And.intro @cw_code_r0_go (And.intro @cw_code_r1_go (And.intro @cw_code_r2_go (And.intro @cw_code_r3_go (And.intro @cw_code_r4_go (And.intro @cw_code_r5_go (And.intro @cw_code_r6_go (And.intro @cw_code_r7_go (And.intro @cw_code_r8_go (And.intro @cw_code_r9_go (And.intro @cw_code_r10_go (And.intro @cw_code_r11_go (And.intro @cw_code_r12_go (And.intro @cw_code_r13_go (And.intro @cw_code_r14_go (And.intro @cw_code_r15_go (And.intro @cw_code_r16_go (And.intro @cw_code_r17_go (@cw_code_l0_go)))))))))))))))))))

/-! (*jvmcore/class.writer).code.1: function 74: slots [0, 1] -/
def cw_code_1_r0 : List (Sop × List Sop) := [
  (⟨some (2, false), .load 82 (.tmp 0), 82, none, true⟩, []),
  (⟨some (3, false), .load 82 (.tmp 0), 82, none, true⟩, []),
  (⟨some (4, false), .nilCheck (.tmp 3), 0, none, true⟩, []),
  (⟨some (5, false), .fieldAddr 84 (.tmp 4) 0, 0, none, true⟩, []),
  (⟨some (6, false), .load 69 (.tmp 5), 69, none, true⟩, []),
  (⟨some (7, false), .fieldAddr 79 (.tmp 1) 4, 0, none, true⟩, []),
  (⟨some (8, false), .load 9 (.tmp 7), 9, none, true⟩, []),
  (⟨some (9, false), .call { callee := .builtin .append, args := #[.tmp 6, .tmp 8], argTypes := #[69, 9] }, 69, none, false⟩, [⟨some (2, false), .load 82 (.tmp 0), 82, none, true⟩]),
  (⟨some (10, false), .nilCheck (.tmp 2), 0, none, true⟩, []),
  (⟨some (11, false), .fieldAddr 84 (.tmp 10) 0, 0, none, true⟩, []),
  (⟨none, .store 69 (.tmp 11) (.tmp 9), 0, none, false⟩, [])]
theorem cw_code_1_r0_go {K : Env → Heap → Prop} {τ ρ : Env} {h : Heap} : vcDraw Try.prog K cw_code_1_r0 τ ρ h = vcDraw Try.prog K [
  (⟨some (2, false), .load 82 (.tmp 0), 82, none, true⟩, []),
  (⟨some (3, false), .load 82 (.tmp 0), 82, none, true⟩, []),
  (⟨some (4, false), .nilCheck (.tmp 3), 0, none, true⟩, []),
  (⟨some (5, false), .fieldAddr 84 (.tmp 4) 0, 0, none, true⟩, []),
  (⟨some (6, false), .load 69 (.tmp 5), 69, none, true⟩, []),
  (⟨some (7, false), .fieldAddr 79 (.tmp 1) 4, 0, none, true⟩, []),
  (⟨some (8, false), .load 9 (.tmp 7), 9, none, true⟩, []),
  (⟨some (9, false), .call { callee := .builtin .append, args := #[.tmp 6, .tmp 8], argTypes := #[69, 9] }, 69, none, false⟩, [⟨some (2, false), .load 82 (.tmp 0), 82, none, true⟩]),
  (⟨some (10, false), .nilCheck (.tmp 2), 0, none, true⟩, []),
  (⟨some (11, false), .fieldAddr 84 (.tmp 10) 0, 0, none, true⟩, []),
  (⟨none, .store 69 (.tmp 11) (.tmp 9), 0, none, false⟩, [])] τ ρ h := _root_.id rfl
def cw_code_1 : Cd := .draw cw_code_1_r0
theorem cw_code_1_go {Q : Ex → Env → Heap → Prop} {ρ : Env} {h : Heap} : Cd.vc Try.prog cw_code_1 Q ρ h = Cd.vc Try.prog (.draw cw_code_1_r0) Q ρ h := _root_.id rfl
theorem cw_code_1_calls {args : List Value} {h : Heap} {R : Value → Heap → Prop} (hl : args.length = 2) (hv : Cd.vc Try.prog cw_code_1 (retQ Try.prog [] R) (initEnv args [0, 1]) h) : HCalls Try.prog 74 args.toArray h R :=
  hcalls_of_vc (by kernel_rfl) Try.func74 (cd := cw_code_1) (L := [0, 1]) (by kernel_rfl) (by kernel_rfl) ⟨by rw [hl, Try.ntmps74]; decide, by rw [Try.ntmps74]; decide⟩ hv
def cw_code_1_gos := And.intro @cw_code_1_go (@cw_code_1_r0_go)

end Go.Proofs.Ytohkbpnblkkdgaa.C
