/- The stripped code of some functions of this seat's program, printed by a program; that it is that code is proved by the kernel. No condition. -/

import Derived.Test.YtnpgmbpialokcaaProg

import Derived.Test.YtnpgmbpialokcaaVcH

set_option maxRecDepth 100000

set_option linter.defProp false

namespace Go.Proofs.Ytnpgmbpialokcaa.C

open Go.Vc

/-! jvmcore/pool.Write: function 13: slots [0, 2, 3, 4, 5, 6, 7, 8, 10, 18, 24, 25, 26, 27, 35, 46, 48, 50, 59, 64, 82, 88, 100, 113, 127, 149] -/
def pool_Write_r0 : List Sop := [
  ⟨some (2, true), .assign (.const (.string { data := #[] })), 9, none, true⟩,
  ⟨some (3, true), .assign (.const (.int .i64 0)), 38, none, true⟩,
  ⟨some (4, true), .assign (.const (.int .i64 0)), 3, none, true⟩]
theorem pool_Write_r0_go {K : Env → Heap → Prop} {τ ρ : Env} {h : Heap} : vcOps Try.prog K pool_Write_r0 τ ρ h = vcOps Try.prog K [
  ⟨some (2, true), .assign (.const (.string { data := #[] })), 9, none, true⟩,
  ⟨some (3, true), .assign (.const (.int .i64 0)), 38, none, true⟩,
  ⟨some (4, true), .assign (.const (.int .i64 0)), 3, none, true⟩] τ ρ h := _root_.id rfl
def pool_Write_r1 : List Sop := [
  ⟨some (11, false), .move (.tmp 0), 34, none, true⟩,
  ⟨some (12, false), .call { callee := .builtin .len, args := #[.tmp 11], argTypes := #[34] }, 3, none, true⟩,
  ⟨some (13, false), .binOp .eql 3 (.tmp 12) (.const (.int .i64 0)) 3, 4, none, true⟩,
  ⟨some (14, false), .move (.tmp 13), 4, none, true⟩,
  ⟨some (15, false), .move (.tmp 0), 34, some (14, false), true⟩,
  ⟨some (16, false), .call { callee := .builtin .len, args := #[.tmp 15], argTypes := #[34] }, 3, some (14, false), true⟩,
  ⟨some (17, false), .binOp .gtr 3 (.tmp 16) (.const (.int .i64 65535)) 3, 4, some (14, false), true⟩,
  ⟨some (18, true), .pick (.tmp 14) (.const (.bool true)) (.tmp 17), 4, none, true⟩]
theorem pool_Write_r1_go {K : Env → Heap → Prop} {τ ρ : Env} {h : Heap} : vcOps Try.prog K pool_Write_r1 τ ρ h = vcOps Try.prog K [
  ⟨some (11, false), .move (.tmp 0), 34, none, true⟩,
  ⟨some (12, false), .call { callee := .builtin .len, args := #[.tmp 11], argTypes := #[34] }, 3, none, true⟩,
  ⟨some (13, false), .binOp .eql 3 (.tmp 12) (.const (.int .i64 0)) 3, 4, none, true⟩,
  ⟨some (14, false), .move (.tmp 13), 4, none, true⟩,
  ⟨some (15, false), .move (.tmp 0), 34, some (14, false), true⟩,
  ⟨some (16, false), .call { callee := .builtin .len, args := #[.tmp 15], argTypes := #[34] }, 3, some (14, false), true⟩,
  ⟨some (17, false), .binOp .gtr 3 (.tmp 16) (.const (.int .i64 65535)) 3, 4, some (14, false), true⟩,
  ⟨some (18, true), .pick (.tmp 14) (.const (.bool true)) (.tmp 17), 4, none, true⟩] τ ρ h := _root_.id rfl
def pool_Write_r2 : List Sop := [
  ⟨some (2, true), .assign (.const (.string { data := #[] })), 9, none, true⟩,
  ⟨some (3, true), .assign (.const (.int .i64 12)), 38, none, true⟩,
  ⟨some (4, true), .assign (.const (.int .i64 0)), 3, none, true⟩]
theorem pool_Write_r2_go {K : Env → Heap → Prop} {τ ρ : Env} {h : Heap} : vcOps Try.prog K pool_Write_r2 τ ρ h = vcOps Try.prog K [
  ⟨some (2, true), .assign (.const (.string { data := #[] })), 9, none, true⟩,
  ⟨some (3, true), .assign (.const (.int .i64 12)), 38, none, true⟩,
  ⟨some (4, true), .assign (.const (.int .i64 0)), 3, none, true⟩] τ ρ h := _root_.id rfl
def pool_Write_r3 : List Sop := [
  ⟨some (19, false), .move (.tmp 0), 34, none, true⟩,
  ⟨some (20, false), .call { callee := .builtin .len, args := #[.tmp 19], argTypes := #[34] }, 3, none, true⟩,
  ⟨some (21, false), .convert 3 35 (.tmp 20), 35, none, true⟩,
  ⟨some (22, false), .call { callee := .value (.func 21), args := #[.tmp 21, .const (.int .i64 2)], argTypes := #[35, 3] }, 9, none, false⟩,
  ⟨some (23, false), .convert 9 49 (.tmp 22), 49, none, false⟩,
  ⟨some (5, true), .assign (.tmp 23), 49, none, true⟩]
theorem pool_Write_r3_go {K : Env → Heap → Prop} {τ ρ : Env} {h : Heap} : vcOps Try.prog K pool_Write_r3 τ ρ h = vcOps Try.prog K [
  ⟨some (19, false), .move (.tmp 0), 34, none, true⟩,
  ⟨some (20, false), .call { callee := .builtin .len, args := #[.tmp 19], argTypes := #[34] }, 3, none, true⟩,
  ⟨some (21, false), .convert 3 35 (.tmp 20), 35, none, true⟩,
  ⟨some (22, false), .call { callee := .value (.func 21), args := #[.tmp 21, .const (.int .i64 2)], argTypes := #[35, 3] }, 9, none, false⟩,
  ⟨some (23, false), .convert 9 49 (.tmp 22), 49, none, false⟩,
  ⟨some (5, true), .assign (.tmp 23), 49, none, true⟩] τ ρ h := _root_.id rfl
def pool_Write_r4 : List Sop := [
  ⟨some (6, true), .assign (.const (.bool true)), 4, none, true⟩]
theorem pool_Write_r4_go {K : Env → Heap → Prop} {τ ρ : Env} {h : Heap} : vcOps Try.prog K pool_Write_r4 τ ρ h = vcOps Try.prog K [
  ⟨some (6, true), .assign (.const (.bool true)), 4, none, true⟩] τ ρ h := _root_.id rfl
def pool_Write_r5 : List Sop := [
  ⟨some (24, true), .move (.tmp 0), 34, none, true⟩,
  ⟨some (25, true), .call { callee := .builtin .len, args := #[.tmp 24], argTypes := #[34] }, 3, none, true⟩,
  ⟨some (26, true), .move (.const (.int .i64 0)), 3, none, true⟩]
theorem pool_Write_r5_go {K : Env → Heap → Prop} {τ ρ : Env} {h : Heap} : vcOps Try.prog K pool_Write_r5 τ ρ h = vcOps Try.prog K [
  ⟨some (24, true), .move (.tmp 0), 34, none, true⟩,
  ⟨some (25, true), .call { callee := .builtin .len, args := #[.tmp 24], argTypes := #[34] }, 3, none, true⟩,
  ⟨some (26, true), .move (.const (.int .i64 0)), 3, none, true⟩] τ ρ h := _root_.id rfl
def pool_Write_r6 : List Sop := [
  ⟨some (27, true), .binOp .lss 3 (.tmp 26) (.tmp 25) 3, 0, none, true⟩]
theorem pool_Write_r6_go {K : Env → Heap → Prop} {τ ρ : Env} {h : Heap} : vcOps Try.prog K pool_Write_r6 τ ρ h = vcOps Try.prog K [
  ⟨some (27, true), .binOp .lss 3 (.tmp 26) (.tmp 25) 3, 0, none, true⟩] τ ρ h := _root_.id rfl
def pool_Write_r7 : List Sop := [
  ⟨some (28, false), .move (.tmp 26), 3, none, true⟩,
  ⟨some (29, false), .indexAddr 34 (.tmp 24) (.tmp 26), 0, none, true⟩,
  ⟨some (30, false), .load 37 (.tmp 29), 37, none, true⟩,
  ⟨some (8, true), .alloc 37, 0, none, false⟩,
  ⟨some (7, true), .assign (.tmp 28), 3, none, true⟩,
  ⟨none, .store 37 (.tmp 8) (.tmp 30), 0, none, false⟩]
theorem pool_Write_r7_go {K : Env → Heap → Prop} {τ ρ : Env} {h : Heap} : vcOps Try.prog K pool_Write_r7 τ ρ h = vcOps Try.prog K [
  ⟨some (28, false), .move (.tmp 26), 3, none, true⟩,
  ⟨some (29, false), .indexAddr 34 (.tmp 24) (.tmp 26), 0, none, true⟩,
  ⟨some (30, false), .load 37 (.tmp 29), 37, none, true⟩,
  ⟨some (8, true), .alloc 37, 0, none, false⟩,
  ⟨some (7, true), .assign (.tmp 28), 3, none, true⟩,
  ⟨none, .store 37 (.tmp 8) (.tmp 30), 0, none, false⟩] τ ρ h := _root_.id rfl
def pool_Write_r8 : List Sop := [
  ⟨some (31, false), .fieldAddr 37 (.tmp 8) 0, 0, none, true⟩,
  ⟨some (32, false), .load 5 (.tmp 31), 5, none, true⟩,
  ⟨some (33, false), .binOp .eql 5 (.tmp 32) (.const (.int .u8 0)) 5, 4, none, true⟩,
  ⟨some (34, false), .move (.tmp 6), 4, none, true⟩,
  ⟨some (35, true), .binOp .neq 4 (.tmp 33) (.tmp 34) 4, 4, none, true⟩]
theorem pool_Write_r8_go {K : Env → Heap → Prop} {τ ρ : Env} {h : Heap} : vcOps Try.prog K pool_Write_r8 τ ρ h = vcOps Try.prog K [
  ⟨some (31, false), .fieldAddr 37 (.tmp 8) 0, 0, none, true⟩,
  ⟨some (32, false), .load 5 (.tmp 31), 5, none, true⟩,
  ⟨some (33, false), .binOp .eql 5 (.tmp 32) (.const (.int .u8 0)) 5, 4, none, true⟩,
  ⟨some (34, false), .move (.tmp 6), 4, none, true⟩,
  ⟨some (35, true), .binOp .neq 4 (.tmp 33) (.tmp 34) 4, 4, none, true⟩] τ ρ h := _root_.id rfl
def pool_Write_r9 : List Sop := [
  ⟨some (36, false), .move (.tmp 7), 3, none, true⟩,
  ⟨some (2, true), .assign (.const (.string { data := #[] })), 9, none, true⟩,
  ⟨some (3, true), .assign (.const (.int .i64 5)), 38, none, true⟩,
  ⟨some (4, true), .assign (.tmp 36), 3, none, true⟩]
theorem pool_Write_r9_go {K : Env → Heap → Prop} {τ ρ : Env} {h : Heap} : vcOps Try.prog K pool_Write_r9 τ ρ h = vcOps Try.prog K [
  ⟨some (36, false), .move (.tmp 7), 3, none, true⟩,
  ⟨some (2, true), .assign (.const (.string { data := #[] })), 9, none, true⟩,
  ⟨some (3, true), .assign (.const (.int .i64 5)), 38, none, true⟩,
  ⟨some (4, true), .assign (.tmp 36), 3, none, true⟩] τ ρ h := _root_.id rfl
def pool_Write_r10 : List Sop := [
  ⟨some (37, false), .fieldAddr 37 (.tmp 8) 0, 0, none, true⟩,
  ⟨some (38, false), .load 5 (.tmp 37), 5, none, true⟩,
  ⟨some (39, false), .binOp .eql 5 (.tmp 38) (.const (.int .u8 5)) 5, 4, none, true⟩,
  ⟨some (40, false), .move (.tmp 39), 4, none, true⟩,
  ⟨some (41, false), .fieldAddr 37 (.tmp 8) 0, 0, some (40, false), true⟩,
  ⟨some (42, false), .load 5 (.tmp 41), 5, some (40, false), true⟩,
  ⟨some (43, false), .binOp .eql 5 (.tmp 42) (.const (.int .u8 6)) 5, 4, some (40, false), true⟩,
  ⟨some (44, false), .pick (.tmp 40) (.const (.bool true)) (.tmp 43), 4, none, true⟩,
  ⟨some (6, true), .assign (.tmp 44), 4, none, true⟩]
theorem pool_Write_r10_go {K : Env → Heap → Prop} {τ ρ : Env} {h : Heap} : vcOps Try.prog K pool_Write_r10 τ ρ h = vcOps Try.prog K [
  ⟨some (37, false), .fieldAddr 37 (.tmp 8) 0, 0, none, true⟩,
  ⟨some (38, false), .load 5 (.tmp 37), 5, none, true⟩,
  ⟨some (39, false), .binOp .eql 5 (.tmp 38) (.const (.int .u8 5)) 5, 4, none, true⟩,
  ⟨some (40, false), .move (.tmp 39), 4, none, true⟩,
  ⟨some (41, false), .fieldAddr 37 (.tmp 8) 0, 0, some (40, false), true⟩,
  ⟨some (42, false), .load 5 (.tmp 41), 5, some (40, false), true⟩,
  ⟨some (43, false), .binOp .eql 5 (.tmp 42) (.const (.int .u8 6)) 5, 4, some (40, false), true⟩,
  ⟨some (44, false), .pick (.tmp 40) (.const (.bool true)) (.tmp 43), 4, none, true⟩,
  ⟨some (6, true), .assign (.tmp 44), 4, none, true⟩] τ ρ h := _root_.id rfl
def pool_Write_r11 : List Sop := [
  ⟨some (45, false), .fieldAddr 37 (.tmp 8) 0, 0, none, true⟩,
  ⟨some (46, true), .load 5 (.tmp 45), 5, none, true⟩]
theorem pool_Write_r11_go {K : Env → Heap → Prop} {τ ρ : Env} {h : Heap} : vcOps Try.prog K pool_Write_r11 τ ρ h = vcOps Try.prog K [
  ⟨some (45, false), .fieldAddr 37 (.tmp 8) 0, 0, none, true⟩,
  ⟨some (46, true), .load 5 (.tmp 45), 5, none, true⟩] τ ρ h := _root_.id rfl
def pool_Write_r12 : List Sop := [
  ⟨some (49, false), .binOp .eql 5 (.tmp 46) (.const (.int .u8 0)) 5, 4, none, true⟩,
  ⟨some (48, true), .assign (.tmp 49), 4, none, true⟩]
theorem pool_Write_r12_go {K : Env → Heap → Prop} {τ ρ : Env} {h : Heap} : vcOps Try.prog K pool_Write_r12 τ ρ h = vcOps Try.prog K [
  ⟨some (49, false), .binOp .eql 5 (.tmp 46) (.const (.int .u8 0)) 5, 4, none, true⟩,
  ⟨some (48, true), .assign (.tmp 49), 4, none, true⟩] τ ρ h := _root_.id rfl
def pool_Write_r13 : List Sop := [
  ⟨some (51, false), .binOp .eql 5 (.tmp 46) (.const (.int .u8 1)) 5, 4, none, true⟩,
  ⟨some (50, true), .assign (.tmp 51), 4, none, true⟩]
theorem pool_Write_r13_go {K : Env → Heap → Prop} {τ ρ : Env} {h : Heap} : vcOps Try.prog K pool_Write_r13 τ ρ h = vcOps Try.prog K [
  ⟨some (51, false), .binOp .eql 5 (.tmp 46) (.const (.int .u8 1)) 5, 4, none, true⟩,
  ⟨some (50, true), .assign (.tmp 51), 4, none, true⟩] τ ρ h := _root_.id rfl
def pool_Write_r14 : List Sop := [
  ⟨some (53, false), .fieldAddr 37 (.tmp 8) 1, 0, none, true⟩,
  ⟨some (54, false), .load 9 (.tmp 53), 9, none, true⟩,
  ⟨some (55, false), .call { callee := .value (.func 9), args := #[.tmp 54], argTypes := #[9] }, 25, none, false⟩,
  ⟨some (52, false), .move (.tmp 55), 25, none, true⟩,
  ⟨some (56, false), .extract (.tmp 52) 0, 24, none, true⟩,
  ⟨some (57, false), .extract (.tmp 52) 1, 4, none, true⟩,
  ⟨some (9, false), .assign (.tmp 56), 24, none, true⟩,
  ⟨some (10, true), .assign (.tmp 57), 4, none, true⟩]
theorem pool_Write_r14_go {K : Env → Heap → Prop} {τ ρ : Env} {h : Heap} : vcOps Try.prog K pool_Write_r14 τ ρ h = vcOps Try.prog K [
  ⟨some (53, false), .fieldAddr 37 (.tmp 8) 1, 0, none, true⟩,
  ⟨some (54, false), .load 9 (.tmp 53), 9, none, true⟩,
  ⟨some (55, false), .call { callee := .value (.func 9), args := #[.tmp 54], argTypes := #[9] }, 25, none, false⟩,
  ⟨some (52, false), .move (.tmp 55), 25, none, true⟩,
  ⟨some (56, false), .extract (.tmp 52) 0, 24, none, true⟩,
  ⟨some (57, false), .extract (.tmp 52) 1, 4, none, true⟩,
  ⟨some (9, false), .assign (.tmp 56), 24, none, true⟩,
  ⟨some (10, true), .assign (.tmp 57), 4, none, true⟩] τ ρ h := _root_.id rfl
def pool_Write_r15 : List Sop := [
  ⟨some (58, false), .move (.tmp 10), 4, none, true⟩,
  ⟨some (59, true), .unOp .not 4 (.tmp 58), 4, none, true⟩]
theorem pool_Write_r15_go {K : Env → Heap → Prop} {τ ρ : Env} {h : Heap} : vcOps Try.prog K pool_Write_r15 τ ρ h = vcOps Try.prog K [
  ⟨some (58, false), .move (.tmp 10), 4, none, true⟩,
  ⟨some (59, true), .unOp .not 4 (.tmp 58), 4, none, true⟩] τ ρ h := _root_.id rfl
def pool_Write_r16 : List Sop := [
  ⟨some (60, false), .move (.tmp 7), 3, none, true⟩,
  ⟨some (2, true), .assign (.const (.string { data := #[] })), 9, none, true⟩,
  ⟨some (3, true), .assign (.const (.int .i64 6)), 38, none, true⟩,
  ⟨some (4, true), .assign (.tmp 60), 3, none, true⟩]
theorem pool_Write_r16_go {K : Env → Heap → Prop} {τ ρ : Env} {h : Heap} : vcOps Try.prog K pool_Write_r16 τ ρ h = vcOps Try.prog K [
  ⟨some (60, false), .move (.tmp 7), 3, none, true⟩,
  ⟨some (2, true), .assign (.const (.string { data := #[] })), 9, none, true⟩,
  ⟨some (3, true), .assign (.const (.int .i64 6)), 38, none, true⟩,
  ⟨some (4, true), .assign (.tmp 60), 3, none, true⟩] τ ρ h := _root_.id rfl
def pool_Write_r17 : List Sop := [
  ⟨some (61, false), .fieldAddr 37 (.tmp 8) 1, 0, none, true⟩,
  ⟨some (62, false), .load 9 (.tmp 61), 9, none, true⟩,
  ⟨some (63, false), .call { callee := .builtin .len, args := #[.tmp 62], argTypes := #[9] }, 3, none, true⟩,
  ⟨some (64, true), .binOp .gtr 3 (.tmp 63) (.const (.int .i64 65535)) 3, 4, none, true⟩]
theorem pool_Write_r17_go {K : Env → Heap → Prop} {τ ρ : Env} {h : Heap} : vcOps Try.prog K pool_Write_r17 τ ρ h = vcOps Try.prog K [
  ⟨some (61, false), .fieldAddr 37 (.tmp 8) 1, 0, none, true⟩,
  ⟨some (62, false), .load 9 (.tmp 61), 9, none, true⟩,
  ⟨some (63, false), .call { callee := .builtin .len, args := #[.tmp 62], argTypes := #[9] }, 3, none, true⟩,
  ⟨some (64, true), .binOp .gtr 3 (.tmp 63) (.const (.int .i64 65535)) 3, 4, none, true⟩] τ ρ h := _root_.id rfl
def pool_Write_r18 : List Sop := [
  ⟨some (65, false), .move (.tmp 7), 3, none, true⟩,
  ⟨some (2, true), .assign (.const (.string { data := #[] })), 9, none, true⟩,
  ⟨some (3, true), .assign (.const (.int .i64 12)), 38, none, true⟩,
  ⟨some (4, true), .assign (.tmp 65), 3, none, true⟩]
theorem pool_Write_r18_go {K : Env → Heap → Prop} {τ ρ : Env} {h : Heap} : vcOps Try.prog K pool_Write_r18 τ ρ h = vcOps Try.prog K [
  ⟨some (65, false), .move (.tmp 7), 3, none, true⟩,
  ⟨some (2, true), .assign (.const (.string { data := #[] })), 9, none, true⟩,
  ⟨some (3, true), .assign (.const (.int .i64 12)), 38, none, true⟩,
  ⟨some (4, true), .assign (.tmp 65), 3, none, true⟩] τ ρ h := _root_.id rfl
def pool_Write_r19 : List Sop := [
  ⟨some (66, false), .move (.tmp 5), 49, none, true⟩,
  ⟨some (67, false), .fieldAddr 37 (.tmp 8) 0, 0, none, true⟩,
  ⟨some (68, false), .load 5 (.tmp 67), 5, none, true⟩,
  ⟨some (69, false), .buildSlice 49 1 #[(0, .tmp 68)], 49, none, false⟩,
  ⟨some (70, false), .call { callee := .builtin .append, args := #[.tmp 66, .tmp 69], argTypes := #[49, 49] }, 49, none, false⟩,
  ⟨some (5, true), .assign (.tmp 70), 49, none, true⟩]
theorem pool_Write_r19_go {K : Env → Heap → Prop} {τ ρ : Env} {h : Heap} : vcOps Try.prog K pool_Write_r19 τ ρ h = vcOps Try.prog K [
  ⟨some (66, false), .move (.tmp 5), 49, none, true⟩,
  ⟨some (67, false), .fieldAddr 37 (.tmp 8) 0, 0, none, true⟩,
  ⟨some (68, false), .load 5 (.tmp 67), 5, none, true⟩,
  ⟨some (69, false), .buildSlice 49 1 #[(0, .tmp 68)], 49, none, false⟩,
  ⟨some (70, false), .call { callee := .builtin .append, args := #[.tmp 66, .tmp 69], argTypes := #[49, 49] }, 49, none, false⟩,
  ⟨some (5, true), .assign (.tmp 70), 49, none, true⟩] τ ρ h := _root_.id rfl
def pool_Write_r20 : List Sop := [
  ⟨some (71, false), .move (.tmp 5), 49, none, true⟩,
  ⟨some (72, false), .fieldAddr 37 (.tmp 8) 1, 0, none, true⟩,
  ⟨some (73, false), .load 9 (.tmp 72), 9, none, true⟩,
  ⟨some (74, false), .call { callee := .builtin .len, args := #[.tmp 73], argTypes := #[9] }, 3, none, true⟩,
  ⟨some (75, false), .convert 3 35 (.tmp 74), 35, none, true⟩,
  ⟨some (76, false), .call { callee := .value (.func 21), args := #[.tmp 75, .const (.int .i64 2)], argTypes := #[35, 3] }, 9, none, false⟩,
  ⟨some (77, false), .call { callee := .builtin .append, args := #[.tmp 71, .tmp 76], argTypes := #[49, 9] }, 49, none, false⟩,
  ⟨some (5, true), .assign (.tmp 77), 49, none, true⟩]
theorem pool_Write_r20_go {K : Env → Heap → Prop} {τ ρ : Env} {h : Heap} : vcOps Try.prog K pool_Write_r20 τ ρ h = vcOps Try.prog K [
  ⟨some (71, false), .move (.tmp 5), 49, none, true⟩,
  ⟨some (72, false), .fieldAddr 37 (.tmp 8) 1, 0, none, true⟩,
  ⟨some (73, false), .load 9 (.tmp 72), 9, none, true⟩,
  ⟨some (74, false), .call { callee := .builtin .len, args := #[.tmp 73], argTypes := #[9] }, 3, none, true⟩,
  ⟨some (75, false), .convert 3 35 (.tmp 74), 35, none, true⟩,
  ⟨some (76, false), .call { callee := .value (.func 21), args := #[.tmp 75, .const (.int .i64 2)], argTypes := #[35, 3] }, 9, none, false⟩,
  ⟨some (77, false), .call { callee := .builtin .append, args := #[.tmp 71, .tmp 76], argTypes := #[49, 9] }, 49, none, false⟩,
  ⟨some (5, true), .assign (.tmp 77), 49, none, true⟩] τ ρ h := _root_.id rfl
def pool_Write_r21 : List Sop := [
  ⟨some (78, false), .move (.tmp 5), 49, none, true⟩,
  ⟨some (79, false), .fieldAddr 37 (.tmp 8) 1, 0, none, true⟩,
  ⟨some (80, false), .load 9 (.tmp 79), 9, none, true⟩,
  ⟨some (81, false), .call { callee := .builtin .append, args := #[.tmp 78, .tmp 80], argTypes := #[49, 9] }, 49, none, false⟩,
  ⟨some (5, true), .assign (.tmp 81), 49, none, true⟩]
theorem pool_Write_r21_go {K : Env → Heap → Prop} {τ ρ : Env} {h : Heap} : vcOps Try.prog K pool_Write_r21 τ ρ h = vcOps Try.prog K [
  ⟨some (78, false), .move (.tmp 5), 49, none, true⟩,
  ⟨some (79, false), .fieldAddr 37 (.tmp 8) 1, 0, none, true⟩,
  ⟨some (80, false), .load 9 (.tmp 79), 9, none, true⟩,
  ⟨some (81, false), .call { callee := .builtin .append, args := #[.tmp 78, .tmp 80], argTypes := #[49, 9] }, 49, none, false⟩,
  ⟨some (5, true), .assign (.tmp 81), 49, none, true⟩] τ ρ h := _root_.id rfl
def pool_Write_r22 : List Sop := [
  ⟨some (83, false), .binOp .eql 5 (.tmp 46) (.const (.int .u8 3)) 5, 4, none, true⟩,
  ⟨some (82, true), .assign (.tmp 83), 4, none, true⟩]
theorem pool_Write_r22_go {K : Env → Heap → Prop} {τ ρ : Env} {h : Heap} : vcOps Try.prog K pool_Write_r22 τ ρ h = vcOps Try.prog K [
  ⟨some (83, false), .binOp .eql 5 (.tmp 46) (.const (.int .u8 3)) 5, 4, none, true⟩,
  ⟨some (82, true), .assign (.tmp 83), 4, none, true⟩] τ ρ h := _root_.id rfl
def pool_Write_r23 : List Sop := [
  ⟨some (84, false), .binOp .eql 5 (.tmp 46) (.const (.int .u8 4)) 5, 4, none, true⟩,
  ⟨some (82, true), .assign (.tmp 84), 4, none, true⟩]
theorem pool_Write_r23_go {K : Env → Heap → Prop} {τ ρ : Env} {h : Heap} : vcOps Try.prog K pool_Write_r23 τ ρ h = vcOps Try.prog K [
  ⟨some (84, false), .binOp .eql 5 (.tmp 46) (.const (.int .u8 4)) 5, 4, none, true⟩,
  ⟨some (82, true), .assign (.tmp 84), 4, none, true⟩] τ ρ h := _root_.id rfl
def pool_Write_r24 : List Sop := [
  ⟨some (85, false), .fieldAddr 37 (.tmp 8) 2, 0, none, true⟩,
  ⟨some (86, false), .load 35 (.tmp 85), 35, none, true⟩,
  ⟨some (87, false), .binOp .shr 35 (.tmp 86) (.const (.int .u64 32)) 47, 35, none, true⟩,
  ⟨some (88, true), .binOp .neq 35 (.tmp 87) (.const (.int .u64 0)) 35, 4, none, true⟩]
theorem pool_Write_r24_go {K : Env → Heap → Prop} {τ ρ : Env} {h : Heap} : vcOps Try.prog K pool_Write_r24 τ ρ h = vcOps Try.prog K [
  ⟨some (85, false), .fieldAddr 37 (.tmp 8) 2, 0, none, true⟩,
  ⟨some (86, false), .load 35 (.tmp 85), 35, none, true⟩,
  ⟨some (87, false), .binOp .shr 35 (.tmp 86) (.const (.int .u64 32)) 47, 35, none, true⟩,
  ⟨some (88, true), .binOp .neq 35 (.tmp 87) (.const (.int .u64 0)) 35, 4, none, true⟩] τ ρ h := _root_.id rfl
def pool_Write_r25 : List Sop := [
  ⟨some (89, false), .move (.tmp 7), 3, none, true⟩,
  ⟨some (2, true), .assign (.const (.string { data := #[] })), 9, none, true⟩,
  ⟨some (3, true), .assign (.const (.int .i64 12)), 38, none, true⟩,
  ⟨some (4, true), .assign (.tmp 89), 3, none, true⟩]
theorem pool_Write_r25_go {K : Env → Heap → Prop} {τ ρ : Env} {h : Heap} : vcOps Try.prog K pool_Write_r25 τ ρ h = vcOps Try.prog K [
  ⟨some (89, false), .move (.tmp 7), 3, none, true⟩,
  ⟨some (2, true), .assign (.const (.string { data := #[] })), 9, none, true⟩,
  ⟨some (3, true), .assign (.const (.int .i64 12)), 38, none, true⟩,
  ⟨some (4, true), .assign (.tmp 89), 3, none, true⟩] τ ρ h := _root_.id rfl
def pool_Write_r26 : List Sop := [
  ⟨some (90, false), .move (.tmp 5), 49, none, true⟩,
  ⟨some (91, false), .fieldAddr 37 (.tmp 8) 0, 0, none, true⟩,
  ⟨some (92, false), .load 5 (.tmp 91), 5, none, true⟩,
  ⟨some (93, false), .buildSlice 49 1 #[(0, .tmp 92)], 49, none, false⟩,
  ⟨some (94, false), .call { callee := .builtin .append, args := #[.tmp 90, .tmp 93], argTypes := #[49, 49] }, 49, none, false⟩,
  ⟨some (5, true), .assign (.tmp 94), 49, none, true⟩]
theorem pool_Write_r26_go {K : Env → Heap → Prop} {τ ρ : Env} {h : Heap} : vcOps Try.prog K pool_Write_r26 τ ρ h = vcOps Try.prog K [
  ⟨some (90, false), .move (.tmp 5), 49, none, true⟩,
  ⟨some (91, false), .fieldAddr 37 (.tmp 8) 0, 0, none, true⟩,
  ⟨some (92, false), .load 5 (.tmp 91), 5, none, true⟩,
  ⟨some (93, false), .buildSlice 49 1 #[(0, .tmp 92)], 49, none, false⟩,
  ⟨some (94, false), .call { callee := .builtin .append, args := #[.tmp 90, .tmp 93], argTypes := #[49, 49] }, 49, none, false⟩,
  ⟨some (5, true), .assign (.tmp 94), 49, none, true⟩] τ ρ h := _root_.id rfl
def pool_Write_r27 : List Sop := [
  ⟨some (95, false), .move (.tmp 5), 49, none, true⟩,
  ⟨some (96, false), .fieldAddr 37 (.tmp 8) 2, 0, none, true⟩,
  ⟨some (97, false), .load 35 (.tmp 96), 35, none, true⟩,
  ⟨some (98, false), .call { callee := .value (.func 21), args := #[.tmp 97, .const (.int .i64 4)], argTypes := #[35, 3] }, 9, none, false⟩,
  ⟨some (99, false), .call { callee := .builtin .append, args := #[.tmp 95, .tmp 98], argTypes := #[49, 9] }, 49, none, false⟩,
  ⟨some (5, true), .assign (.tmp 99), 49, none, true⟩]
theorem pool_Write_r27_go {K : Env → Heap → Prop} {τ ρ : Env} {h : Heap} : vcOps Try.prog K pool_Write_r27 τ ρ h = vcOps Try.prog K [
  ⟨some (95, false), .move (.tmp 5), 49, none, true⟩,
  ⟨some (96, false), .fieldAddr 37 (.tmp 8) 2, 0, none, true⟩,
  ⟨some (97, false), .load 35 (.tmp 96), 35, none, true⟩,
  ⟨some (98, false), .call { callee := .value (.func 21), args := #[.tmp 97, .const (.int .i64 4)], argTypes := #[35, 3] }, 9, none, false⟩,
  ⟨some (99, false), .call { callee := .builtin .append, args := #[.tmp 95, .tmp 98], argTypes := #[49, 9] }, 49, none, false⟩,
  ⟨some (5, true), .assign (.tmp 99), 49, none, true⟩] τ ρ h := _root_.id rfl
def pool_Write_r28 : List Sop := [
  ⟨some (101, false), .binOp .eql 5 (.tmp 46) (.const (.int .u8 5)) 5, 4, none, true⟩,
  ⟨some (100, true), .assign (.tmp 101), 4, none, true⟩]
theorem pool_Write_r28_go {K : Env → Heap → Prop} {τ ρ : Env} {h : Heap} : vcOps Try.prog K pool_Write_r28 τ ρ h = vcOps Try.prog K [
  ⟨some (101, false), .binOp .eql 5 (.tmp 46) (.const (.int .u8 5)) 5, 4, none, true⟩,
  ⟨some (100, true), .assign (.tmp 101), 4, none, true⟩] τ ρ h := _root_.id rfl
def pool_Write_r29 : List Sop := [
  ⟨some (102, false), .binOp .eql 5 (.tmp 46) (.const (.int .u8 6)) 5, 4, none, true⟩,
  ⟨some (100, true), .assign (.tmp 102), 4, none, true⟩]
theorem pool_Write_r29_go {K : Env → Heap → Prop} {τ ρ : Env} {h : Heap} : vcOps Try.prog K pool_Write_r29 τ ρ h = vcOps Try.prog K [
  ⟨some (102, false), .binOp .eql 5 (.tmp 46) (.const (.int .u8 6)) 5, 4, none, true⟩,
  ⟨some (100, true), .assign (.tmp 102), 4, none, true⟩] τ ρ h := _root_.id rfl
def pool_Write_r30 : List Sop := [
  ⟨some (103, false), .move (.tmp 5), 49, none, true⟩,
  ⟨some (104, false), .fieldAddr 37 (.tmp 8) 0, 0, none, true⟩,
  ⟨some (105, false), .load 5 (.tmp 104), 5, none, true⟩,
  ⟨some (106, false), .buildSlice 49 1 #[(0, .tmp 105)], 49, none, false⟩,
  ⟨some (107, false), .call { callee := .builtin .append, args := #[.tmp 103, .tmp 106], argTypes := #[49, 49] }, 49, none, false⟩,
  ⟨some (5, true), .assign (.tmp 107), 49, none, true⟩]
theorem pool_Write_r30_go {K : Env → Heap → Prop} {τ ρ : Env} {h : Heap} : vcOps Try.prog K pool_Write_r30 τ ρ h = vcOps Try.prog K [
  ⟨some (103, false), .move (.tmp 5), 49, none, true⟩,
  ⟨some (104, false), .fieldAddr 37 (.tmp 8) 0, 0, none, true⟩,
  ⟨some (105, false), .load 5 (.tmp 104), 5, none, true⟩,
  ⟨some (106, false), .buildSlice 49 1 #[(0, .tmp 105)], 49, none, false⟩,
  ⟨some (107, false), .call { callee := .builtin .append, args := #[.tmp 103, .tmp 106], argTypes := #[49, 49] }, 49, none, false⟩,
  ⟨some (5, true), .assign (.tmp 107), 49, none, true⟩] τ ρ h := _root_.id rfl
def pool_Write_r31 : List Sop := [
  ⟨some (108, false), .move (.tmp 5), 49, none, true⟩,
  ⟨some (109, false), .fieldAddr 37 (.tmp 8) 2, 0, none, true⟩,
  ⟨some (110, false), .load 35 (.tmp 109), 35, none, true⟩,
  ⟨some (111, false), .call { callee := .value (.func 21), args := #[.tmp 110, .const (.int .i64 8)], argTypes := #[35, 3] }, 9, none, false⟩,
  ⟨some (112, false), .call { callee := .builtin .append, args := #[.tmp 108, .tmp 111], argTypes := #[49, 9] }, 49, none, false⟩,
  ⟨some (5, true), .assign (.tmp 112), 49, none, true⟩]
theorem pool_Write_r31_go {K : Env → Heap → Prop} {τ ρ : Env} {h : Heap} : vcOps Try.prog K pool_Write_r31 τ ρ h = vcOps Try.prog K [
  ⟨some (108, false), .move (.tmp 5), 49, none, true⟩,
  ⟨some (109, false), .fieldAddr 37 (.tmp 8) 2, 0, none, true⟩,
  ⟨some (110, false), .load 35 (.tmp 109), 35, none, true⟩,
  ⟨some (111, false), .call { callee := .value (.func 21), args := #[.tmp 110, .const (.int .i64 8)], argTypes := #[35, 3] }, 9, none, false⟩,
  ⟨some (112, false), .call { callee := .builtin .append, args := #[.tmp 108, .tmp 111], argTypes := #[49, 9] }, 49, none, false⟩,
  ⟨some (5, true), .assign (.tmp 112), 49, none, true⟩] τ ρ h := _root_.id rfl
def pool_Write_r32 : List Sop := [
  ⟨some (114, false), .binOp .eql 5 (.tmp 46) (.const (.int .u8 7)) 5, 4, none, true⟩,
  ⟨some (113, true), .assign (.tmp 114), 4, none, true⟩]
theorem pool_Write_r32_go {K : Env → Heap → Prop} {τ ρ : Env} {h : Heap} : vcOps Try.prog K pool_Write_r32 τ ρ h = vcOps Try.prog K [
  ⟨some (114, false), .binOp .eql 5 (.tmp 46) (.const (.int .u8 7)) 5, 4, none, true⟩,
  ⟨some (113, true), .assign (.tmp 114), 4, none, true⟩] τ ρ h := _root_.id rfl
def pool_Write_r33 : List Sop := [
  ⟨some (115, false), .binOp .eql 5 (.tmp 46) (.const (.int .u8 8)) 5, 4, none, true⟩,
  ⟨some (113, true), .assign (.tmp 115), 4, none, true⟩]
theorem pool_Write_r33_go {K : Env → Heap → Prop} {τ ρ : Env} {h : Heap} : vcOps Try.prog K pool_Write_r33 τ ρ h = vcOps Try.prog K [
  ⟨some (115, false), .binOp .eql 5 (.tmp 46) (.const (.int .u8 8)) 5, 4, none, true⟩,
  ⟨some (113, true), .assign (.tmp 115), 4, none, true⟩] τ ρ h := _root_.id rfl
def pool_Write_r34 : List Sop := [
  ⟨some (116, false), .move (.tmp 5), 49, none, true⟩,
  ⟨some (117, false), .fieldAddr 37 (.tmp 8) 0, 0, none, true⟩,
  ⟨some (118, false), .load 5 (.tmp 117), 5, none, true⟩,
  ⟨some (119, false), .buildSlice 49 1 #[(0, .tmp 118)], 49, none, false⟩,
  ⟨some (120, false), .call { callee := .builtin .append, args := #[.tmp 116, .tmp 119], argTypes := #[49, 49] }, 49, none, false⟩,
  ⟨some (5, true), .assign (.tmp 120), 49, none, true⟩]
theorem pool_Write_r34_go {K : Env → Heap → Prop} {τ ρ : Env} {h : Heap} : vcOps Try.prog K pool_Write_r34 τ ρ h = vcOps Try.prog K [
  ⟨some (116, false), .move (.tmp 5), 49, none, true⟩,
  ⟨some (117, false), .fieldAddr 37 (.tmp 8) 0, 0, none, true⟩,
  ⟨some (118, false), .load 5 (.tmp 117), 5, none, true⟩,
  ⟨some (119, false), .buildSlice 49 1 #[(0, .tmp 118)], 49, none, false⟩,
  ⟨some (120, false), .call { callee := .builtin .append, args := #[.tmp 116, .tmp 119], argTypes := #[49, 49] }, 49, none, false⟩,
  ⟨some (5, true), .assign (.tmp 120), 49, none, true⟩] τ ρ h := _root_.id rfl
def pool_Write_r35 : List Sop := [
  ⟨some (121, false), .move (.tmp 5), 49, none, true⟩,
  ⟨some (122, false), .fieldAddr 37 (.tmp 8) 3, 0, none, true⟩,
  ⟨some (123, false), .load 29 (.tmp 122), 29, none, true⟩,
  ⟨some (124, false), .convert 29 35 (.tmp 123), 35, none, true⟩,
  ⟨some (125, false), .call { callee := .value (.func 21), args := #[.tmp 124, .const (.int .i64 2)], argTypes := #[35, 3] }, 9, none, false⟩,
  ⟨some (126, false), .call { callee := .builtin .append, args := #[.tmp 121, .tmp 125], argTypes := #[49, 9] }, 49, none, false⟩,
  ⟨some (5, true), .assign (.tmp 126), 49, none, true⟩]
theorem pool_Write_r35_go {K : Env → Heap → Prop} {τ ρ : Env} {h : Heap} : vcOps Try.prog K pool_Write_r35 τ ρ h = vcOps Try.prog K [
  ⟨some (121, false), .move (.tmp 5), 49, none, true⟩,
  ⟨some (122, false), .fieldAddr 37 (.tmp 8) 3, 0, none, true⟩,
  ⟨some (123, false), .load 29 (.tmp 122), 29, none, true⟩,
  ⟨some (124, false), .convert 29 35 (.tmp 123), 35, none, true⟩,
  ⟨some (125, false), .call { callee := .value (.func 21), args := #[.tmp 124, .const (.int .i64 2)], argTypes := #[35, 3] }, 9, none, false⟩,
  ⟨some (126, false), .call { callee := .builtin .append, args := #[.tmp 121, .tmp 125], argTypes := #[49, 9] }, 49, none, false⟩,
  ⟨some (5, true), .assign (.tmp 126), 49, none, true⟩] τ ρ h := _root_.id rfl
def pool_Write_r36 : List Sop := [
  ⟨some (128, false), .binOp .eql 5 (.tmp 46) (.const (.int .u8 9)) 5, 4, none, true⟩,
  ⟨some (127, true), .assign (.tmp 128), 4, none, true⟩]
theorem pool_Write_r36_go {K : Env → Heap → Prop} {τ ρ : Env} {h : Heap} : vcOps Try.prog K pool_Write_r36 τ ρ h = vcOps Try.prog K [
  ⟨some (128, false), .binOp .eql 5 (.tmp 46) (.const (.int .u8 9)) 5, 4, none, true⟩,
  ⟨some (127, true), .assign (.tmp 128), 4, none, true⟩] τ ρ h := _root_.id rfl
def pool_Write_r37 : List Sop := [
  ⟨some (129, false), .binOp .eql 5 (.tmp 46) (.const (.int .u8 10)) 5, 4, none, true⟩,
  ⟨some (127, true), .assign (.tmp 129), 4, none, true⟩]
theorem pool_Write_r37_go {K : Env → Heap → Prop} {τ ρ : Env} {h : Heap} : vcOps Try.prog K pool_Write_r37 τ ρ h = vcOps Try.prog K [
  ⟨some (129, false), .binOp .eql 5 (.tmp 46) (.const (.int .u8 10)) 5, 4, none, true⟩,
  ⟨some (127, true), .assign (.tmp 129), 4, none, true⟩] τ ρ h := _root_.id rfl
def pool_Write_r38 : List Sop := [
  ⟨some (130, false), .binOp .eql 5 (.tmp 46) (.const (.int .u8 11)) 5, 4, none, true⟩,
  ⟨some (127, true), .assign (.tmp 130), 4, none, true⟩]
theorem pool_Write_r38_go {K : Env → Heap → Prop} {τ ρ : Env} {h : Heap} : vcOps Try.prog K pool_Write_r38 τ ρ h = vcOps Try.prog K [
  ⟨some (130, false), .binOp .eql 5 (.tmp 46) (.const (.int .u8 11)) 5, 4, none, true⟩,
  ⟨some (127, true), .assign (.tmp 130), 4, none, true⟩] τ ρ h := _root_.id rfl
def pool_Write_r39 : List Sop := [
  ⟨some (131, false), .binOp .eql 5 (.tmp 46) (.const (.int .u8 12)) 5, 4, none, true⟩,
  ⟨some (127, true), .assign (.tmp 131), 4, none, true⟩]
theorem pool_Write_r39_go {K : Env → Heap → Prop} {τ ρ : Env} {h : Heap} : vcOps Try.prog K pool_Write_r39 τ ρ h = vcOps Try.prog K [
  ⟨some (131, false), .binOp .eql 5 (.tmp 46) (.const (.int .u8 12)) 5, 4, none, true⟩,
  ⟨some (127, true), .assign (.tmp 131), 4, none, true⟩] τ ρ h := _root_.id rfl
def pool_Write_r40 : List Sop := [
  ⟨some (132, false), .move (.tmp 5), 49, none, true⟩,
  ⟨some (133, false), .fieldAddr 37 (.tmp 8) 0, 0, none, true⟩,
  ⟨some (134, false), .load 5 (.tmp 133), 5, none, true⟩,
  ⟨some (135, false), .buildSlice 49 1 #[(0, .tmp 134)], 49, none, false⟩,
  ⟨some (136, false), .call { callee := .builtin .append, args := #[.tmp 132, .tmp 135], argTypes := #[49, 49] }, 49, none, false⟩,
  ⟨some (5, true), .assign (.tmp 136), 49, none, true⟩]
theorem pool_Write_r40_go {K : Env → Heap → Prop} {τ ρ : Env} {h : Heap} : vcOps Try.prog K pool_Write_r40 τ ρ h = vcOps Try.prog K [
  ⟨some (132, false), .move (.tmp 5), 49, none, true⟩,
  ⟨some (133, false), .fieldAddr 37 (.tmp 8) 0, 0, none, true⟩,
  ⟨some (134, false), .load 5 (.tmp 133), 5, none, true⟩,
  ⟨some (135, false), .buildSlice 49 1 #[(0, .tmp 134)], 49, none, false⟩,
  ⟨some (136, false), .call { callee := .builtin .append, args := #[.tmp 132, .tmp 135], argTypes := #[49, 49] }, 49, none, false⟩,
  ⟨some (5, true), .assign (.tmp 136), 49, none, true⟩] τ ρ h := _root_.id rfl
def pool_Write_r41 : List Sop := [
  ⟨some (137, false), .move (.tmp 5), 49, none, true⟩,
  ⟨some (138, false), .fieldAddr 37 (.tmp 8) 3, 0, none, true⟩,
  ⟨some (139, false), .load 29 (.tmp 138), 29, none, true⟩,
  ⟨some (140, false), .convert 29 35 (.tmp 139), 35, none, true⟩,
  ⟨some (141, false), .binOp .shl 35 (.tmp 140) (.const (.int .u64 16)) 47, 35, none, true⟩,
  ⟨some (142, false), .fieldAddr 37 (.tmp 8) 4, 0, none, true⟩,
  ⟨some (143, false), .load 29 (.tmp 142), 29, none, true⟩,
  ⟨some (144, false), .convert 29 35 (.tmp 143), 35, none, true⟩,
  ⟨some (145, false), .binOp .or 35 (.tmp 141) (.tmp 144) 35, 35, none, true⟩,
  ⟨some (146, false), .call { callee := .value (.func 21), args := #[.tmp 145, .const (.int .i64 4)], argTypes := #[35, 3] }, 9, none, false⟩,
  ⟨some (147, false), .call { callee := .builtin .append, args := #[.tmp 137, .tmp 146], argTypes := #[49, 9] }, 49, none, false⟩,
  ⟨some (5, true), .assign (.tmp 147), 49, none, true⟩]
theorem pool_Write_r41_go {K : Env → Heap → Prop} {τ ρ : Env} {h : Heap} : vcOps Try.prog K pool_Write_r41 τ ρ h = vcOps Try.prog K [
  ⟨some (137, false), .move (.tmp 5), 49, none, true⟩,
  ⟨some (138, false), .fieldAddr 37 (.tmp 8) 3, 0, none, true⟩,
  ⟨some (139, false), .load 29 (.tmp 138), 29, none, true⟩,
  ⟨some (140, false), .convert 29 35 (.tmp 139), 35, none, true⟩,
  ⟨some (141, false), .binOp .shl 35 (.tmp 140) (.const (.int .u64 16)) 47, 35, none, true⟩,
  ⟨some (142, false), .fieldAddr 37 (.tmp 8) 4, 0, none, true⟩,
  ⟨some (143, false), .load 29 (.tmp 142), 29, none, true⟩,
  ⟨some (144, false), .convert 29 35 (.tmp 143), 35, none, true⟩,
  ⟨some (145, false), .binOp .or 35 (.tmp 141) (.tmp 144) 35, 35, none, true⟩,
  ⟨some (146, false), .call { callee := .value (.func 21), args := #[.tmp 145, .const (.int .i64 4)], argTypes := #[35, 3] }, 9, none, false⟩,
  ⟨some (147, false), .call { callee := .builtin .append, args := #[.tmp 137, .tmp 146], argTypes := #[49, 9] }, 49, none, false⟩,
  ⟨some (5, true), .assign (.tmp 147), 49, none, true⟩] τ ρ h := _root_.id rfl
def pool_Write_r42 : List Sop := [
  ⟨some (47, false), .move (.tmp 7), 3, none, true⟩,
  ⟨some (2, true), .assign (.const (.string { data := #[] })), 9, none, true⟩,
  ⟨some (3, true), .assign (.const (.int .i64 5)), 38, none, true⟩,
  ⟨some (4, true), .assign (.tmp 47), 3, none, true⟩]
theorem pool_Write_r42_go {K : Env → Heap → Prop} {τ ρ : Env} {h : Heap} : vcOps Try.prog K pool_Write_r42 τ ρ h = vcOps Try.prog K [
  ⟨some (47, false), .move (.tmp 7), 3, none, true⟩,
  ⟨some (2, true), .assign (.const (.string { data := #[] })), 9, none, true⟩,
  ⟨some (3, true), .assign (.const (.int .i64 5)), 38, none, true⟩,
  ⟨some (4, true), .assign (.tmp 47), 3, none, true⟩] τ ρ h := _root_.id rfl
def pool_Write_r43 : List Sop := [
  ⟨some (148, false), .binOp .add 3 (.tmp 26) (.const (.int .i64 1)) 3, 3, none, true⟩,
  ⟨some (26, true), .move (.tmp 148), 3, none, true⟩]
theorem pool_Write_r43_go {K : Env → Heap → Prop} {τ ρ : Env} {h : Heap} : vcOps Try.prog K pool_Write_r43 τ ρ h = vcOps Try.prog K [
  ⟨some (148, false), .binOp .add 3 (.tmp 26) (.const (.int .i64 1)) 3, 3, none, true⟩,
  ⟨some (26, true), .move (.tmp 148), 3, none, true⟩] τ ρ h := _root_.id rfl
def pool_Write_r44 : List Sop := [
  ⟨some (149, true), .move (.tmp 6), 4, none, true⟩]
theorem pool_Write_r44_go {K : Env → Heap → Prop} {τ ρ : Env} {h : Heap} : vcOps Try.prog K pool_Write_r44 τ ρ h = vcOps Try.prog K [
  ⟨some (149, true), .move (.tmp 6), 4, none, true⟩] τ ρ h := _root_.id rfl
def pool_Write_r45 : List Sop := [
  ⟨some (150, false), .move (.tmp 0), 34, none, true⟩,
  ⟨some (151, false), .call { callee := .builtin .len, args := #[.tmp 150], argTypes := #[34] }, 3, none, true⟩,
  ⟨some (2, true), .assign (.const (.string { data := #[] })), 9, none, true⟩,
  ⟨some (3, true), .assign (.const (.int .i64 5)), 38, none, true⟩,
  ⟨some (4, true), .assign (.tmp 151), 3, none, true⟩]
theorem pool_Write_r45_go {K : Env → Heap → Prop} {τ ρ : Env} {h : Heap} : vcOps Try.prog K pool_Write_r45 τ ρ h = vcOps Try.prog K [
  ⟨some (150, false), .move (.tmp 0), 34, none, true⟩,
  ⟨some (151, false), .call { callee := .builtin .len, args := #[.tmp 150], argTypes := #[34] }, 3, none, true⟩,
  ⟨some (2, true), .assign (.const (.string { data := #[] })), 9, none, true⟩,
  ⟨some (3, true), .assign (.const (.int .i64 5)), 38, none, true⟩,
  ⟨some (4, true), .assign (.tmp 151), 3, none, true⟩] τ ρ h := _root_.id rfl
def pool_Write_r46 : List Sop := [
  ⟨some (152, false), .move (.tmp 5), 49, none, true⟩,
  ⟨some (153, false), .convert 49 9 (.tmp 152), 9, none, true⟩,
  ⟨some (2, true), .assign (.tmp 153), 9, none, true⟩,
  ⟨some (3, true), .assign (.const (.int .i64 0)), 38, none, true⟩,
  ⟨some (4, true), .assign (.const (.int .i64 0)), 3, none, true⟩]
theorem pool_Write_r46_go {K : Env → Heap → Prop} {τ ρ : Env} {h : Heap} : vcOps Try.prog K pool_Write_r46 τ ρ h = vcOps Try.prog K [
  ⟨some (152, false), .move (.tmp 5), 49, none, true⟩,
  ⟨some (153, false), .convert 49 9 (.tmp 152), 9, none, true⟩,
  ⟨some (2, true), .assign (.tmp 153), 9, none, true⟩,
  ⟨some (3, true), .assign (.const (.int .i64 0)), 38, none, true⟩,
  ⟨some (4, true), .assign (.const (.int .i64 0)), 3, none, true⟩] τ ρ h := _root_.id rfl
def pool_Write_l0 : Cd := .seq (.region pool_Write_r6) (.seq (.cond (.tmp 27) (.skip) (.exit 0)) (.seq (.block 1 (.seq (.region pool_Write_r7) (.seq (.seq (.region pool_Write_r8) (.cond (.tmp 35) (.seq (.region pool_Write_r9) (.ret)) (.skip))) (.seq (.region pool_Write_r10) (.seq (.region pool_Write_r11) (.block 2 (.seq (.region pool_Write_r12) (.cond (.tmp 48) (.exit 1) (.seq (.region pool_Write_r13) (.cond (.tmp 50) (.seq (.seq (.region pool_Write_r14) (.seq (.region pool_Write_r15) (.cond (.tmp 59) (.seq (.region pool_Write_r16) (.ret)) (.skip)))) (.seq (.seq (.region pool_Write_r17) (.cond (.tmp 64) (.seq (.region pool_Write_r18) (.ret)) (.skip))) (.seq (.region pool_Write_r19) (.seq (.region pool_Write_r20) (.region pool_Write_r21))))) (.seq (.seq (.region pool_Write_r22) (.cond (.tmp 82) (.skip) (.region pool_Write_r23))) (.cond (.tmp 82) (.seq (.seq (.region pool_Write_r24) (.cond (.tmp 88) (.seq (.region pool_Write_r25) (.ret)) (.skip))) (.seq (.region pool_Write_r26) (.region pool_Write_r27))) (.seq (.seq (.region pool_Write_r28) (.cond (.tmp 100) (.skip) (.region pool_Write_r29))) (.cond (.tmp 100) (.seq (.region pool_Write_r30) (.region pool_Write_r31)) (.seq (.seq (.region pool_Write_r32) (.cond (.tmp 113) (.skip) (.region pool_Write_r33))) (.cond (.tmp 113) (.seq (.region pool_Write_r34) (.region pool_Write_r35)) (.seq (.seq (.region pool_Write_r36) (.cond (.tmp 127) (.skip) (.seq (.region pool_Write_r37) (.cond (.tmp 127) (.skip) (.seq (.region pool_Write_r38) (.cond (.tmp 127) (.skip) (.region pool_Write_r39))))))) (.cond (.tmp 127) (.seq (.region pool_Write_r40) (.region pool_Write_r41)) (.seq (.region pool_Write_r42) (.ret)))))))))))))))))))) (.region pool_Write_r43)))
theorem pool_Write_l0_go {Q : Ex → Env → Heap → Prop} {ρ : Env} {h : Heap} : Cd.vc Try.prog pool_Write_l0 Q ρ h = Cd.vc Try.prog (.seq (.region pool_Write_r6) (.seq (.cond (.tmp 27) (.skip) (.exit 0)) (.seq (.block 1 (.seq (.region pool_Write_r7) (.seq (.seq (.region pool_Write_r8) (.cond (.tmp 35) (.seq (.region pool_Write_r9) (.ret)) (.skip))) (.seq (.region pool_Write_r10) (.seq (.region pool_Write_r11) (.block 2 (.seq (.region pool_Write_r12) (.cond (.tmp 48) (.exit 1) (.seq (.region pool_Write_r13) (.cond (.tmp 50) (.seq (.seq (.region pool_Write_r14) (.seq (.region pool_Write_r15) (.cond (.tmp 59) (.seq (.region pool_Write_r16) (.ret)) (.skip)))) (.seq (.seq (.region pool_Write_r17) (.cond (.tmp 64) (.seq (.region pool_Write_r18) (.ret)) (.skip))) (.seq (.region pool_Write_r19) (.seq (.region pool_Write_r20) (.region pool_Write_r21))))) (.seq (.seq (.region pool_Write_r22) (.cond (.tmp 82) (.skip) (.region pool_Write_r23))) (.cond (.tmp 82) (.seq (.seq (.region pool_Write_r24) (.cond (.tmp 88) (.seq (.region pool_Write_r25) (.ret)) (.skip))) (.seq (.region pool_Write_r26) (.region pool_Write_r27))) (.seq (.seq (.region pool_Write_r28) (.cond (.tmp 100) (.skip) (.region pool_Write_r29))) (.cond (.tmp 100) (.seq (.region pool_Write_r30) (.region pool_Write_r31)) (.seq (.seq (.region pool_Write_r32) (.cond (.tmp 113) (.skip) (.region pool_Write_r33))) (.cond (.tmp 113) (.seq (.region pool_Write_r34) (.region pool_Write_r35)) (.seq (.seq (.region pool_Write_r36) (.cond (.tmp 127) (.skip) (.seq (.region pool_Write_r37) (.cond (.tmp 127) (.skip) (.seq (.region pool_Write_r38) (.cond (.tmp 127) (.skip) (.region pool_Write_r39))))))) (.cond (.tmp 127) (.seq (.region pool_Write_r40) (.region pool_Write_r41)) (.seq (.region pool_Write_r42) (.ret)))))))))))))))))))) (.region pool_Write_r43)))) Q ρ h := _root_.id rfl
def pool_Write : Cd := .seq (.region pool_Write_r0) (.seq (.seq (.region pool_Write_r1) (.cond (.tmp 18) (.seq (.region pool_Write_r2) (.ret)) (.skip))) (.seq (.region pool_Write_r3) (.seq (.region pool_Write_r4) (.seq (.seq (.region pool_Write_r5) (.block 0 (.loop pool_Write_l0))) (.seq (.seq (.region pool_Write_r44) (.cond (.tmp 149) (.seq (.region pool_Write_r45) (.ret)) (.skip))) (.seq (.region pool_Write_r46) (.ret)))))))
theorem pool_Write_go {Q : Ex → Env → Heap → Prop} {ρ : Env} {h : Heap} : Cd.vc Try.prog pool_Write Q ρ h = Cd.vc Try.prog (.seq (.region pool_Write_r0) (.seq (.seq (.region pool_Write_r1) (.cond (.tmp 18) (.seq (.region pool_Write_r2) (.ret)) (.skip))) (.seq (.region pool_Write_r3) (.seq (.region pool_Write_r4) (.seq (.seq (.region pool_Write_r5) (.block 0 (.loop pool_Write_l0))) (.seq (.seq (.region pool_Write_r44) (.cond (.tmp 149) (.seq (.region pool_Write_r45) (.ret)) (.skip))) (.seq (.region pool_Write_r46) (.ret)))))))) Q ρ h := _root_.id rfl
theorem pool_Write_calls {args : List Value} {h : Heap} {R : Value → Heap → Prop} (hl : args.length = 1) (hv : Cd.vc Try.prog pool_Write (retQ Try.prog [(2, none), (3, none), (4, none)] R) (initEnv args [0, 2, 3, 4, 5, 6, 7, 8, 10, 18, 24, 25, 26, 27, 35, 46, 48, 50, 59, 64, 82, 88, 100, 113, 127, 149]) h) : HCalls Try.prog 13 args.toArray h R :=
  hcalls_of_vc (by kernel_rfl) Try.func13 (cd := pool_Write) (L := [0, 2, 3, 4, 5, 6, 7, 8, 10, 18, 24, 25, 26, 27, 35, 46, 48, 50, 59, 64, 82, 88, 100, 113, 127, 149]) (by kernel_rfl) (by kernel_rfl) ⟨by rw [hl, Try.ntmps13]; decide, by rw [Try.ntmps13]; decide⟩ hv
def pool_Write_gos := And.intro @pool_Write_go (And.intro @pool_Write_r0_go (And.intro @pool_Write_r1_go (And.intro @pool_Write_r2_go (And.intro @pool_Write_r3_go (And.intro @pool_Write_r4_go (And.intro @pool_Write_r5_go (And.intro @pool_Write_r6_go (And.intro @pool_Write_r7_go (And.intro @pool_Write_r8_go (And.intro @pool_Write_r9_go (And.intro @pool_Write_r10_go (And.intro @pool_Write_r11_go (And.intro @pool_Write_r12_go (And.intro @pool_Write_r13_go (And.intro @pool_Write_r14_go (And.intro @pool_Write_r15_go (And.intro @pool_Write_r16_go (And.intro @pool_Write_r17_go (And.intro @pool_Write_r18_go (And.intro @pool_Write_r19_go (And.intro @pool_Write_r20_go (And.intro @pool_Write_r21_go (And.intro @pool_Write_r22_go (And.intro @pool_Write_r23_go (And.intro @pool_Write_r24_go (And.intro @pool_Write_r25_go (And.intro @pool_Write_r26_go (And.intro @pool_Write_r27_go (And.intro @pool_Write_r28_go (And.intro @pool_Write_r29_go (And.intro @pool_Write_r30_go (And.intro @pool_Write_r31_go (And.intro @pool_Write_r32_go (And.intro @pool_Write_r33_go (And.intro @pool_Write_r34_go (And.intro @pool_Write_r35_go (And.intro @pool_Write_r36_go (And.intro @pool_Write_r37_go (And.intro @pool_Write_r38_go (And.intro @pool_Write_r39_go (And.intro @pool_Write_r40_go (And.intro @pool_Write_r41_go (And.intro @pool_Write_r42_go (And.intro @pool_Write_r43_go (And.intro @pool_Write_r44_go (And.intro @pool_Write_r45_go (And.intro @pool_Write_r46_go (@pool_Write_l0_go))))))))))))))))))))))))))))))))))))))))))))))))

/-! jvmcore/jvmcoreref1.Write: function 14: slots [0, 2, 3, 4, 5, 6, 7, 8, 9, 10, 12, 13, 21, 26, 27, 28, 29, 62, 74, 77, 83, 90, 99, 104, 114, 119, 124, 151] -/
def ref1_Write_r0 : List Sop := [
  ⟨some (2, true), .assign (.const (.string { data := #[] })), 9, none, true⟩,
  ⟨some (3, true), .assign (.const (.int .i64 0)), 38, none, true⟩,
  ⟨some (4, true), .assign (.const (.int .i64 0)), 3, none, true⟩]
theorem ref1_Write_r0_go {K : Env → Heap → Prop} {τ ρ : Env} {h : Heap} : vcOps Try.prog K ref1_Write_r0 τ ρ h = vcOps Try.prog K [
  ⟨some (2, true), .assign (.const (.string { data := #[] })), 9, none, true⟩,
  ⟨some (3, true), .assign (.const (.int .i64 0)), 38, none, true⟩,
  ⟨some (4, true), .assign (.const (.int .i64 0)), 3, none, true⟩] τ ρ h := _root_.id rfl
def ref1_Write_r1 : List Sop := [
  ⟨some (14, false), .move (.tmp 0), 34, none, true⟩,
  ⟨some (15, false), .call { callee := .builtin .len, args := #[.tmp 14], argTypes := #[34] }, 3, none, true⟩,
  ⟨some (16, false), .binOp .lss 3 (.tmp 15) (.const (.int .i64 1)) 3, 4, none, true⟩,
  ⟨some (17, false), .move (.tmp 16), 4, none, true⟩,
  ⟨some (18, false), .move (.tmp 0), 34, some (17, false), true⟩,
  ⟨some (19, false), .call { callee := .builtin .len, args := #[.tmp 18], argTypes := #[34] }, 3, some (17, false), true⟩,
  ⟨some (20, false), .binOp .gtr 3 (.tmp 19) (.const (.int .i64 65535)) 3, 4, some (17, false), true⟩,
  ⟨some (21, true), .pick (.tmp 17) (.const (.bool true)) (.tmp 20), 4, none, true⟩]
theorem ref1_Write_r1_go {K : Env → Heap → Prop} {τ ρ : Env} {h : Heap} : vcOps Try.prog K ref1_Write_r1 τ ρ h = vcOps Try.prog K [
  ⟨some (14, false), .move (.tmp 0), 34, none, true⟩,
  ⟨some (15, false), .call { callee := .builtin .len, args := #[.tmp 14], argTypes := #[34] }, 3, none, true⟩,
  ⟨some (16, false), .binOp .lss 3 (.tmp 15) (.const (.int .i64 1)) 3, 4, none, true⟩,
  ⟨some (17, false), .move (.tmp 16), 4, none, true⟩,
  ⟨some (18, false), .move (.tmp 0), 34, some (17, false), true⟩,
  ⟨some (19, false), .call { callee := .builtin .len, args := #[.tmp 18], argTypes := #[34] }, 3, some (17, false), true⟩,
  ⟨some (20, false), .binOp .gtr 3 (.tmp 19) (.const (.int .i64 65535)) 3, 4, some (17, false), true⟩,
  ⟨some (21, true), .pick (.tmp 17) (.const (.bool true)) (.tmp 20), 4, none, true⟩] τ ρ h := _root_.id rfl
def ref1_Write_r2 : List Sop := [
  ⟨some (2, true), .assign (.const (.string { data := #[] })), 9, none, true⟩,
  ⟨some (3, true), .assign (.const (.int .i64 12)), 38, none, true⟩,
  ⟨some (4, true), .assign (.const (.int .i64 0)), 3, none, true⟩]
theorem ref1_Write_r2_go {K : Env → Heap → Prop} {τ ρ : Env} {h : Heap} : vcOps Try.prog K ref1_Write_r2 τ ρ h = vcOps Try.prog K [
  ⟨some (2, true), .assign (.const (.string { data := #[] })), 9, none, true⟩,
  ⟨some (3, true), .assign (.const (.int .i64 12)), 38, none, true⟩,
  ⟨some (4, true), .assign (.const (.int .i64 0)), 3, none, true⟩] τ ρ h := _root_.id rfl
def ref1_Write_r3 : List Sop := [
  ⟨some (22, false), .move (.tmp 0), 34, none, true⟩,
  ⟨some (23, false), .call { callee := .builtin .len, args := #[.tmp 22], argTypes := #[34] }, 3, none, true⟩,
  ⟨some (24, false), .convert 3 35 (.tmp 23), 35, none, true⟩,
  ⟨some (25, false), .call { callee := .value (.func 22), args := #[.tmp 24, .const (.int .i64 2)], argTypes := #[35, 3] }, 9, none, false⟩,
  ⟨some (5, true), .assign (.tmp 25), 9, none, true⟩]
theorem ref1_Write_r3_go {K : Env → Heap → Prop} {τ ρ : Env} {h : Heap} : vcOps Try.prog K ref1_Write_r3 τ ρ h = vcOps Try.prog K [
  ⟨some (22, false), .move (.tmp 0), 34, none, true⟩,
  ⟨some (23, false), .call { callee := .builtin .len, args := #[.tmp 22], argTypes := #[34] }, 3, none, true⟩,
  ⟨some (24, false), .convert 3 35 (.tmp 23), 35, none, true⟩,
  ⟨some (25, false), .call { callee := .value (.func 22), args := #[.tmp 24, .const (.int .i64 2)], argTypes := #[35, 3] }, 9, none, false⟩,
  ⟨some (5, true), .assign (.tmp 25), 9, none, true⟩] τ ρ h := _root_.id rfl
def ref1_Write_r4 : List Sop := [
  ⟨some (26, true), .move (.tmp 0), 34, none, true⟩,
  ⟨some (27, true), .call { callee := .builtin .len, args := #[.tmp 26], argTypes := #[34] }, 3, none, true⟩,
  ⟨some (28, true), .move (.const (.int .i64 0)), 3, none, true⟩]
theorem ref1_Write_r4_go {K : Env → Heap → Prop} {τ ρ : Env} {h : Heap} : vcOps Try.prog K ref1_Write_r4 τ ρ h = vcOps Try.prog K [
  ⟨some (26, true), .move (.tmp 0), 34, none, true⟩,
  ⟨some (27, true), .call { callee := .builtin .len, args := #[.tmp 26], argTypes := #[34] }, 3, none, true⟩,
  ⟨some (28, true), .move (.const (.int .i64 0)), 3, none, true⟩] τ ρ h := _root_.id rfl
def ref1_Write_r5 : List Sop := [
  ⟨some (29, true), .binOp .lss 3 (.tmp 28) (.tmp 27) 3, 0, none, true⟩]
theorem ref1_Write_r5_go {K : Env → Heap → Prop} {τ ρ : Env} {h : Heap} : vcOps Try.prog K ref1_Write_r5 τ ρ h = vcOps Try.prog K [
  ⟨some (29, true), .binOp .lss 3 (.tmp 28) (.tmp 27) 3, 0, none, true⟩] τ ρ h := _root_.id rfl
def ref1_Write_r6 : List Sop := [
  ⟨some (30, false), .move (.tmp 28), 3, none, true⟩,
  ⟨some (31, false), .indexAddr 34 (.tmp 26) (.tmp 28), 0, none, true⟩,
  ⟨some (32, false), .load 37 (.tmp 31), 37, none, true⟩,
  ⟨some (7, true), .alloc 37, 0, none, false⟩,
  ⟨some (6, true), .assign (.tmp 30), 3, none, true⟩,
  ⟨none, .store 37 (.tmp 7) (.tmp 32), 0, none, false⟩]
theorem ref1_Write_r6_go {K : Env → Heap → Prop} {τ ρ : Env} {h : Heap} : vcOps Try.prog K ref1_Write_r6 τ ρ h = vcOps Try.prog K [
  ⟨some (30, false), .move (.tmp 28), 3, none, true⟩,
  ⟨some (31, false), .indexAddr 34 (.tmp 26) (.tmp 28), 0, none, true⟩,
  ⟨some (32, false), .load 37 (.tmp 31), 37, none, true⟩,
  ⟨some (7, true), .alloc 37, 0, none, false⟩,
  ⟨some (6, true), .assign (.tmp 30), 3, none, true⟩,
  ⟨none, .store 37 (.tmp 7) (.tmp 32), 0, none, false⟩] τ ρ h := _root_.id rfl
def ref1_Write_r7 : List Sop := [
  ⟨some (33, false), .move (.tmp 6), 3, none, true⟩,
  ⟨some (34, false), .binOp .gtr 3 (.tmp 33) (.const (.int .i64 0)) 3, 4, none, true⟩,
  ⟨some (35, false), .move (.tmp 34), 4, none, true⟩,
  ⟨some (36, false), .move (.tmp 0), 34, some (35, true), true⟩,
  ⟨some (37, false), .move (.tmp 6), 3, some (35, true), true⟩,
  ⟨some (38, false), .binOp .sub 3 (.tmp 37) (.const (.int .i64 1)) 3, 3, some (35, true), true⟩,
  ⟨some (39, false), .indexAddr 34 (.tmp 36) (.tmp 38), 0, some (35, true), true⟩,
  ⟨some (40, false), .fieldAddr 37 (.tmp 39) 0, 0, some (35, true), true⟩,
  ⟨some (41, false), .load 5 (.tmp 40), 5, some (35, true), true⟩,
  ⟨some (42, false), .binOp .eql 5 (.tmp 41) (.const (.int .u8 5)) 5, 4, some (35, true), true⟩,
  ⟨some (43, false), .move (.tmp 42), 4, some (35, true), true⟩,
  ⟨some (44, false), .move (.tmp 0), 34, some (43, false), true⟩,
  ⟨some (45, false), .move (.tmp 6), 3, some (43, false), true⟩,
  ⟨some (46, false), .binOp .sub 3 (.tmp 45) (.const (.int .i64 1)) 3, 3, some (43, false), true⟩,
  ⟨some (47, false), .indexAddr 34 (.tmp 44) (.tmp 46), 0, some (43, false), true⟩,
  ⟨some (48, false), .fieldAddr 37 (.tmp 47) 0, 0, some (43, false), true⟩,
  ⟨some (49, false), .load 5 (.tmp 48), 5, some (43, false), true⟩,
  ⟨some (50, false), .binOp .eql 5 (.tmp 49) (.const (.int .u8 6)) 5, 4, some (43, false), true⟩,
  ⟨some (51, false), .pick (.tmp 43) (.const (.bool true)) (.tmp 50), 4, some (35, true), true⟩,
  ⟨some (52, false), .pick (.tmp 35) (.tmp 51) (.const (.bool false)), 4, none, true⟩,
  ⟨some (8, true), .assign (.tmp 52), 4, none, true⟩]
theorem ref1_Write_r7_go {K : Env → Heap → Prop} {τ ρ : Env} {h : Heap} : vcOps Try.prog K ref1_Write_r7 τ ρ h = vcOps Try.prog K [
  ⟨some (33, false), .move (.tmp 6), 3, none, true⟩,
  ⟨some (34, false), .binOp .gtr 3 (.tmp 33) (.const (.int .i64 0)) 3, 4, none, true⟩,
  ⟨some (35, false), .move (.tmp 34), 4, none, true⟩,
  ⟨some (36, false), .move (.tmp 0), 34, some (35, true), true⟩,
  ⟨some (37, false), .move (.tmp 6), 3, some (35, true), true⟩,
  ⟨some (38, false), .binOp .sub 3 (.tmp 37) (.const (.int .i64 1)) 3, 3, some (35, true), true⟩,
  ⟨some (39, false), .indexAddr 34 (.tmp 36) (.tmp 38), 0, some (35, true), true⟩,
  ⟨some (40, false), .fieldAddr 37 (.tmp 39) 0, 0, some (35, true), true⟩,
  ⟨some (41, false), .load 5 (.tmp 40), 5, some (35, true), true⟩,
  ⟨some (42, false), .binOp .eql 5 (.tmp 41) (.const (.int .u8 5)) 5, 4, some (35, true), true⟩,
  ⟨some (43, false), .move (.tmp 42), 4, some (35, true), true⟩,
  ⟨some (44, false), .move (.tmp 0), 34, some (43, false), true⟩,
  ⟨some (45, false), .move (.tmp 6), 3, some (43, false), true⟩,
  ⟨some (46, false), .binOp .sub 3 (.tmp 45) (.const (.int .i64 1)) 3, 3, some (43, false), true⟩,
  ⟨some (47, false), .indexAddr 34 (.tmp 44) (.tmp 46), 0, some (43, false), true⟩,
  ⟨some (48, false), .fieldAddr 37 (.tmp 47) 0, 0, some (43, false), true⟩,
  ⟨some (49, false), .load 5 (.tmp 48), 5, some (43, false), true⟩,
  ⟨some (50, false), .binOp .eql 5 (.tmp 49) (.const (.int .u8 6)) 5, 4, some (43, false), true⟩,
  ⟨some (51, false), .pick (.tmp 43) (.const (.bool true)) (.tmp 50), 4, some (35, true), true⟩,
  ⟨some (52, false), .pick (.tmp 35) (.tmp 51) (.const (.bool false)), 4, none, true⟩,
  ⟨some (8, true), .assign (.tmp 52), 4, none, true⟩] τ ρ h := _root_.id rfl
def ref1_Write_r8 : List Sop := [
  ⟨some (53, false), .fieldAddr 37 (.tmp 7) 0, 0, none, true⟩,
  ⟨some (54, false), .load 5 (.tmp 53), 5, none, true⟩,
  ⟨some (55, false), .binOp .eql 5 (.tmp 54) (.const (.int .u8 0)) 5, 4, none, true⟩,
  ⟨some (56, false), .move (.tmp 55), 4, none, true⟩,
  ⟨some (57, false), .move (.tmp 6), 3, some (56, true), true⟩,
  ⟨some (58, false), .binOp .eql 3 (.tmp 57) (.const (.int .i64 0)) 3, 4, some (56, true), true⟩,
  ⟨some (59, false), .move (.tmp 58), 4, some (56, true), true⟩,
  ⟨some (60, false), .move (.tmp 8), 4, some (59, false), true⟩,
  ⟨some (61, false), .pick (.tmp 59) (.const (.bool true)) (.tmp 60), 4, some (56, true), true⟩,
  ⟨some (62, true), .pick (.tmp 56) (.tmp 61) (.const (.bool false)), 4, none, true⟩]
theorem ref1_Write_r8_go {K : Env → Heap → Prop} {τ ρ : Env} {h : Heap} : vcOps Try.prog K ref1_Write_r8 τ ρ h = vcOps Try.prog K [
  ⟨some (53, false), .fieldAddr 37 (.tmp 7) 0, 0, none, true⟩,
  ⟨some (54, false), .load 5 (.tmp 53), 5, none, true⟩,
  ⟨some (55, false), .binOp .eql 5 (.tmp 54) (.const (.int .u8 0)) 5, 4, none, true⟩,
  ⟨some (56, false), .move (.tmp 55), 4, none, true⟩,
  ⟨some (57, false), .move (.tmp 6), 3, some (56, true), true⟩,
  ⟨some (58, false), .binOp .eql 3 (.tmp 57) (.const (.int .i64 0)) 3, 4, some (56, true), true⟩,
  ⟨some (59, false), .move (.tmp 58), 4, some (56, true), true⟩,
  ⟨some (60, false), .move (.tmp 8), 4, some (59, false), true⟩,
  ⟨some (61, false), .pick (.tmp 59) (.const (.bool true)) (.tmp 60), 4, some (56, true), true⟩,
  ⟨some (62, true), .pick (.tmp 56) (.tmp 61) (.const (.bool false)), 4, none, true⟩] τ ρ h := _root_.id rfl
def ref1_Write_r9 : List Sop := [
  ⟨some (63, false), .fieldAddr 37 (.tmp 7) 0, 0, none, true⟩,
  ⟨some (64, false), .load 5 (.tmp 63), 5, none, true⟩,
  ⟨some (65, false), .call { callee := .value (.func 23), args := #[.tmp 64], argTypes := #[5] }, 3, none, false⟩,
  ⟨some (9, true), .assign (.tmp 65), 3, none, true⟩]
theorem ref1_Write_r9_go {K : Env → Heap → Prop} {τ ρ : Env} {h : Heap} : vcOps Try.prog K ref1_Write_r9 τ ρ h = vcOps Try.prog K [
  ⟨some (63, false), .fieldAddr 37 (.tmp 7) 0, 0, none, true⟩,
  ⟨some (64, false), .load 5 (.tmp 63), 5, none, true⟩,
  ⟨some (65, false), .call { callee := .value (.func 23), args := #[.tmp 64], argTypes := #[5] }, 3, none, false⟩,
  ⟨some (9, true), .assign (.tmp 65), 3, none, true⟩] τ ρ h := _root_.id rfl
def ref1_Write_r10 : List Sop := [
  ⟨some (66, false), .move (.tmp 6), 3, none, true⟩,
  ⟨some (67, false), .binOp .eql 3 (.tmp 66) (.const (.int .i64 0)) 3, 4, none, true⟩,
  ⟨some (68, false), .move (.tmp 67), 4, none, true⟩,
  ⟨some (69, false), .move (.tmp 8), 4, some (68, false), true⟩,
  ⟨some (70, false), .pick (.tmp 68) (.const (.bool true)) (.tmp 69), 4, none, true⟩,
  ⟨some (71, false), .move (.tmp 70), 4, none, true⟩,
  ⟨some (72, false), .move (.tmp 9), 3, some (71, false), true⟩,
  ⟨some (73, false), .binOp .lss 3 (.tmp 72) (.const (.int .i64 0)) 3, 4, some (71, false), true⟩,
  ⟨some (74, true), .pick (.tmp 71) (.const (.bool true)) (.tmp 73), 4, none, true⟩]
theorem ref1_Write_r10_go {K : Env → Heap → Prop} {τ ρ : Env} {h : Heap} : vcOps Try.prog K ref1_Write_r10 τ ρ h = vcOps Try.prog K [
  ⟨some (66, false), .move (.tmp 6), 3, none, true⟩,
  ⟨some (67, false), .binOp .eql 3 (.tmp 66) (.const (.int .i64 0)) 3, 4, none, true⟩,
  ⟨some (68, false), .move (.tmp 67), 4, none, true⟩,
  ⟨some (69, false), .move (.tmp 8), 4, some (68, false), true⟩,
  ⟨some (70, false), .pick (.tmp 68) (.const (.bool true)) (.tmp 69), 4, none, true⟩,
  ⟨some (71, false), .move (.tmp 70), 4, none, true⟩,
  ⟨some (72, false), .move (.tmp 9), 3, some (71, false), true⟩,
  ⟨some (73, false), .binOp .lss 3 (.tmp 72) (.const (.int .i64 0)) 3, 4, some (71, false), true⟩,
  ⟨some (74, true), .pick (.tmp 71) (.const (.bool true)) (.tmp 73), 4, none, true⟩] τ ρ h := _root_.id rfl
def ref1_Write_r11 : List Sop := [
  ⟨some (75, false), .move (.tmp 6), 3, none, true⟩,
  ⟨some (2, true), .assign (.const (.string { data := #[] })), 9, none, true⟩,
  ⟨some (3, true), .assign (.const (.int .i64 5)), 38, none, true⟩,
  ⟨some (4, true), .assign (.tmp 75), 3, none, true⟩]
theorem ref1_Write_r11_go {K : Env → Heap → Prop} {τ ρ : Env} {h : Heap} : vcOps Try.prog K ref1_Write_r11 τ ρ h = vcOps Try.prog K [
  ⟨some (75, false), .move (.tmp 6), 3, none, true⟩,
  ⟨some (2, true), .assign (.const (.string { data := #[] })), 9, none, true⟩,
  ⟨some (3, true), .assign (.const (.int .i64 5)), 38, none, true⟩,
  ⟨some (4, true), .assign (.tmp 75), 3, none, true⟩] τ ρ h := _root_.id rfl
def ref1_Write_r12 : List Sop := [
  ⟨some (10, true), .assign (.const (.string { data := #[] })), 9, none, true⟩]
theorem ref1_Write_r12_go {K : Env → Heap → Prop} {τ ρ : Env} {h : Heap} : vcOps Try.prog K ref1_Write_r12 τ ρ h = vcOps Try.prog K [
  ⟨some (10, true), .assign (.const (.string { data := #[] })), 9, none, true⟩] τ ρ h := _root_.id rfl
def ref1_Write_r13 : List Sop := [
  ⟨some (76, false), .fieldAddr 37 (.tmp 7) 0, 0, none, true⟩,
  ⟨some (77, true), .load 5 (.tmp 76), 5, none, true⟩]
theorem ref1_Write_r13_go {K : Env → Heap → Prop} {τ ρ : Env} {h : Heap} : vcOps Try.prog K ref1_Write_r13 τ ρ h = vcOps Try.prog K [
  ⟨some (76, false), .fieldAddr 37 (.tmp 7) 0, 0, none, true⟩,
  ⟨some (77, true), .load 5 (.tmp 76), 5, none, true⟩] τ ρ h := _root_.id rfl
def ref1_Write_r14 : List Sop := [
  ⟨some (91, false), .binOp .eql 5 (.tmp 77) (.const (.int .u8 1)) 5, 4, none, true⟩,
  ⟨some (90, true), .assign (.tmp 91), 4, none, true⟩]
theorem ref1_Write_r14_go {K : Env → Heap → Prop} {τ ρ : Env} {h : Heap} : vcOps Try.prog K ref1_Write_r14 τ ρ h = vcOps Try.prog K [
  ⟨some (91, false), .binOp .eql 5 (.tmp 77) (.const (.int .u8 1)) 5, 4, none, true⟩,
  ⟨some (90, true), .assign (.tmp 91), 4, none, true⟩] τ ρ h := _root_.id rfl
def ref1_Write_r15 : List Sop := [
  ⟨some (93, false), .fieldAddr 37 (.tmp 7) 1, 0, none, true⟩,
  ⟨some (94, false), .load 9 (.tmp 93), 9, none, true⟩,
  ⟨some (95, false), .call { callee := .value (.func 10), args := #[.tmp 94], argTypes := #[9] }, 27, none, false⟩,
  ⟨some (92, false), .move (.tmp 95), 27, none, true⟩,
  ⟨some (96, false), .extract (.tmp 92) 0, 22, none, true⟩,
  ⟨some (97, false), .extract (.tmp 92) 1, 4, none, true⟩,
  ⟨some (11, false), .assign (.tmp 96), 22, none, true⟩,
  ⟨some (12, true), .assign (.tmp 97), 4, none, true⟩]
theorem ref1_Write_r15_go {K : Env → Heap → Prop} {τ ρ : Env} {h : Heap} : vcOps Try.prog K ref1_Write_r15 τ ρ h = vcOps Try.prog K [
  ⟨some (93, false), .fieldAddr 37 (.tmp 7) 1, 0, none, true⟩,
  ⟨some (94, false), .load 9 (.tmp 93), 9, none, true⟩,
  ⟨some (95, false), .call { callee := .value (.func 10), args := #[.tmp 94], argTypes := #[9] }, 27, none, false⟩,
  ⟨some (92, false), .move (.tmp 95), 27, none, true⟩,
  ⟨some (96, false), .extract (.tmp 92) 0, 22, none, true⟩,
  ⟨some (97, false), .extract (.tmp 92) 1, 4, none, true⟩,
  ⟨some (11, false), .assign (.tmp 96), 22, none, true⟩,
  ⟨some (12, true), .assign (.tmp 97), 4, none, true⟩] τ ρ h := _root_.id rfl
def ref1_Write_r16 : List Sop := [
  ⟨some (98, false), .move (.tmp 12), 4, none, true⟩,
  ⟨some (99, true), .unOp .not 4 (.tmp 98), 4, none, true⟩]
theorem ref1_Write_r16_go {K : Env → Heap → Prop} {τ ρ : Env} {h : Heap} : vcOps Try.prog K ref1_Write_r16 τ ρ h = vcOps Try.prog K [
  ⟨some (98, false), .move (.tmp 12), 4, none, true⟩,
  ⟨some (99, true), .unOp .not 4 (.tmp 98), 4, none, true⟩] τ ρ h := _root_.id rfl
def ref1_Write_r17 : List Sop := [
  ⟨some (100, false), .move (.tmp 6), 3, none, true⟩,
  ⟨some (2, true), .assign (.const (.string { data := #[] })), 9, none, true⟩,
  ⟨some (3, true), .assign (.const (.int .i64 6)), 38, none, true⟩,
  ⟨some (4, true), .assign (.tmp 100), 3, none, true⟩]
theorem ref1_Write_r17_go {K : Env → Heap → Prop} {τ ρ : Env} {h : Heap} : vcOps Try.prog K ref1_Write_r17 τ ρ h = vcOps Try.prog K [
  ⟨some (100, false), .move (.tmp 6), 3, none, true⟩,
  ⟨some (2, true), .assign (.const (.string { data := #[] })), 9, none, true⟩,
  ⟨some (3, true), .assign (.const (.int .i64 6)), 38, none, true⟩,
  ⟨some (4, true), .assign (.tmp 100), 3, none, true⟩] τ ρ h := _root_.id rfl
def ref1_Write_r18 : List Sop := [
  ⟨some (101, false), .fieldAddr 37 (.tmp 7) 1, 0, none, true⟩,
  ⟨some (102, false), .load 9 (.tmp 101), 9, none, true⟩,
  ⟨some (103, false), .call { callee := .builtin .len, args := #[.tmp 102], argTypes := #[9] }, 3, none, true⟩,
  ⟨some (104, true), .binOp .gtr 3 (.tmp 103) (.const (.int .i64 65535)) 3, 4, none, true⟩]
theorem ref1_Write_r18_go {K : Env → Heap → Prop} {τ ρ : Env} {h : Heap} : vcOps Try.prog K ref1_Write_r18 τ ρ h = vcOps Try.prog K [
  ⟨some (101, false), .fieldAddr 37 (.tmp 7) 1, 0, none, true⟩,
  ⟨some (102, false), .load 9 (.tmp 101), 9, none, true⟩,
  ⟨some (103, false), .call { callee := .builtin .len, args := #[.tmp 102], argTypes := #[9] }, 3, none, true⟩,
  ⟨some (104, true), .binOp .gtr 3 (.tmp 103) (.const (.int .i64 65535)) 3, 4, none, true⟩] τ ρ h := _root_.id rfl
def ref1_Write_r19 : List Sop := [
  ⟨some (105, false), .move (.tmp 6), 3, none, true⟩,
  ⟨some (2, true), .assign (.const (.string { data := #[] })), 9, none, true⟩,
  ⟨some (3, true), .assign (.const (.int .i64 12)), 38, none, true⟩,
  ⟨some (4, true), .assign (.tmp 105), 3, none, true⟩]
theorem ref1_Write_r19_go {K : Env → Heap → Prop} {τ ρ : Env} {h : Heap} : vcOps Try.prog K ref1_Write_r19 τ ρ h = vcOps Try.prog K [
  ⟨some (105, false), .move (.tmp 6), 3, none, true⟩,
  ⟨some (2, true), .assign (.const (.string { data := #[] })), 9, none, true⟩,
  ⟨some (3, true), .assign (.const (.int .i64 12)), 38, none, true⟩,
  ⟨some (4, true), .assign (.tmp 105), 3, none, true⟩] τ ρ h := _root_.id rfl
def ref1_Write_r20 : List (Sop × List Sop) := [
  (⟨some (106, false), .fieldAddr 37 (.tmp 7) 1, 0, none, true⟩, []),
  (⟨some (107, false), .load 9 (.tmp 106), 9, none, true⟩, []),
  (⟨some (108, false), .call { callee := .builtin .len, args := #[.tmp 107], argTypes := #[9] }, 3, none, true⟩, []),
  (⟨some (109, false), .convert 3 35 (.tmp 108), 35, none, true⟩, []),
  (⟨some (111, false), .fieldAddr 37 (.tmp 7) 1, 0, none, true⟩, []),
  (⟨some (112, false), .load 9 (.tmp 111), 9, none, true⟩, []),
  (⟨some (110, false), .call { callee := .value (.func 22), args := #[.tmp 109, .const (.int .i64 2)], argTypes := #[35, 3] }, 9, none, false⟩, [⟨some (111, false), .fieldAddr 37 (.tmp 7) 1, 0, none, true⟩, ⟨some (112, false), .load 9 (.tmp 111), 9, none, true⟩]),
  (⟨some (113, false), .binOp .add 9 (.tmp 110) (.tmp 112) 9, 9, none, true⟩, []),
  (⟨some (10, true), .assign (.tmp 113), 9, none, true⟩, [])]
theorem ref1_Write_r20_go {K : Env → Heap → Prop} {τ ρ : Env} {h : Heap} : vcDraw Try.prog K ref1_Write_r20 τ ρ h = vcDraw Try.prog K [
  (⟨some (106, false), .fieldAddr 37 (.tmp 7) 1, 0, none, true⟩, []),
  (⟨some (107, false), .load 9 (.tmp 106), 9, none, true⟩, []),
  (⟨some (108, false), .call { callee := .builtin .len, args := #[.tmp 107], argTypes := #[9] }, 3, none, true⟩, []),
  (⟨some (109, false), .convert 3 35 (.tmp 108), 35, none, true⟩, []),
  (⟨some (111, false), .fieldAddr 37 (.tmp 7) 1, 0, none, true⟩, []),
  (⟨some (112, false), .load 9 (.tmp 111), 9, none, true⟩, []),
  (⟨some (110, false), .call { callee := .value (.func 22), args := #[.tmp 109, .const (.int .i64 2)], argTypes := #[35, 3] }, 9, none, false⟩, [⟨some (111, false), .fieldAddr 37 (.tmp 7) 1, 0, none, true⟩, ⟨some (112, false), .load 9 (.tmp 111), 9, none, true⟩]),
  (⟨some (113, false), .binOp .add 9 (.tmp 110) (.tmp 112) 9, 9, none, true⟩, []),
  (⟨some (10, true), .assign (.tmp 113), 9, none, true⟩, [])] τ ρ h := _root_.id rfl
def ref1_Write_r21 : List Sop := [
  ⟨some (115, false), .binOp .eql 5 (.tmp 77) (.const (.int .u8 3)) 5, 4, none, true⟩,
  ⟨some (114, true), .assign (.tmp 115), 4, none, true⟩]
theorem ref1_Write_r21_go {K : Env → Heap → Prop} {τ ρ : Env} {h : Heap} : vcOps Try.prog K ref1_Write_r21 τ ρ h = vcOps Try.prog K [
  ⟨some (115, false), .binOp .eql 5 (.tmp 77) (.const (.int .u8 3)) 5, 4, none, true⟩,
  ⟨some (114, true), .assign (.tmp 115), 4, none, true⟩] τ ρ h := _root_.id rfl
def ref1_Write_r22 : List Sop := [
  ⟨some (116, false), .binOp .eql 5 (.tmp 77) (.const (.int .u8 4)) 5, 4, none, true⟩,
  ⟨some (114, true), .assign (.tmp 116), 4, none, true⟩]
theorem ref1_Write_r22_go {K : Env → Heap → Prop} {τ ρ : Env} {h : Heap} : vcOps Try.prog K ref1_Write_r22 τ ρ h = vcOps Try.prog K [
  ⟨some (116, false), .binOp .eql 5 (.tmp 77) (.const (.int .u8 4)) 5, 4, none, true⟩,
  ⟨some (114, true), .assign (.tmp 116), 4, none, true⟩] τ ρ h := _root_.id rfl
def ref1_Write_r23 : List Sop := [
  ⟨some (117, false), .fieldAddr 37 (.tmp 7) 2, 0, none, true⟩,
  ⟨some (118, false), .load 35 (.tmp 117), 35, none, true⟩,
  ⟨some (119, true), .binOp .geq 35 (.tmp 118) (.const (.int .u64 4294967296)) 35, 4, none, true⟩]
theorem ref1_Write_r23_go {K : Env → Heap → Prop} {τ ρ : Env} {h : Heap} : vcOps Try.prog K ref1_Write_r23 τ ρ h = vcOps Try.prog K [
  ⟨some (117, false), .fieldAddr 37 (.tmp 7) 2, 0, none, true⟩,
  ⟨some (118, false), .load 35 (.tmp 117), 35, none, true⟩,
  ⟨some (119, true), .binOp .geq 35 (.tmp 118) (.const (.int .u64 4294967296)) 35, 4, none, true⟩] τ ρ h := _root_.id rfl
def ref1_Write_r24 : List Sop := [
  ⟨some (120, false), .move (.tmp 6), 3, none, true⟩,
  ⟨some (2, true), .assign (.const (.string { data := #[] })), 9, none, true⟩,
  ⟨some (3, true), .assign (.const (.int .i64 12)), 38, none, true⟩,
  ⟨some (4, true), .assign (.tmp 120), 3, none, true⟩]
theorem ref1_Write_r24_go {K : Env → Heap → Prop} {τ ρ : Env} {h : Heap} : vcOps Try.prog K ref1_Write_r24 τ ρ h = vcOps Try.prog K [
  ⟨some (120, false), .move (.tmp 6), 3, none, true⟩,
  ⟨some (2, true), .assign (.const (.string { data := #[] })), 9, none, true⟩,
  ⟨some (3, true), .assign (.const (.int .i64 12)), 38, none, true⟩,
  ⟨some (4, true), .assign (.tmp 120), 3, none, true⟩] τ ρ h := _root_.id rfl
def ref1_Write_r25 : List Sop := [
  ⟨some (121, false), .fieldAddr 37 (.tmp 7) 2, 0, none, true⟩,
  ⟨some (122, false), .load 35 (.tmp 121), 35, none, true⟩,
  ⟨some (123, false), .call { callee := .value (.func 22), args := #[.tmp 122, .const (.int .i64 4)], argTypes := #[35, 3] }, 9, none, false⟩,
  ⟨some (10, true), .assign (.tmp 123), 9, none, true⟩]
theorem ref1_Write_r25_go {K : Env → Heap → Prop} {τ ρ : Env} {h : Heap} : vcOps Try.prog K ref1_Write_r25 τ ρ h = vcOps Try.prog K [
  ⟨some (121, false), .fieldAddr 37 (.tmp 7) 2, 0, none, true⟩,
  ⟨some (122, false), .load 35 (.tmp 121), 35, none, true⟩,
  ⟨some (123, false), .call { callee := .value (.func 22), args := #[.tmp 122, .const (.int .i64 4)], argTypes := #[35, 3] }, 9, none, false⟩,
  ⟨some (10, true), .assign (.tmp 123), 9, none, true⟩] τ ρ h := _root_.id rfl
def ref1_Write_r26 : List Sop := [
  ⟨some (125, false), .binOp .eql 5 (.tmp 77) (.const (.int .u8 5)) 5, 4, none, true⟩,
  ⟨some (124, true), .assign (.tmp 125), 4, none, true⟩]
theorem ref1_Write_r26_go {K : Env → Heap → Prop} {τ ρ : Env} {h : Heap} : vcOps Try.prog K ref1_Write_r26 τ ρ h = vcOps Try.prog K [
  ⟨some (125, false), .binOp .eql 5 (.tmp 77) (.const (.int .u8 5)) 5, 4, none, true⟩,
  ⟨some (124, true), .assign (.tmp 125), 4, none, true⟩] τ ρ h := _root_.id rfl
def ref1_Write_r27 : List Sop := [
  ⟨some (126, false), .binOp .eql 5 (.tmp 77) (.const (.int .u8 6)) 5, 4, none, true⟩,
  ⟨some (124, true), .assign (.tmp 126), 4, none, true⟩]
theorem ref1_Write_r27_go {K : Env → Heap → Prop} {τ ρ : Env} {h : Heap} : vcOps Try.prog K ref1_Write_r27 τ ρ h = vcOps Try.prog K [
  ⟨some (126, false), .binOp .eql 5 (.tmp 77) (.const (.int .u8 6)) 5, 4, none, true⟩,
  ⟨some (124, true), .assign (.tmp 126), 4, none, true⟩] τ ρ h := _root_.id rfl
def ref1_Write_r28 : List Sop := [
  ⟨some (127, false), .fieldAddr 37 (.tmp 7) 2, 0, none, true⟩,
  ⟨some (128, false), .load 35 (.tmp 127), 35, none, true⟩,
  ⟨some (129, false), .call { callee := .value (.func 22), args := #[.tmp 128, .const (.int .i64 8)], argTypes := #[35, 3] }, 9, none, false⟩,
  ⟨some (10, true), .assign (.tmp 129), 9, none, true⟩]
theorem ref1_Write_r28_go {K : Env → Heap → Prop} {τ ρ : Env} {h : Heap} : vcOps Try.prog K ref1_Write_r28 τ ρ h = vcOps Try.prog K [
  ⟨some (127, false), .fieldAddr 37 (.tmp 7) 2, 0, none, true⟩,
  ⟨some (128, false), .load 35 (.tmp 127), 35, none, true⟩,
  ⟨some (129, false), .call { callee := .value (.func 22), args := #[.tmp 128, .const (.int .i64 8)], argTypes := #[35, 3] }, 9, none, false⟩,
  ⟨some (10, true), .assign (.tmp 129), 9, none, true⟩] τ ρ h := _root_.id rfl
def ref1_Write_r29 : List Sop := [
  ⟨some (78, false), .fieldAddr 37 (.tmp 7) 3, 0, none, true⟩,
  ⟨some (79, false), .load 29 (.tmp 78), 29, none, true⟩,
  ⟨some (80, false), .convert 29 35 (.tmp 79), 35, none, true⟩,
  ⟨some (81, false), .call { callee := .value (.func 22), args := #[.tmp 80, .const (.int .i64 2)], argTypes := #[35, 3] }, 9, none, false⟩,
  ⟨some (10, true), .assign (.tmp 81), 9, none, true⟩]
theorem ref1_Write_r29_go {K : Env → Heap → Prop} {τ ρ : Env} {h : Heap} : vcOps Try.prog K ref1_Write_r29 τ ρ h = vcOps Try.prog K [
  ⟨some (78, false), .fieldAddr 37 (.tmp 7) 3, 0, none, true⟩,
  ⟨some (79, false), .load 29 (.tmp 78), 29, none, true⟩,
  ⟨some (80, false), .convert 29 35 (.tmp 79), 35, none, true⟩,
  ⟨some (81, false), .call { callee := .value (.func 22), args := #[.tmp 80, .const (.int .i64 2)], argTypes := #[35, 3] }, 9, none, false⟩,
  ⟨some (10, true), .assign (.tmp 81), 9, none, true⟩] τ ρ h := _root_.id rfl
def ref1_Write_r30 : List Sop := [
  ⟨some (82, false), .move (.tmp 9), 3, none, true⟩,
  ⟨some (83, true), .binOp .eql 3 (.tmp 82) (.const (.int .i64 4)) 3, 4, none, true⟩]
theorem ref1_Write_r30_go {K : Env → Heap → Prop} {τ ρ : Env} {h : Heap} : vcOps Try.prog K ref1_Write_r30 τ ρ h = vcOps Try.prog K [
  ⟨some (82, false), .move (.tmp 9), 3, none, true⟩,
  ⟨some (83, true), .binOp .eql 3 (.tmp 82) (.const (.int .i64 4)) 3, 4, none, true⟩] τ ρ h := _root_.id rfl
def ref1_Write_r31 : List Sop := [
  ⟨some (84, false), .move (.tmp 10), 9, none, true⟩,
  ⟨some (85, false), .fieldAddr 37 (.tmp 7) 4, 0, none, true⟩,
  ⟨some (86, false), .load 29 (.tmp 85), 29, none, true⟩,
  ⟨some (87, false), .convert 29 35 (.tmp 86), 35, none, true⟩,
  ⟨some (88, false), .call { callee := .value (.func 22), args := #[.tmp 87, .const (.int .i64 2)], argTypes := #[35, 3] }, 9, none, false⟩,
  ⟨some (89, false), .binOp .add 9 (.tmp 84) (.tmp 88) 9, 9, none, true⟩,
  ⟨some (10, true), .assign (.tmp 89), 9, none, true⟩]
theorem ref1_Write_r31_go {K : Env → Heap → Prop} {τ ρ : Env} {h : Heap} : vcOps Try.prog K ref1_Write_r31 τ ρ h = vcOps Try.prog K [
  ⟨some (84, false), .move (.tmp 10), 9, none, true⟩,
  ⟨some (85, false), .fieldAddr 37 (.tmp 7) 4, 0, none, true⟩,
  ⟨some (86, false), .load 29 (.tmp 85), 29, none, true⟩,
  ⟨some (87, false), .convert 29 35 (.tmp 86), 35, none, true⟩,
  ⟨some (88, false), .call { callee := .value (.func 22), args := #[.tmp 87, .const (.int .i64 2)], argTypes := #[35, 3] }, 9, none, false⟩,
  ⟨some (89, false), .binOp .add 9 (.tmp 84) (.tmp 88) 9, 9, none, true⟩,
  ⟨some (10, true), .assign (.tmp 89), 9, none, true⟩] τ ρ h := _root_.id rfl
def ref1_Write_r32 : List Sop := [
  ⟨some (130, false), .move (.tmp 5), 9, none, true⟩,
  ⟨some (131, false), .fieldAddr 37 (.tmp 7) 0, 0, none, true⟩,
  ⟨some (132, false), .load 5 (.tmp 131), 5, none, true⟩,
  ⟨some (133, false), .buildSlice 49 1 #[(0, .tmp 132)], 49, none, false⟩,
  ⟨some (134, false), .convert 49 9 (.tmp 133), 9, none, true⟩,
  ⟨some (135, false), .move (.tmp 10), 9, none, true⟩,
  ⟨some (136, false), .binOp .add 9 (.tmp 134) (.tmp 135) 9, 9, none, true⟩,
  ⟨some (137, false), .binOp .add 9 (.tmp 130) (.tmp 136) 9, 9, none, true⟩,
  ⟨some (5, true), .assign (.tmp 137), 9, none, true⟩]
theorem ref1_Write_r32_go {K : Env → Heap → Prop} {τ ρ : Env} {h : Heap} : vcOps Try.prog K ref1_Write_r32 τ ρ h = vcOps Try.prog K [
  ⟨some (130, false), .move (.tmp 5), 9, none, true⟩,
  ⟨some (131, false), .fieldAddr 37 (.tmp 7) 0, 0, none, true⟩,
  ⟨some (132, false), .load 5 (.tmp 131), 5, none, true⟩,
  ⟨some (133, false), .buildSlice 49 1 #[(0, .tmp 132)], 49, none, false⟩,
  ⟨some (134, false), .convert 49 9 (.tmp 133), 9, none, true⟩,
  ⟨some (135, false), .move (.tmp 10), 9, none, true⟩,
  ⟨some (136, false), .binOp .add 9 (.tmp 134) (.tmp 135) 9, 9, none, true⟩,
  ⟨some (137, false), .binOp .add 9 (.tmp 130) (.tmp 136) 9, 9, none, true⟩,
  ⟨some (5, true), .assign (.tmp 137), 9, none, true⟩] τ ρ h := _root_.id rfl
def ref1_Write_r33 : List Sop := [
  ⟨some (138, false), .binOp .add 3 (.tmp 28) (.const (.int .i64 1)) 3, 3, none, true⟩,
  ⟨some (28, true), .move (.tmp 138), 3, none, true⟩]
theorem ref1_Write_r33_go {K : Env → Heap → Prop} {τ ρ : Env} {h : Heap} : vcOps Try.prog K ref1_Write_r33 τ ρ h = vcOps Try.prog K [
  ⟨some (138, false), .binOp .add 3 (.tmp 28) (.const (.int .i64 1)) 3, 3, none, true⟩,
  ⟨some (28, true), .move (.tmp 138), 3, none, true⟩] τ ρ h := _root_.id rfl
def ref1_Write_r34 : List Sop := [
  ⟨some (139, false), .move (.tmp 0), 34, none, true⟩,
  ⟨some (140, false), .move (.tmp 0), 34, none, true⟩,
  ⟨some (141, false), .call { callee := .builtin .len, args := #[.tmp 140], argTypes := #[34] }, 3, none, true⟩,
  ⟨some (142, false), .binOp .sub 3 (.tmp 141) (.const (.int .i64 1)) 3, 3, none, true⟩,
  ⟨some (143, false), .indexAddr 34 (.tmp 139) (.tmp 142), 0, none, true⟩,
  ⟨some (144, false), .fieldAddr 37 (.tmp 143) 0, 0, none, true⟩,
  ⟨some (145, false), .load 5 (.tmp 144), 5, none, true⟩,
  ⟨some (13, true), .assign (.tmp 145), 5, none, true⟩]
theorem ref1_Write_r34_go {K : Env → Heap → Prop} {τ ρ : Env} {h : Heap} : vcOps Try.prog K ref1_Write_r34 τ ρ h = vcOps Try.prog K [
  ⟨some (139, false), .move (.tmp 0), 34, none, true⟩,
  ⟨some (140, false), .move (.tmp 0), 34, none, true⟩,
  ⟨some (141, false), .call { callee := .builtin .len, args := #[.tmp 140], argTypes := #[34] }, 3, none, true⟩,
  ⟨some (142, false), .binOp .sub 3 (.tmp 141) (.const (.int .i64 1)) 3, 3, none, true⟩,
  ⟨some (143, false), .indexAddr 34 (.tmp 139) (.tmp 142), 0, none, true⟩,
  ⟨some (144, false), .fieldAddr 37 (.tmp 143) 0, 0, none, true⟩,
  ⟨some (145, false), .load 5 (.tmp 144), 5, none, true⟩,
  ⟨some (13, true), .assign (.tmp 145), 5, none, true⟩] τ ρ h := _root_.id rfl
def ref1_Write_r35 : List Sop := [
  ⟨some (146, false), .move (.tmp 13), 5, none, true⟩,
  ⟨some (147, false), .binOp .eql 5 (.tmp 146) (.const (.int .u8 5)) 5, 4, none, true⟩,
  ⟨some (148, false), .move (.tmp 147), 4, none, true⟩,
  ⟨some (149, false), .move (.tmp 13), 5, some (148, false), true⟩,
  ⟨some (150, false), .binOp .eql 5 (.tmp 149) (.const (.int .u8 6)) 5, 4, some (148, false), true⟩,
  ⟨some (151, true), .pick (.tmp 148) (.const (.bool true)) (.tmp 150), 4, none, true⟩]
theorem ref1_Write_r35_go {K : Env → Heap → Prop} {τ ρ : Env} {h : Heap} : vcOps Try.prog K ref1_Write_r35 τ ρ h = vcOps Try.prog K [
  ⟨some (146, false), .move (.tmp 13), 5, none, true⟩,
  ⟨some (147, false), .binOp .eql 5 (.tmp 146) (.const (.int .u8 5)) 5, 4, none, true⟩,
  ⟨some (148, false), .move (.tmp 147), 4, none, true⟩,
  ⟨some (149, false), .move (.tmp 13), 5, some (148, false), true⟩,
  ⟨some (150, false), .binOp .eql 5 (.tmp 149) (.const (.int .u8 6)) 5, 4, some (148, false), true⟩,
  ⟨some (151, true), .pick (.tmp 148) (.const (.bool true)) (.tmp 150), 4, none, true⟩] τ ρ h := _root_.id rfl
def ref1_Write_r36 : List Sop := [
  ⟨some (152, false), .move (.tmp 0), 34, none, true⟩,
  ⟨some (153, false), .call { callee := .builtin .len, args := #[.tmp 152], argTypes := #[34] }, 3, none, true⟩,
  ⟨some (2, true), .assign (.const (.string { data := #[] })), 9, none, true⟩,
  ⟨some (3, true), .assign (.const (.int .i64 5)), 38, none, true⟩,
  ⟨some (4, true), .assign (.tmp 153), 3, none, true⟩]
theorem ref1_Write_r36_go {K : Env → Heap → Prop} {τ ρ : Env} {h : Heap} : vcOps Try.prog K ref1_Write_r36 τ ρ h = vcOps Try.prog K [
  ⟨some (152, false), .move (.tmp 0), 34, none, true⟩,
  ⟨some (153, false), .call { callee := .builtin .len, args := #[.tmp 152], argTypes := #[34] }, 3, none, true⟩,
  ⟨some (2, true), .assign (.const (.string { data := #[] })), 9, none, true⟩,
  ⟨some (3, true), .assign (.const (.int .i64 5)), 38, none, true⟩,
  ⟨some (4, true), .assign (.tmp 153), 3, none, true⟩] τ ρ h := _root_.id rfl
def ref1_Write_r37 : List Sop := [
  ⟨some (154, false), .move (.tmp 5), 9, none, true⟩,
  ⟨some (2, true), .assign (.tmp 154), 9, none, true⟩,
  ⟨some (3, true), .assign (.const (.int .i64 0)), 38, none, true⟩,
  ⟨some (4, true), .assign (.const (.int .i64 0)), 3, none, true⟩]
theorem ref1_Write_r37_go {K : Env → Heap → Prop} {τ ρ : Env} {h : Heap} : vcOps Try.prog K ref1_Write_r37 τ ρ h = vcOps Try.prog K [
  ⟨some (154, false), .move (.tmp 5), 9, none, true⟩,
  ⟨some (2, true), .assign (.tmp 154), 9, none, true⟩,
  ⟨some (3, true), .assign (.const (.int .i64 0)), 38, none, true⟩,
  ⟨some (4, true), .assign (.const (.int .i64 0)), 3, none, true⟩] τ ρ h := _root_.id rfl
def ref1_Write_l0 : Cd := .seq (.region ref1_Write_r5) (.seq (.cond (.tmp 29) (.skip) (.exit 0)) (.seq (.block 1 (.seq (.region ref1_Write_r6) (.seq (.region ref1_Write_r7) (.seq (.seq (.region ref1_Write_r8) (.cond (.tmp 62) (.exit 1) (.skip))) (.seq (.region ref1_Write_r9) (.seq (.seq (.region ref1_Write_r10) (.cond (.tmp 74) (.seq (.region ref1_Write_r11) (.ret)) (.skip))) (.seq (.region ref1_Write_r12) (.seq (.seq (.region ref1_Write_r13) (.block 2 (.seq (.region ref1_Write_r14) (.cond (.tmp 90) (.seq (.seq (.region ref1_Write_r15) (.seq (.region ref1_Write_r16) (.cond (.tmp 99) (.seq (.region ref1_Write_r17) (.ret)) (.skip)))) (.seq (.seq (.region ref1_Write_r18) (.cond (.tmp 104) (.seq (.region ref1_Write_r19) (.ret)) (.skip))) (.draw ref1_Write_r20))) (.seq (.seq (.region ref1_Write_r21) (.cond (.tmp 114) (.skip) (.region ref1_Write_r22))) (.cond (.tmp 114) (.seq (.seq (.region ref1_Write_r23) (.cond (.tmp 119) (.seq (.region ref1_Write_r24) (.ret)) (.skip))) (.region ref1_Write_r25)) (.seq (.seq (.region ref1_Write_r26) (.cond (.tmp 124) (.skip) (.region ref1_Write_r27))) (.cond (.tmp 124) (.region ref1_Write_r28) (.seq (.region ref1_Write_r29) (.seq (.region ref1_Write_r30) (.cond (.tmp 83) (.region ref1_Write_r31) (.skip)))))))))))) (.region ref1_Write_r32))))))))) (.region ref1_Write_r33)))
theorem ref1_Write_l0_go {Q : Ex → Env → Heap → Prop} {ρ : Env} {h : Heap} : Cd.vc Try.prog ref1_Write_l0 Q ρ h = Cd.vc Try.prog (.seq (.region ref1_Write_r5) (.seq (.cond (.tmp 29) (.skip) (.exit 0)) (.seq (.block 1 (.seq (.region ref1_Write_r6) (.seq (.region ref1_Write_r7) (.seq (.seq (.region ref1_Write_r8) (.cond (.tmp 62) (.exit 1) (.skip))) (.seq (.region ref1_Write_r9) (.seq (.seq (.region ref1_Write_r10) (.cond (.tmp 74) (.seq (.region ref1_Write_r11) (.ret)) (.skip))) (.seq (.region ref1_Write_r12) (.seq (.seq (.region ref1_Write_r13) (.block 2 (.seq (.region ref1_Write_r14) (.cond (.tmp 90) (.seq (.seq (.region ref1_Write_r15) (.seq (.region ref1_Write_r16) (.cond (.tmp 99) (.seq (.region ref1_Write_r17) (.ret)) (.skip)))) (.seq (.seq (.region ref1_Write_r18) (.cond (.tmp 104) (.seq (.region ref1_Write_r19) (.ret)) (.skip))) (.draw ref1_Write_r20))) (.seq (.seq (.region ref1_Write_r21) (.cond (.tmp 114) (.skip) (.region ref1_Write_r22))) (.cond (.tmp 114) (.seq (.seq (.region ref1_Write_r23) (.cond (.tmp 119) (.seq (.region ref1_Write_r24) (.ret)) (.skip))) (.region ref1_Write_r25)) (.seq (.seq (.region ref1_Write_r26) (.cond (.tmp 124) (.skip) (.region ref1_Write_r27))) (.cond (.tmp 124) (.region ref1_Write_r28) (.seq (.region ref1_Write_r29) (.seq (.region ref1_Write_r30) (.cond (.tmp 83) (.region ref1_Write_r31) (.skip)))))))))))) (.region ref1_Write_r32))))))))) (.region ref1_Write_r33)))) Q ρ h := _root_.id rfl
def ref1_Write : Cd := .seq (.region ref1_Write_r0) (.seq (.seq (.region ref1_Write_r1) (.cond (.tmp 21) (.seq (.region ref1_Write_r2) (.ret)) (.skip))) (.seq (.region ref1_Write_r3) (.seq (.seq (.region ref1_Write_r4) (.block 0 (.loop ref1_Write_l0))) (.seq (.seq (.region ref1_Write_r34) (.seq (.region ref1_Write_r35) (.cond (.tmp 151) (.seq (.region ref1_Write_r36) (.ret)) (.skip)))) (.seq (.region ref1_Write_r37) (.ret))))))
theorem ref1_Write_go {Q : Ex → Env → Heap → Prop} {ρ : Env} {h : Heap} : Cd.vc Try.prog ref1_Write Q ρ h = Cd.vc Try.prog (.seq (.region ref1_Write_r0) (.seq (.seq (.region ref1_Write_r1) (.cond (.tmp 21) (.seq (.region ref1_Write_r2) (.ret)) (.skip))) (.seq (.region ref1_Write_r3) (.seq (.seq (.region ref1_Write_r4) (.block 0 (.loop ref1_Write_l0))) (.seq (.seq (.region ref1_Write_r34) (.seq (.region ref1_Write_r35) (.cond (.tmp 151) (.seq (.region ref1_Write_r36) (.ret)) (.skip)))) (.seq (.region ref1_Write_r37) (.ret))))))) Q ρ h := _root_.id rfl
theorem ref1_Write_calls {args : List Value} {h : Heap} {R : Value → Heap → Prop} (hl : args.length = 1) (hv : Cd.vc Try.prog ref1_Write (retQ Try.prog [(2, none), (3, none), (4, none)] R) (initEnv args [0, 2, 3, 4, 5, 6, 7, 8, 9, 10, 12, 13, 21, 26, 27, 28, 29, 62, 74, 77, 83, 90, 99, 104, 114, 119, 124, 151]) h) : HCalls Try.prog 14 args.toArray h R :=
  hcalls_of_vc (by kernel_rfl) Try.func14 (cd := ref1_Write) (L := [0, 2, 3, 4, 5, 6, 7, 8, 9, 10, 12, 13, 21, 26, 27, 28, 29, 62, 74, 77, 83, 90, 99, 104, 114, 119, 124, 151]) (by kernel_rfl) (by kernel_rfl) ⟨by rw [hl, Try.ntmps14]; decide, by rw [Try.ntmps14]; decide⟩ hv
def ref1_Write_gos := And.intro @ref1_Write_go (And.intro @ref1_Write_r0_go (And.intro @ref1_Write_r1_go (And.intro @ref1_Write_r2_go (And.intro @ref1_Write_r3_go (And.intro @ref1_Write_r4_go (And.intro @ref1_Write_r5_go (And.intro @ref1_Write_r6_go (And.intro @ref1_Write_r7_go (And.intro @ref1_Write_r8_go (And.intro @ref1_Write_r9_go (And.intro @ref1_Write_r10_go (And.intro @ref1_Write_r11_go (And.intro @ref1_Write_r12_go (And.intro @ref1_Write_r13_go (And.intro @ref1_Write_r14_go (And.intro @ref1_Write_r15_go (And.intro @ref1_Write_r16_go (And.intro @ref1_Write_r17_go (And.intro @ref1_Write_r18_go (And.intro @ref1_Write_r19_go (And.intro @ref1_Write_r20_go (And.intro @ref1_Write_r21_go (And.intro @ref1_Write_r22_go (And.intro @ref1_Write_r23_go (And.intro @ref1_Write_r24_go (And.intro @ref1_Write_r25_go (And.intro @ref1_Write_r26_go (And.intro @ref1_Write_r27_go (And.intro @ref1_Write_r28_go (And.intro @ref1_Write_r29_go (And.intro @ref1_Write_r30_go (And.intro @ref1_Write_r31_go (And.intro @ref1_Write_r32_go (And.intro @ref1_Write_r33_go (And.intro @ref1_Write_r34_go (And.intro @ref1_Write_r35_go (And.intro @ref1_Write_r36_go (And.intro @ref1_Write_r37_go (@ref1_Write_l0_go)))))))))))))))))))))))))))))))))))))))

end Go.Proofs.Ytnpgmbpialokcaa.C
