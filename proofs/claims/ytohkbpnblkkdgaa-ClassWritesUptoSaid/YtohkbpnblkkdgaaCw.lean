/- The stripped code of some functions of this seat's program, printed by a program; that it is that code is proved by the kernel. No condition. -/

import Derived.Test.YtohkbpnblkkdgaaProg

import Derived.Test.YtohkbpnblkkdgaaVcH

set_option maxRecDepth 100000

set_option linter.defProp false

namespace Go.Proofs.Ytohkbpnblkkdgaa.C

open Go.Vc

/-! jvmcore/pool.Write: function 40: slots [0, 2, 3, 4, 5, 6, 7, 8, 10, 18, 24, 25, 26, 27, 35, 46, 48, 50, 59, 64, 82, 88, 100, 113, 127, 149] -/
def pool_Write_r0 : List Sop := [
  ⟨some (2, true), .assign (.const (.string { data := #[] })), 9, none, true⟩,
  ⟨some (3, true), .assign (.const (.int .i64 0)), 27, none, true⟩,
  ⟨some (4, true), .assign (.const (.int .i64 0)), 3, none, true⟩]
theorem pool_Write_r0_go {K : Env → Heap → Prop} {τ ρ : Env} {h : Heap} : vcOps Try.prog K pool_Write_r0 τ ρ h = vcOps Try.prog K [
  ⟨some (2, true), .assign (.const (.string { data := #[] })), 9, none, true⟩,
  ⟨some (3, true), .assign (.const (.int .i64 0)), 27, none, true⟩,
  ⟨some (4, true), .assign (.const (.int .i64 0)), 3, none, true⟩] τ ρ h := _root_.id rfl
def pool_Write_r1 : List Sop := [
  ⟨some (11, false), .move (.tmp 0), 22, none, true⟩,
  ⟨some (12, false), .call { callee := .builtin .len, args := #[.tmp 11], argTypes := #[22] }, 3, none, true⟩,
  ⟨some (13, false), .binOp .eql 3 (.tmp 12) (.const (.int .i64 0)) 3, 4, none, true⟩,
  ⟨some (14, false), .move (.tmp 13), 4, none, true⟩,
  ⟨some (15, false), .move (.tmp 0), 22, some (14, false), true⟩,
  ⟨some (16, false), .call { callee := .builtin .len, args := #[.tmp 15], argTypes := #[22] }, 3, some (14, false), true⟩,
  ⟨some (17, false), .binOp .gtr 3 (.tmp 16) (.const (.int .i64 65535)) 3, 4, some (14, false), true⟩,
  ⟨some (18, true), .pick (.tmp 14) (.const (.bool true)) (.tmp 17), 4, none, true⟩]
theorem pool_Write_r1_go {K : Env → Heap → Prop} {τ ρ : Env} {h : Heap} : vcOps Try.prog K pool_Write_r1 τ ρ h = vcOps Try.prog K [
  ⟨some (11, false), .move (.tmp 0), 22, none, true⟩,
  ⟨some (12, false), .call { callee := .builtin .len, args := #[.tmp 11], argTypes := #[22] }, 3, none, true⟩,
  ⟨some (13, false), .binOp .eql 3 (.tmp 12) (.const (.int .i64 0)) 3, 4, none, true⟩,
  ⟨some (14, false), .move (.tmp 13), 4, none, true⟩,
  ⟨some (15, false), .move (.tmp 0), 22, some (14, false), true⟩,
  ⟨some (16, false), .call { callee := .builtin .len, args := #[.tmp 15], argTypes := #[22] }, 3, some (14, false), true⟩,
  ⟨some (17, false), .binOp .gtr 3 (.tmp 16) (.const (.int .i64 65535)) 3, 4, some (14, false), true⟩,
  ⟨some (18, true), .pick (.tmp 14) (.const (.bool true)) (.tmp 17), 4, none, true⟩] τ ρ h := _root_.id rfl
def pool_Write_r2 : List Sop := [
  ⟨some (2, true), .assign (.const (.string { data := #[] })), 9, none, true⟩,
  ⟨some (3, true), .assign (.const (.int .i64 12)), 27, none, true⟩,
  ⟨some (4, true), .assign (.const (.int .i64 0)), 3, none, true⟩]
theorem pool_Write_r2_go {K : Env → Heap → Prop} {τ ρ : Env} {h : Heap} : vcOps Try.prog K pool_Write_r2 τ ρ h = vcOps Try.prog K [
  ⟨some (2, true), .assign (.const (.string { data := #[] })), 9, none, true⟩,
  ⟨some (3, true), .assign (.const (.int .i64 12)), 27, none, true⟩,
  ⟨some (4, true), .assign (.const (.int .i64 0)), 3, none, true⟩] τ ρ h := _root_.id rfl
def pool_Write_r3 : List Sop := [
  ⟨some (19, false), .move (.tmp 0), 22, none, true⟩,
  ⟨some (20, false), .call { callee := .builtin .len, args := #[.tmp 19], argTypes := #[22] }, 3, none, true⟩,
  ⟨some (21, false), .convert 3 74 (.tmp 20), 74, none, true⟩,
  ⟨some (22, false), .call { callee := .value (.func 70), args := #[.tmp 21, .const (.int .i64 2)], argTypes := #[74, 3] }, 9, none, false⟩,
  ⟨some (23, false), .convert 9 69 (.tmp 22), 69, none, false⟩,
  ⟨some (5, true), .assign (.tmp 23), 69, none, true⟩]
theorem pool_Write_r3_go {K : Env → Heap → Prop} {τ ρ : Env} {h : Heap} : vcOps Try.prog K pool_Write_r3 τ ρ h = vcOps Try.prog K [
  ⟨some (19, false), .move (.tmp 0), 22, none, true⟩,
  ⟨some (20, false), .call { callee := .builtin .len, args := #[.tmp 19], argTypes := #[22] }, 3, none, true⟩,
  ⟨some (21, false), .convert 3 74 (.tmp 20), 74, none, true⟩,
  ⟨some (22, false), .call { callee := .value (.func 70), args := #[.tmp 21, .const (.int .i64 2)], argTypes := #[74, 3] }, 9, none, false⟩,
  ⟨some (23, false), .convert 9 69 (.tmp 22), 69, none, false⟩,
  ⟨some (5, true), .assign (.tmp 23), 69, none, true⟩] τ ρ h := _root_.id rfl
def pool_Write_r4 : List Sop := [
  ⟨some (6, true), .assign (.const (.bool true)), 4, none, true⟩]
theorem pool_Write_r4_go {K : Env → Heap → Prop} {τ ρ : Env} {h : Heap} : vcOps Try.prog K pool_Write_r4 τ ρ h = vcOps Try.prog K [
  ⟨some (6, true), .assign (.const (.bool true)), 4, none, true⟩] τ ρ h := _root_.id rfl
def pool_Write_r5 : List Sop := [
  ⟨some (24, true), .move (.tmp 0), 22, none, true⟩,
  ⟨some (25, true), .call { callee := .builtin .len, args := #[.tmp 24], argTypes := #[22] }, 3, none, true⟩,
  ⟨some (26, true), .move (.const (.int .i64 0)), 3, none, true⟩]
theorem pool_Write_r5_go {K : Env → Heap → Prop} {τ ρ : Env} {h : Heap} : vcOps Try.prog K pool_Write_r5 τ ρ h = vcOps Try.prog K [
  ⟨some (24, true), .move (.tmp 0), 22, none, true⟩,
  ⟨some (25, true), .call { callee := .builtin .len, args := #[.tmp 24], argTypes := #[22] }, 3, none, true⟩,
  ⟨some (26, true), .move (.const (.int .i64 0)), 3, none, true⟩] τ ρ h := _root_.id rfl
def pool_Write_r6 : List Sop := [
  ⟨some (27, true), .binOp .lss 3 (.tmp 26) (.tmp 25) 3, 0, none, true⟩]
theorem pool_Write_r6_go {K : Env → Heap → Prop} {τ ρ : Env} {h : Heap} : vcOps Try.prog K pool_Write_r6 τ ρ h = vcOps Try.prog K [
  ⟨some (27, true), .binOp .lss 3 (.tmp 26) (.tmp 25) 3, 0, none, true⟩] τ ρ h := _root_.id rfl
def pool_Write_r7 : List Sop := [
  ⟨some (28, false), .move (.tmp 26), 3, none, true⟩,
  ⟨some (29, false), .indexAddr 22 (.tmp 24) (.tmp 26), 0, none, true⟩,
  ⟨some (30, false), .load 76 (.tmp 29), 76, none, true⟩,
  ⟨some (8, true), .alloc 76, 0, none, false⟩,
  ⟨some (7, true), .assign (.tmp 28), 3, none, true⟩,
  ⟨none, .store 76 (.tmp 8) (.tmp 30), 0, none, false⟩]
theorem pool_Write_r7_go {K : Env → Heap → Prop} {τ ρ : Env} {h : Heap} : vcOps Try.prog K pool_Write_r7 τ ρ h = vcOps Try.prog K [
  ⟨some (28, false), .move (.tmp 26), 3, none, true⟩,
  ⟨some (29, false), .indexAddr 22 (.tmp 24) (.tmp 26), 0, none, true⟩,
  ⟨some (30, false), .load 76 (.tmp 29), 76, none, true⟩,
  ⟨some (8, true), .alloc 76, 0, none, false⟩,
  ⟨some (7, true), .assign (.tmp 28), 3, none, true⟩,
  ⟨none, .store 76 (.tmp 8) (.tmp 30), 0, none, false⟩] τ ρ h := _root_.id rfl
def pool_Write_r8 : List Sop := [
  ⟨some (31, false), .fieldAddr 76 (.tmp 8) 0, 0, none, true⟩,
  ⟨some (32, false), .load 5 (.tmp 31), 5, none, true⟩,
  ⟨some (33, false), .binOp .eql 5 (.tmp 32) (.const (.int .u8 0)) 5, 4, none, true⟩,
  ⟨some (34, false), .move (.tmp 6), 4, none, true⟩,
  ⟨some (35, true), .binOp .neq 4 (.tmp 33) (.tmp 34) 4, 4, none, true⟩]
theorem pool_Write_r8_go {K : Env → Heap → Prop} {τ ρ : Env} {h : Heap} : vcOps Try.prog K pool_Write_r8 τ ρ h = vcOps Try.prog K [
  ⟨some (31, false), .fieldAddr 76 (.tmp 8) 0, 0, none, true⟩,
  ⟨some (32, false), .load 5 (.tmp 31), 5, none, true⟩,
  ⟨some (33, false), .binOp .eql 5 (.tmp 32) (.const (.int .u8 0)) 5, 4, none, true⟩,
  ⟨some (34, false), .move (.tmp 6), 4, none, true⟩,
  ⟨some (35, true), .binOp .neq 4 (.tmp 33) (.tmp 34) 4, 4, none, true⟩] τ ρ h := _root_.id rfl
def pool_Write_r9 : List Sop := [
  ⟨some (36, false), .move (.tmp 7), 3, none, true⟩,
  ⟨some (2, true), .assign (.const (.string { data := #[] })), 9, none, true⟩,
  ⟨some (3, true), .assign (.const (.int .i64 5)), 27, none, true⟩,
  ⟨some (4, true), .assign (.tmp 36), 3, none, true⟩]
theorem pool_Write_r9_go {K : Env → Heap → Prop} {τ ρ : Env} {h : Heap} : vcOps Try.prog K pool_Write_r9 τ ρ h = vcOps Try.prog K [
  ⟨some (36, false), .move (.tmp 7), 3, none, true⟩,
  ⟨some (2, true), .assign (.const (.string { data := #[] })), 9, none, true⟩,
  ⟨some (3, true), .assign (.const (.int .i64 5)), 27, none, true⟩,
  ⟨some (4, true), .assign (.tmp 36), 3, none, true⟩] τ ρ h := _root_.id rfl
def pool_Write_r10 : List Sop := [
  ⟨some (37, false), .fieldAddr 76 (.tmp 8) 0, 0, none, true⟩,
  ⟨some (38, false), .load 5 (.tmp 37), 5, none, true⟩,
  ⟨some (39, false), .binOp .eql 5 (.tmp 38) (.const (.int .u8 5)) 5, 4, none, true⟩,
  ⟨some (40, false), .move (.tmp 39), 4, none, true⟩,
  ⟨some (41, false), .fieldAddr 76 (.tmp 8) 0, 0, some (40, false), true⟩,
  ⟨some (42, false), .load 5 (.tmp 41), 5, some (40, false), true⟩,
  ⟨some (43, false), .binOp .eql 5 (.tmp 42) (.const (.int .u8 6)) 5, 4, some (40, false), true⟩,
  ⟨some (44, false), .pick (.tmp 40) (.const (.bool true)) (.tmp 43), 4, none, true⟩,
  ⟨some (6, true), .assign (.tmp 44), 4, none, true⟩]
theorem pool_Write_r10_go {K : Env → Heap → Prop} {τ ρ : Env} {h : Heap} : vcOps Try.prog K pool_Write_r10 τ ρ h = vcOps Try.prog K [
  ⟨some (37, false), .fieldAddr 76 (.tmp 8) 0, 0, none, true⟩,
  ⟨some (38, false), .load 5 (.tmp 37), 5, none, true⟩,
  ⟨some (39, false), .binOp .eql 5 (.tmp 38) (.const (.int .u8 5)) 5, 4, none, true⟩,
  ⟨some (40, false), .move (.tmp 39), 4, none, true⟩,
  ⟨some (41, false), .fieldAddr 76 (.tmp 8) 0, 0, some (40, false), true⟩,
  ⟨some (42, false), .load 5 (.tmp 41), 5, some (40, false), true⟩,
  ⟨some (43, false), .binOp .eql 5 (.tmp 42) (.const (.int .u8 6)) 5, 4, some (40, false), true⟩,
  ⟨some (44, false), .pick (.tmp 40) (.const (.bool true)) (.tmp 43), 4, none, true⟩,
  ⟨some (6, true), .assign (.tmp 44), 4, none, true⟩] τ ρ h := _root_.id rfl
def pool_Write_r11 : List Sop := [
  ⟨some (45, false), .fieldAddr 76 (.tmp 8) 0, 0, none, true⟩,
  ⟨some (46, true), .load 5 (.tmp 45), 5, none, true⟩]
theorem pool_Write_r11_go {K : Env → Heap → Prop} {τ ρ : Env} {h : Heap} : vcOps Try.prog K pool_Write_r11 τ ρ h = vcOps Try.prog K [
  ⟨some (45, false), .fieldAddr 76 (.tmp 8) 0, 0, none, true⟩,
  ⟨some (46, true), .load 5 (.tmp 45), 5, none, true⟩] τ ρ h := _root_.id rfl
def pool_Write_r12 : List Sop := [
  ⟨some (49, false), .binOp .eql 5 (.tmp 46) (.const (.int .u8 0)) 5, 4, none, true⟩,
  ⟨some (48, true), .assign (.tmp 49), 4, none, true⟩]
theorem pool_Write_r12_go {K : Env → Heap → Prop} {τ ρ : Env} {h : Heap} : vcOps Try.prog K pool_Write_r12 τ ρ h = vcOps Try.prog K [
  ⟨some (49, false), .binOp .eql 5 (.tmp 46) (.const (.int .u8 0)) 5, 4, none, true⟩,
  ⟨some (48, true), .assign (.tmp 49), 4, none, true⟩] τ ρ h := _root_.id rfl
def pool_Write_r13 : List Sop := [
  ⟨some (51, false), .binOp .eql 5 (.tmp 46) (.const (.int .u8 1)) 5, 4, none, true⟩,
  ⟨some (50, true), .assign (.tmp 51), 4, none, true⟩]
theorem pool_Write_r13_go {K : Env → Heap → Prop} {τ ρ : Env} {h : Heap} : vcOps Try.prog K pool_Write_r13 τ ρ h = vcOps Try.prog K [
  ⟨some (51, false), .binOp .eql 5 (.tmp 46) (.const (.int .u8 1)) 5, 4, none, true⟩,
  ⟨some (50, true), .assign (.tmp 51), 4, none, true⟩] τ ρ h := _root_.id rfl
def pool_Write_r14 : List Sop := [
  ⟨some (53, false), .fieldAddr 76 (.tmp 8) 1, 0, none, true⟩,
  ⟨some (54, false), .load 9 (.tmp 53), 9, none, true⟩,
  ⟨some (55, false), .call { callee := .value (.func 73), args := #[.tmp 54], argTypes := #[9] }, 129, none, false⟩,
  ⟨some (52, false), .move (.tmp 55), 129, none, true⟩,
  ⟨some (56, false), .extract (.tmp 52) 0, 39, none, true⟩,
  ⟨some (57, false), .extract (.tmp 52) 1, 4, none, true⟩,
  ⟨some (9, false), .assign (.tmp 56), 39, none, true⟩,
  ⟨some (10, true), .assign (.tmp 57), 4, none, true⟩]
theorem pool_Write_r14_go {K : Env → Heap → Prop} {τ ρ : Env} {h : Heap} : vcOps Try.prog K pool_Write_r14 τ ρ h = vcOps Try.prog K [
  ⟨some (53, false), .fieldAddr 76 (.tmp 8) 1, 0, none, true⟩,
  ⟨some (54, false), .load 9 (.tmp 53), 9, none, true⟩,
  ⟨some (55, false), .call { callee := .value (.func 73), args := #[.tmp 54], argTypes := #[9] }, 129, none, false⟩,
  ⟨some (52, false), .move (.tmp 55), 129, none, true⟩,
  ⟨some (56, false), .extract (.tmp 52) 0, 39, none, true⟩,
  ⟨some (57, false), .extract (.tmp 52) 1, 4, none, true⟩,
  ⟨some (9, false), .assign (.tmp 56), 39, none, true⟩,
  ⟨some (10, true), .assign (.tmp 57), 4, none, true⟩] τ ρ h := _root_.id rfl
def pool_Write_r15 : List Sop := [
  ⟨some (58, false), .move (.tmp 10), 4, none, true⟩,
  ⟨some (59, true), .unOp .not 4 (.tmp 58), 4, none, true⟩]
theorem pool_Write_r15_go {K : Env → Heap → Prop} {τ ρ : Env} {h : Heap} : vcOps Try.prog K pool_Write_r15 τ ρ h = vcOps Try.prog K [
  ⟨some (58, false), .move (.tmp 10), 4, none, true⟩,
  ⟨some (59, true), .unOp .not 4 (.tmp 58), 4, none, true⟩] τ ρ h := _root_.id rfl
def pool_Write_r16 : List Sop := [
  ⟨some (60, false), .move (.tmp 7), 3, none, true⟩,
  ⟨some (2, true), .assign (.const (.string { data := #[] })), 9, none, true⟩,
  ⟨some (3, true), .assign (.const (.int .i64 6)), 27, none, true⟩,
  ⟨some (4, true), .assign (.tmp 60), 3, none, true⟩]
theorem pool_Write_r16_go {K : Env → Heap → Prop} {τ ρ : Env} {h : Heap} : vcOps Try.prog K pool_Write_r16 τ ρ h = vcOps Try.prog K [
  ⟨some (60, false), .move (.tmp 7), 3, none, true⟩,
  ⟨some (2, true), .assign (.const (.string { data := #[] })), 9, none, true⟩,
  ⟨some (3, true), .assign (.const (.int .i64 6)), 27, none, true⟩,
  ⟨some (4, true), .assign (.tmp 60), 3, none, true⟩] τ ρ h := _root_.id rfl
def pool_Write_r17 : List Sop := [
  ⟨some (61, false), .fieldAddr 76 (.tmp 8) 1, 0, none, true⟩,
  ⟨some (62, false), .load 9 (.tmp 61), 9, none, true⟩,
  ⟨some (63, false), .call { callee := .builtin .len, args := #[.tmp 62], argTypes := #[9] }, 3, none, true⟩,
  ⟨some (64, true), .binOp .gtr 3 (.tmp 63) (.const (.int .i64 65535)) 3, 4, none, true⟩]
theorem pool_Write_r17_go {K : Env → Heap → Prop} {τ ρ : Env} {h : Heap} : vcOps Try.prog K pool_Write_r17 τ ρ h = vcOps Try.prog K [
  ⟨some (61, false), .fieldAddr 76 (.tmp 8) 1, 0, none, true⟩,
  ⟨some (62, false), .load 9 (.tmp 61), 9, none, true⟩,
  ⟨some (63, false), .call { callee := .builtin .len, args := #[.tmp 62], argTypes := #[9] }, 3, none, true⟩,
  ⟨some (64, true), .binOp .gtr 3 (.tmp 63) (.const (.int .i64 65535)) 3, 4, none, true⟩] τ ρ h := _root_.id rfl
def pool_Write_r18 : List Sop := [
  ⟨some (65, false), .move (.tmp 7), 3, none, true⟩,
  ⟨some (2, true), .assign (.const (.string { data := #[] })), 9, none, true⟩,
  ⟨some (3, true), .assign (.const (.int .i64 12)), 27, none, true⟩,
  ⟨some (4, true), .assign (.tmp 65), 3, none, true⟩]
theorem pool_Write_r18_go {K : Env → Heap → Prop} {τ ρ : Env} {h : Heap} : vcOps Try.prog K pool_Write_r18 τ ρ h = vcOps Try.prog K [
  ⟨some (65, false), .move (.tmp 7), 3, none, true⟩,
  ⟨some (2, true), .assign (.const (.string { data := #[] })), 9, none, true⟩,
  ⟨some (3, true), .assign (.const (.int .i64 12)), 27, none, true⟩,
  ⟨some (4, true), .assign (.tmp 65), 3, none, true⟩] τ ρ h := _root_.id rfl
def pool_Write_r19 : List Sop := [
  ⟨some (66, false), .move (.tmp 5), 69, none, true⟩,
  ⟨some (67, false), .fieldAddr 76 (.tmp 8) 0, 0, none, true⟩,
  ⟨some (68, false), .load 5 (.tmp 67), 5, none, true⟩,
  ⟨some (69, false), .buildSlice 69 1 #[(0, .tmp 68)], 69, none, false⟩,
  ⟨some (70, false), .call { callee := .builtin .append, args := #[.tmp 66, .tmp 69], argTypes := #[69, 69] }, 69, none, false⟩,
  ⟨some (5, true), .assign (.tmp 70), 69, none, true⟩]
theorem pool_Write_r19_go {K : Env → Heap → Prop} {τ ρ : Env} {h : Heap} : vcOps Try.prog K pool_Write_r19 τ ρ h = vcOps Try.prog K [
  ⟨some (66, false), .move (.tmp 5), 69, none, true⟩,
  ⟨some (67, false), .fieldAddr 76 (.tmp 8) 0, 0, none, true⟩,
  ⟨some (68, false), .load 5 (.tmp 67), 5, none, true⟩,
  ⟨some (69, false), .buildSlice 69 1 #[(0, .tmp 68)], 69, none, false⟩,
  ⟨some (70, false), .call { callee := .builtin .append, args := #[.tmp 66, .tmp 69], argTypes := #[69, 69] }, 69, none, false⟩,
  ⟨some (5, true), .assign (.tmp 70), 69, none, true⟩] τ ρ h := _root_.id rfl
def pool_Write_r20 : List Sop := [
  ⟨some (71, false), .move (.tmp 5), 69, none, true⟩,
  ⟨some (72, false), .fieldAddr 76 (.tmp 8) 1, 0, none, true⟩,
  ⟨some (73, false), .load 9 (.tmp 72), 9, none, true⟩,
  ⟨some (74, false), .call { callee := .builtin .len, args := #[.tmp 73], argTypes := #[9] }, 3, none, true⟩,
  ⟨some (75, false), .convert 3 74 (.tmp 74), 74, none, true⟩,
  ⟨some (76, false), .call { callee := .value (.func 70), args := #[.tmp 75, .const (.int .i64 2)], argTypes := #[74, 3] }, 9, none, false⟩,
  ⟨some (77, false), .call { callee := .builtin .append, args := #[.tmp 71, .tmp 76], argTypes := #[69, 9] }, 69, none, false⟩,
  ⟨some (5, true), .assign (.tmp 77), 69, none, true⟩]
theorem pool_Write_r20_go {K : Env → Heap → Prop} {τ ρ : Env} {h : Heap} : vcOps Try.prog K pool_Write_r20 τ ρ h = vcOps Try.prog K [
  ⟨some (71, false), .move (.tmp 5), 69, none, true⟩,
  ⟨some (72, false), .fieldAddr 76 (.tmp 8) 1, 0, none, true⟩,
  ⟨some (73, false), .load 9 (.tmp 72), 9, none, true⟩,
  ⟨some (74, false), .call { callee := .builtin .len, args := #[.tmp 73], argTypes := #[9] }, 3, none, true⟩,
  ⟨some (75, false), .convert 3 74 (.tmp 74), 74, none, true⟩,
  ⟨some (76, false), .call { callee := .value (.func 70), args := #[.tmp 75, .const (.int .i64 2)], argTypes := #[74, 3] }, 9, none, false⟩,
  ⟨some (77, false), .call { callee := .builtin .append, args := #[.tmp 71, .tmp 76], argTypes := #[69, 9] }, 69, none, false⟩,
  ⟨some (5, true), .assign (.tmp 77), 69, none, true⟩] τ ρ h := _root_.id rfl
def pool_Write_r21 : List Sop := [
  ⟨some (78, false), .move (.tmp 5), 69, none, true⟩,
  ⟨some (79, false), .fieldAddr 76 (.tmp 8) 1, 0, none, true⟩,
  ⟨some (80, false), .load 9 (.tmp 79), 9, none, true⟩,
  ⟨some (81, false), .call { callee := .builtin .append, args := #[.tmp 78, .tmp 80], argTypes := #[69, 9] }, 69, none, false⟩,
  ⟨some (5, true), .assign (.tmp 81), 69, none, true⟩]
theorem pool_Write_r21_go {K : Env → Heap → Prop} {τ ρ : Env} {h : Heap} : vcOps Try.prog K pool_Write_r21 τ ρ h = vcOps Try.prog K [
  ⟨some (78, false), .move (.tmp 5), 69, none, true⟩,
  ⟨some (79, false), .fieldAddr 76 (.tmp 8) 1, 0, none, true⟩,
  ⟨some (80, false), .load 9 (.tmp 79), 9, none, true⟩,
  ⟨some (81, false), .call { callee := .builtin .append, args := #[.tmp 78, .tmp 80], argTypes := #[69, 9] }, 69, none, false⟩,
  ⟨some (5, true), .assign (.tmp 81), 69, none, true⟩] τ ρ h := _root_.id rfl
def pool_Write_r22 : List Sop := [
  ⟨some (83, false), .binOp .eql 5 (.tmp 46) (.const (.int .u8 3)) 5, 4, none, true⟩,
  ⟨some (82, true), .assign (.tmp 83), 4, none, true⟩]
theorem pool_Write_r22_go {K : Env → Heap → Prop} {τ ρ : Env} {h : Heap} : vcOps Try.prog K pool_Write_r22 τ ρ h = vcOps Try.prog K [
  ⟨some (83, false), .binOp .eql 5 (.tmp 46) (.const (.int .u8 3)) 5, 4, none, true⟩,
  ⟨some (82, true), .assign (.tmp 83), 4, none, true⟩] τ ρ h := _root_.id rfl
def pool_Write_r23 : List Sop := [
  ⟨some (84, false), .binOp .eql 5 (.tmp 46) (.const (.int .u8 4)) 5, 4, none, true⟩,
  ⟨some (82, true), .assign (.tmp 84), 4, none, true⟩]
theorem pool_Write_r23_go {K : Env → Heap → Prop} {τ ρ : Env} {h : Heap} : vcOps Try.prog K pool_Write_r23 τ ρ h = vcOps Try.prog K [
  ⟨some (84, false), .binOp .eql 5 (.tmp 46) (.const (.int .u8 4)) 5, 4, none, true⟩,
  ⟨some (82, true), .assign (.tmp 84), 4, none, true⟩] τ ρ h := _root_.id rfl
def pool_Write_r24 : List Sop := [
  ⟨some (85, false), .fieldAddr 76 (.tmp 8) 2, 0, none, true⟩,
  ⟨some (86, false), .load 74 (.tmp 85), 74, none, true⟩,
  ⟨some (87, false), .binOp .shr 74 (.tmp 86) (.const (.int .u64 32)) 121, 74, none, true⟩,
  ⟨some (88, true), .binOp .neq 74 (.tmp 87) (.const (.int .u64 0)) 74, 4, none, true⟩]
theorem pool_Write_r24_go {K : Env → Heap → Prop} {τ ρ : Env} {h : Heap} : vcOps Try.prog K pool_Write_r24 τ ρ h = vcOps Try.prog K [
  ⟨some (85, false), .fieldAddr 76 (.tmp 8) 2, 0, none, true⟩,
  ⟨some (86, false), .load 74 (.tmp 85), 74, none, true⟩,
  ⟨some (87, false), .binOp .shr 74 (.tmp 86) (.const (.int .u64 32)) 121, 74, none, true⟩,
  ⟨some (88, true), .binOp .neq 74 (.tmp 87) (.const (.int .u64 0)) 74, 4, none, true⟩] τ ρ h := _root_.id rfl
def pool_Write_r25 : List Sop := [
  ⟨some (89, false), .move (.tmp 7), 3, none, true⟩,
  ⟨some (2, true), .assign (.const (.string { data := #[] })), 9, none, true⟩,
  ⟨some (3, true), .assign (.const (.int .i64 12)), 27, none, true⟩,
  ⟨some (4, true), .assign (.tmp 89), 3, none, true⟩]
theorem pool_Write_r25_go {K : Env → Heap → Prop} {τ ρ : Env} {h : Heap} : vcOps Try.prog K pool_Write_r25 τ ρ h = vcOps Try.prog K [
  ⟨some (89, false), .move (.tmp 7), 3, none, true⟩,
  ⟨some (2, true), .assign (.const (.string { data := #[] })), 9, none, true⟩,
  ⟨some (3, true), .assign (.const (.int .i64 12)), 27, none, true⟩,
  ⟨some (4, true), .assign (.tmp 89), 3, none, true⟩] τ ρ h := _root_.id rfl
def pool_Write_r26 : List Sop := [
  ⟨some (90, false), .move (.tmp 5), 69, none, true⟩,
  ⟨some (91, false), .fieldAddr 76 (.tmp 8) 0, 0, none, true⟩,
  ⟨some (92, false), .load 5 (.tmp 91), 5, none, true⟩,
  ⟨some (93, false), .buildSlice 69 1 #[(0, .tmp 92)], 69, none, false⟩,
  ⟨some (94, false), .call { callee := .builtin .append, args := #[.tmp 90, .tmp 93], argTypes := #[69, 69] }, 69, none, false⟩,
  ⟨some (5, true), .assign (.tmp 94), 69, none, true⟩]
theorem pool_Write_r26_go {K : Env → Heap → Prop} {τ ρ : Env} {h : Heap} : vcOps Try.prog K pool_Write_r26 τ ρ h = vcOps Try.prog K [
  ⟨some (90, false), .move (.tmp 5), 69, none, true⟩,
  ⟨some (91, false), .fieldAddr 76 (.tmp 8) 0, 0, none, true⟩,
  ⟨some (92, false), .load 5 (.tmp 91), 5, none, true⟩,
  ⟨some (93, false), .buildSlice 69 1 #[(0, .tmp 92)], 69, none, false⟩,
  ⟨some (94, false), .call { callee := .builtin .append, args := #[.tmp 90, .tmp 93], argTypes := #[69, 69] }, 69, none, false⟩,
  ⟨some (5, true), .assign (.tmp 94), 69, none, true⟩] τ ρ h := _root_.id rfl
def pool_Write_r27 : List Sop := [
  ⟨some (95, false), .move (.tmp 5), 69, none, true⟩,
  ⟨some (96, false), .fieldAddr 76 (.tmp 8) 2, 0, none, true⟩,
  ⟨some (97, false), .load 74 (.tmp 96), 74, none, true⟩,
  ⟨some (98, false), .call { callee := .value (.func 70), args := #[.tmp 97, .const (.int .i64 4)], argTypes := #[74, 3] }, 9, none, false⟩,
  ⟨some (99, false), .call { callee := .builtin .append, args := #[.tmp 95, .tmp 98], argTypes := #[69, 9] }, 69, none, false⟩,
  ⟨some (5, true), .assign (.tmp 99), 69, none, true⟩]
theorem pool_Write_r27_go {K : Env → Heap → Prop} {τ ρ : Env} {h : Heap} : vcOps Try.prog K pool_Write_r27 τ ρ h = vcOps Try.prog K [
  ⟨some (95, false), .move (.tmp 5), 69, none, true⟩,
  ⟨some (96, false), .fieldAddr 76 (.tmp 8) 2, 0, none, true⟩,
  ⟨some (97, false), .load 74 (.tmp 96), 74, none, true⟩,
  ⟨some (98, false), .call { callee := .value (.func 70), args := #[.tmp 97, .const (.int .i64 4)], argTypes := #[74, 3] }, 9, none, false⟩,
  ⟨some (99, false), .call { callee := .builtin .append, args := #[.tmp 95, .tmp 98], argTypes := #[69, 9] }, 69, none, false⟩,
  ⟨some (5, true), .assign (.tmp 99), 69, none, true⟩] τ ρ h := _root_.id rfl
def pool_Write_r28 : List Sop := [
  ⟨some (101, false), .binOp .eql 5 (.tmp 46) (.const (.int .u8 5)) 5, 4, none, true⟩,
  ⟨some (100, true), .assign (.tmp 101), 4, none, true⟩]
theorem pool_Write_r28_go {K : Env → Heap → Prop} {τ ρ : Env} {h : Heap} : vcOps Try.prog K pool_Write_r28 τ ρ h = vcOps Try.prog K [
  ⟨some (101, false), .binOp .eql 5 (.tmp 46) (.const (.int .u8 5)) 5, 4, none, true⟩,
  ⟨some (100, true), .assign (.tmp 101), 4, none, true⟩] τ ρ h := _root_.id rfl
def pool_Write_r29 : List Sop := [
  ⟨some (102, false), .binOp .eql 5 (.tmp 46) (.const (.int .u8 6)) 5, 4, none, true⟩,
  ⟨some (100, true), .assign (.tmp 102), 4, none, true⟩]
theorem pool_Write_r29_go {K : Env → Heap → Prop} {τ ρ : Env} {h : Heap} : vcOps Try.prog K pool_Write_r29 τ ρ h = vcOps Try.prog K [
  ⟨some (102, false), .binOp .eql 5 (.tmp 46) (.const (.int .u8 6)) 5, 4, none, true⟩,
  ⟨some (100, true), .assign (.tmp 102), 4, none, true⟩] τ ρ h := _root_.id rfl
def pool_Write_r30 : List Sop := [
  ⟨some (103, false), .move (.tmp 5), 69, none, true⟩,
  ⟨some (104, false), .fieldAddr 76 (.tmp 8) 0, 0, none, true⟩,
  ⟨some (105, false), .load 5 (.tmp 104), 5, none, true⟩,
  ⟨some (106, false), .buildSlice 69 1 #[(0, .tmp 105)], 69, none, false⟩,
  ⟨some (107, false), .call { callee := .builtin .append, args := #[.tmp 103, .tmp 106], argTypes := #[69, 69] }, 69, none, false⟩,
  ⟨some (5, true), .assign (.tmp 107), 69, none, true⟩]
theorem pool_Write_r30_go {K : Env → Heap → Prop} {τ ρ : Env} {h : Heap} : vcOps Try.prog K pool_Write_r30 τ ρ h = vcOps Try.prog K [
  ⟨some (103, false), .move (.tmp 5), 69, none, true⟩,
  ⟨some (104, false), .fieldAddr 76 (.tmp 8) 0, 0, none, true⟩,
  ⟨some (105, false), .load 5 (.tmp 104), 5, none, true⟩,
  ⟨some (106, false), .buildSlice 69 1 #[(0, .tmp 105)], 69, none, false⟩,
  ⟨some (107, false), .call { callee := .builtin .append, args := #[.tmp 103, .tmp 106], argTypes := #[69, 69] }, 69, none, false⟩,
  ⟨some (5, true), .assign (.tmp 107), 69, none, true⟩] τ ρ h := _root_.id rfl
def pool_Write_r31 : List Sop := [
  ⟨some (108, false), .move (.tmp 5), 69, none, true⟩,
  ⟨some (109, false), .fieldAddr 76 (.tmp 8) 2, 0, none, true⟩,
  ⟨some (110, false), .load 74 (.tmp 109), 74, none, true⟩,
  ⟨some (111, false), .call { callee := .value (.func 70), args := #[.tmp 110, .const (.int .i64 8)], argTypes := #[74, 3] }, 9, none, false⟩,
  ⟨some (112, false), .call { callee := .builtin .append, args := #[.tmp 108, .tmp 111], argTypes := #[69, 9] }, 69, none, false⟩,
  ⟨some (5, true), .assign (.tmp 112), 69, none, true⟩]
theorem pool_Write_r31_go {K : Env → Heap → Prop} {τ ρ : Env} {h : Heap} : vcOps Try.prog K pool_Write_r31 τ ρ h = vcOps Try.prog K [
  ⟨some (108, false), .move (.tmp 5), 69, none, true⟩,
  ⟨some (109, false), .fieldAddr 76 (.tmp 8) 2, 0, none, true⟩,
  ⟨some (110, false), .load 74 (.tmp 109), 74, none, true⟩,
  ⟨some (111, false), .call { callee := .value (.func 70), args := #[.tmp 110, .const (.int .i64 8)], argTypes := #[74, 3] }, 9, none, false⟩,
  ⟨some (112, false), .call { callee := .builtin .append, args := #[.tmp 108, .tmp 111], argTypes := #[69, 9] }, 69, none, false⟩,
  ⟨some (5, true), .assign (.tmp 112), 69, none, true⟩] τ ρ h := _root_.id rfl
def pool_Write_r32 : List Sop := [
  ⟨some (114, false), .binOp .eql 5 (.tmp 46) (.const (.int .u8 7)) 5, 4, none, true⟩,
  ⟨some (113, true), .assign (.tmp 114), 4, none, true⟩]
theorem pool_Write_r32_go {K : Env → Heap → Prop} {τ ρ : Env} {h : Heap} : vcOps Try.prog K pool_Write_r32 τ ρ h = vcOps Try.prog K [
  ⟨some (114, false), .binOp .eql 5 (.tmp 46) (.const (.int .u8 7)) 5, 4, none, true⟩,
  ⟨some (113, true), .assign (.tmp 114), 4, none, true⟩] τ ρ h := _root_.id rfl
def pool_Write_r33 : List Sop := [
  ⟨some (115, false), .binOp .eql 5 (.tmp 46) (.const (.int .u8 8)) 5, 4, none, true⟩,
  ⟨some (113, true), .assign (.tmp 115), 4, none, true⟩]
theorem pool_Write_r33_go {K : Env → Heap → Prop} {τ ρ : Env} {h : Heap} : vcOps Try.prog K pool_Write_r33 τ ρ h = vcOps Try.prog K [
  ⟨some (115, false), .binOp .eql 5 (.tmp 46) (.const (.int .u8 8)) 5, 4, none, true⟩,
  ⟨some (113, true), .assign (.tmp 115), 4, none, true⟩] τ ρ h := _root_.id rfl
def pool_Write_r34 : List Sop := [
  ⟨some (116, false), .move (.tmp 5), 69, none, true⟩,
  ⟨some (117, false), .fieldAddr 76 (.tmp 8) 0, 0, none, true⟩,
  ⟨some (118, false), .load 5 (.tmp 117), 5, none, true⟩,
  ⟨some (119, false), .buildSlice 69 1 #[(0, .tmp 118)], 69, none, false⟩,
  ⟨some (120, false), .call { callee := .builtin .append, args := #[.tmp 116, .tmp 119], argTypes := #[69, 69] }, 69, none, false⟩,
  ⟨some (5, true), .assign (.tmp 120), 69, none, true⟩]
theorem pool_Write_r34_go {K : Env → Heap → Prop} {τ ρ : Env} {h : Heap} : vcOps Try.prog K pool_Write_r34 τ ρ h = vcOps Try.prog K [
  ⟨some (116, false), .move (.tmp 5), 69, none, true⟩,
  ⟨some (117, false), .fieldAddr 76 (.tmp 8) 0, 0, none, true⟩,
  ⟨some (118, false), .load 5 (.tmp 117), 5, none, true⟩,
  ⟨some (119, false), .buildSlice 69 1 #[(0, .tmp 118)], 69, none, false⟩,
  ⟨some (120, false), .call { callee := .builtin .append, args := #[.tmp 116, .tmp 119], argTypes := #[69, 69] }, 69, none, false⟩,
  ⟨some (5, true), .assign (.tmp 120), 69, none, true⟩] τ ρ h := _root_.id rfl
def pool_Write_r35 : List Sop := [
  ⟨some (121, false), .move (.tmp 5), 69, none, true⟩,
  ⟨some (122, false), .fieldAddr 76 (.tmp 8) 3, 0, none, true⟩,
  ⟨some (123, false), .load 38 (.tmp 122), 38, none, true⟩,
  ⟨some (124, false), .convert 38 74 (.tmp 123), 74, none, true⟩,
  ⟨some (125, false), .call { callee := .value (.func 70), args := #[.tmp 124, .const (.int .i64 2)], argTypes := #[74, 3] }, 9, none, false⟩,
  ⟨some (126, false), .call { callee := .builtin .append, args := #[.tmp 121, .tmp 125], argTypes := #[69, 9] }, 69, none, false⟩,
  ⟨some (5, true), .assign (.tmp 126), 69, none, true⟩]
theorem pool_Write_r35_go {K : Env → Heap → Prop} {τ ρ : Env} {h : Heap} : vcOps Try.prog K pool_Write_r35 τ ρ h = vcOps Try.prog K [
  ⟨some (121, false), .move (.tmp 5), 69, none, true⟩,
  ⟨some (122, false), .fieldAddr 76 (.tmp 8) 3, 0, none, true⟩,
  ⟨some (123, false), .load 38 (.tmp 122), 38, none, true⟩,
  ⟨some (124, false), .convert 38 74 (.tmp 123), 74, none, true⟩,
  ⟨some (125, false), .call { callee := .value (.func 70), args := #[.tmp 124, .const (.int .i64 2)], argTypes := #[74, 3] }, 9, none, false⟩,
  ⟨some (126, false), .call { callee := .builtin .append, args := #[.tmp 121, .tmp 125], argTypes := #[69, 9] }, 69, none, false⟩,
  ⟨some (5, true), .assign (.tmp 126), 69, none, true⟩] τ ρ h := _root_.id rfl
def pool_Write_r36 : List Sop := [
  ⟨some (128, false), .binOp .eql 5 (.tmp 46) (.const (.int .u8 9)) 5, 4, none, true⟩,
  ⟨some (127, true), .assign (.tmp 128), 4, none, true⟩]
theorem pool_Write_r36_go {K : Env → Heap → Prop} {τ ρ : Env} {h : Heap} : vcOps Try.prog K pool_Write_r36 τ ρ h = vcOps Try.prog K [
  ⟨some (128, false), .binOp .eql 5 (.tmp 46) (.const (.int .u8 9)) 5, 4, none, true⟩,
  ⟨some (127, true), .assign (.tmp 128), 4, none, true⟩] τ ρ h := _root_.id rfl
def pool_Write_r37 : List Sop := [
  ⟨some (129, false), .binOp .eql 5 (.tmp 46) (.const (.int .u8 10)) 5, 4, none, true⟩,
  ⟨some (127, true), .assign (.tmp 129), 4, none, true⟩]
theorem pool_Write_r37_go {K : Env → Heap → Prop} {τ ρ : Env} {h : Heap} : vcOps Try.prog K pool_Write_r37 τ ρ h = vcOps Try.prog K [
  ⟨some (129, false), .binOp .eql 5 (.tmp 46) (.const (.int .u8 10)) 5, 4, none, true⟩,
  ⟨some (127, true), .assign (.tmp 129), 4, none, true⟩] τ ρ h := _root_.id rfl
def pool_Write_r38 : List Sop := [
  ⟨some (130, false), .binOp .eql 5 (.tmp 46) (.const (.int .u8 11)) 5, 4, none, true⟩,
  ⟨some (127, true), .assign (.tmp 130), 4, none, true⟩]
theorem pool_Write_r38_go {K : Env → Heap → Prop} {τ ρ : Env} {h : Heap} : vcOps Try.prog K pool_Write_r38 τ ρ h = vcOps Try.prog K [
  ⟨some (130, false), .binOp .eql 5 (.tmp 46) (.const (.int .u8 11)) 5, 4, none, true⟩,
  ⟨some (127, true), .assign (.tmp 130), 4, none, true⟩] τ ρ h := _root_.id rfl
def pool_Write_r39 : List Sop := [
  ⟨some (131, false), .binOp .eql 5 (.tmp 46) (.const (.int .u8 12)) 5, 4, none, true⟩,
  ⟨some (127, true), .assign (.tmp 131), 4, none, true⟩]
theorem pool_Write_r39_go {K : Env → Heap → Prop} {τ ρ : Env} {h : Heap} : vcOps Try.prog K pool_Write_r39 τ ρ h = vcOps Try.prog K [
  ⟨some (131, false), .binOp .eql 5 (.tmp 46) (.const (.int .u8 12)) 5, 4, none, true⟩,
  ⟨some (127, true), .assign (.tmp 131), 4, none, true⟩] τ ρ h := _root_.id rfl
def pool_Write_r40 : List Sop := [
  ⟨some (132, false), .move (.tmp 5), 69, none, true⟩,
  ⟨some (133, false), .fieldAddr 76 (.tmp 8) 0, 0, none, true⟩,
  ⟨some (134, false), .load 5 (.tmp 133), 5, none, true⟩,
  ⟨some (135, false), .buildSlice 69 1 #[(0, .tmp 134)], 69, none, false⟩,
  ⟨some (136, false), .call { callee := .builtin .append, args := #[.tmp 132, .tmp 135], argTypes := #[69, 69] }, 69, none, false⟩,
  ⟨some (5, true), .assign (.tmp 136), 69, none, true⟩]
theorem pool_Write_r40_go {K : Env → Heap → Prop} {τ ρ : Env} {h : Heap} : vcOps Try.prog K pool_Write_r40 τ ρ h = vcOps Try.prog K [
  ⟨some (132, false), .move (.tmp 5), 69, none, true⟩,
  ⟨some (133, false), .fieldAddr 76 (.tmp 8) 0, 0, none, true⟩,
  ⟨some (134, false), .load 5 (.tmp 133), 5, none, true⟩,
  ⟨some (135, false), .buildSlice 69 1 #[(0, .tmp 134)], 69, none, false⟩,
  ⟨some (136, false), .call { callee := .builtin .append, args := #[.tmp 132, .tmp 135], argTypes := #[69, 69] }, 69, none, false⟩,
  ⟨some (5, true), .assign (.tmp 136), 69, none, true⟩] τ ρ h := _root_.id rfl
def pool_Write_r41 : List Sop := [
  ⟨some (137, false), .move (.tmp 5), 69, none, true⟩,
  ⟨some (138, false), .fieldAddr 76 (.tmp 8) 3, 0, none, true⟩,
  ⟨some (139, false), .load 38 (.tmp 138), 38, none, true⟩,
  ⟨some (140, false), .convert 38 74 (.tmp 139), 74, none, true⟩,
  ⟨some (141, false), .binOp .shl 74 (.tmp 140) (.const (.int .u64 16)) 121, 74, none, true⟩,
  ⟨some (142, false), .fieldAddr 76 (.tmp 8) 4, 0, none, true⟩,
  ⟨some (143, false), .load 38 (.tmp 142), 38, none, true⟩,
  ⟨some (144, false), .convert 38 74 (.tmp 143), 74, none, true⟩,
  ⟨some (145, false), .binOp .or 74 (.tmp 141) (.tmp 144) 74, 74, none, true⟩,
  ⟨some (146, false), .call { callee := .value (.func 70), args := #[.tmp 145, .const (.int .i64 4)], argTypes := #[74, 3] }, 9, none, false⟩,
  ⟨some (147, false), .call { callee := .builtin .append, args := #[.tmp 137, .tmp 146], argTypes := #[69, 9] }, 69, none, false⟩,
  ⟨some (5, true), .assign (.tmp 147), 69, none, true⟩]
theorem pool_Write_r41_go {K : Env → Heap → Prop} {τ ρ : Env} {h : Heap} : vcOps Try.prog K pool_Write_r41 τ ρ h = vcOps Try.prog K [
  ⟨some (137, false), .move (.tmp 5), 69, none, true⟩,
  ⟨some (138, false), .fieldAddr 76 (.tmp 8) 3, 0, none, true⟩,
  ⟨some (139, false), .load 38 (.tmp 138), 38, none, true⟩,
  ⟨some (140, false), .convert 38 74 (.tmp 139), 74, none, true⟩,
  ⟨some (141, false), .binOp .shl 74 (.tmp 140) (.const (.int .u64 16)) 121, 74, none, true⟩,
  ⟨some (142, false), .fieldAddr 76 (.tmp 8) 4, 0, none, true⟩,
  ⟨some (143, false), .load 38 (.tmp 142), 38, none, true⟩,
  ⟨some (144, false), .convert 38 74 (.tmp 143), 74, none, true⟩,
  ⟨some (145, false), .binOp .or 74 (.tmp 141) (.tmp 144) 74, 74, none, true⟩,
  ⟨some (146, false), .call { callee := .value (.func 70), args := #[.tmp 145, .const (.int .i64 4)], argTypes := #[74, 3] }, 9, none, false⟩,
  ⟨some (147, false), .call { callee := .builtin .append, args := #[.tmp 137, .tmp 146], argTypes := #[69, 9] }, 69, none, false⟩,
  ⟨some (5, true), .assign (.tmp 147), 69, none, true⟩] τ ρ h := _root_.id rfl
def pool_Write_r42 : List Sop := [
  ⟨some (47, false), .move (.tmp 7), 3, none, true⟩,
  ⟨some (2, true), .assign (.const (.string { data := #[] })), 9, none, true⟩,
  ⟨some (3, true), .assign (.const (.int .i64 5)), 27, none, true⟩,
  ⟨some (4, true), .assign (.tmp 47), 3, none, true⟩]
theorem pool_Write_r42_go {K : Env → Heap → Prop} {τ ρ : Env} {h : Heap} : vcOps Try.prog K pool_Write_r42 τ ρ h = vcOps Try.prog K [
  ⟨some (47, false), .move (.tmp 7), 3, none, true⟩,
  ⟨some (2, true), .assign (.const (.string { data := #[] })), 9, none, true⟩,
  ⟨some (3, true), .assign (.const (.int .i64 5)), 27, none, true⟩,
  ⟨some (4, true), .assign (.tmp 47), 3, none, true⟩] τ ρ h := _root_.id rfl
def pool_Write_r43 : List Sop := [
  ⟨some (148, false), .binOp .add 3 (.tmp 26) (.const (.int .i64 1)) 3, 3, none, true⟩,
  ⟨some (26, true), .move (.tmp 148), 3, none, true⟩]
theorem pool_Write_r43_go {K : Env → Heap → Prop} {τ ρ : Env} {h : Heap} : vcOps Try.prog K pool_Write_r43 τ ρ h = vcOps Try.prog K [
  ⟨some (148, false), .binOp .add 3 (.tmp 26) (.const (.int .i64 1)) 3, 3, none, true⟩,
  ⟨some (26, true), .move (.tmp 148), 3, none, true⟩] τ ρ h := _root_.id rfl
def pool_Write_r44 : List Sop := [
  ⟨some (149, true), .move (.tmp 6), 4, none, true⟩]
theorem pool_Write_r44_go {K : Env → Heap → Prop} {τ ρ : Env} {h : Heap} : vcOps Try.prog K pool_Write_r44 τ ρ h = vcOps Try.prog K [
  ⟨some (149, true), .move (.tmp 6), 4, none, true⟩] τ ρ h := _root_.id rfl
def pool_Write_r45 : List Sop := [
  ⟨some (150, false), .move (.tmp 0), 22, none, true⟩,
  ⟨some (151, false), .call { callee := .builtin .len, args := #[.tmp 150], argTypes := #[22] }, 3, none, true⟩,
  ⟨some (2, true), .assign (.const (.string { data := #[] })), 9, none, true⟩,
  ⟨some (3, true), .assign (.const (.int .i64 5)), 27, none, true⟩,
  ⟨some (4, true), .assign (.tmp 151), 3, none, true⟩]
theorem pool_Write_r45_go {K : Env → Heap → Prop} {τ ρ : Env} {h : Heap} : vcOps Try.prog K pool_Write_r45 τ ρ h = vcOps Try.prog K [
  ⟨some (150, false), .move (.tmp 0), 22, none, true⟩,
  ⟨some (151, false), .call { callee := .builtin .len, args := #[.tmp 150], argTypes := #[22] }, 3, none, true⟩,
  ⟨some (2, true), .assign (.const (.string { data := #[] })), 9, none, true⟩,
  ⟨some (3, true), .assign (.const (.int .i64 5)), 27, none, true⟩,
  ⟨some (4, true), .assign (.tmp 151), 3, none, true⟩] τ ρ h := _root_.id rfl
def pool_Write_r46 : List Sop := [
  ⟨some (152, false), .move (.tmp 5), 69, none, true⟩,
  ⟨some (153, false), .convert 69 9 (.tmp 152), 9, none, true⟩,
  ⟨some (2, true), .assign (.tmp 153), 9, none, true⟩,
  ⟨some (3, true), .assign (.const (.int .i64 0)), 27, none, true⟩,
  ⟨some (4, true), .assign (.const (.int .i64 0)), 3, none, true⟩]
theorem pool_Write_r46_go {K : Env → Heap → Prop} {τ ρ : Env} {h : Heap} : vcOps Try.prog K pool_Write_r46 τ ρ h = vcOps Try.prog K [
  ⟨some (152, false), .move (.tmp 5), 69, none, true⟩,
  ⟨some (153, false), .convert 69 9 (.tmp 152), 9, none, true⟩,
  ⟨some (2, true), .assign (.tmp 153), 9, none, true⟩,
  ⟨some (3, true), .assign (.const (.int .i64 0)), 27, none, true⟩,
  ⟨some (4, true), .assign (.const (.int .i64 0)), 3, none, true⟩] τ ρ h := _root_.id rfl
def pool_Write_l0 : Cd := .seq (.region pool_Write_r6) (.seq (.cond (.tmp 27) (.skip) (.exit 0)) (.seq (.block 1 (.seq (.region pool_Write_r7) (.seq (.seq (.region pool_Write_r8) (.cond (.tmp 35) (.seq (.region pool_Write_r9) (.ret)) (.skip))) (.seq (.region pool_Write_r10) (.seq (.region pool_Write_r11) (.block 2 (.seq (.region pool_Write_r12) (.cond (.tmp 48) (.exit 1) (.seq (.region pool_Write_r13) (.cond (.tmp 50) (.seq (.seq (.region pool_Write_r14) (.seq (.region pool_Write_r15) (.cond (.tmp 59) (.seq (.region pool_Write_r16) (.ret)) (.skip)))) (.seq (.seq (.region pool_Write_r17) (.cond (.tmp 64) (.seq (.region pool_Write_r18) (.ret)) (.skip))) (.seq (.region pool_Write_r19) (.seq (.region pool_Write_r20) (.region pool_Write_r21))))) (.seq (.seq (.region pool_Write_r22) (.cond (.tmp 82) (.skip) (.region pool_Write_r23))) (.cond (.tmp 82) (.seq (.seq (.region pool_Write_r24) (.cond (.tmp 88) (.seq (.region pool_Write_r25) (.ret)) (.skip))) (.seq (.region pool_Write_r26) (.region pool_Write_r27))) (.seq (.seq (.region pool_Write_r28) (.cond (.tmp 100) (.skip) (.region pool_Write_r29))) (.cond (.tmp 100) (.seq (.region pool_Write_r30) (.region pool_Write_r31)) (.seq (.seq (.region pool_Write_r32) (.cond (.tmp 113) (.skip) (.region pool_Write_r33))) (.cond (.tmp 113) (.seq (.region pool_Write_r34) (.region pool_Write_r35)) (.seq (.seq (.region pool_Write_r36) (.cond (.tmp 127) (.skip) (.seq (.region pool_Write_r37) (.cond (.tmp 127) (.skip) (.seq (.region pool_Write_r38) (.cond (.tmp 127) (.skip) (.region pool_Write_r39))))))) (.cond (.tmp 127) (.seq (.region pool_Write_r40) (.region pool_Write_r41)) (.seq (.region pool_Write_r42) (.ret)))))))))))))))))))) (.region pool_Write_r43)))
theorem pool_Write_l0_go {Q : Ex → Env → Heap → Prop} {ρ : Env} {h : Heap} : Cd.vc Try.prog pool_Write_l0 Q ρ h = Cd.vc Try.prog (.seq (.region pool_Write_r6) (.seq (.cond (.tmp 27) (.skip) (.exit 0)) (.seq (.block 1 (.seq (.region pool_Write_r7) (.seq (.seq (.region pool_Write_r8) (.cond (.tmp 35) (.seq (.region pool_Write_r9) (.ret)) (.skip))) (.seq (.region pool_Write_r10) (.seq (.region pool_Write_r11) (.block 2 (.seq (.region pool_Write_r12) (.cond (.tmp 48) (.exit 1) (.seq (.region pool_Write_r13) (.cond (.tmp 50) (.seq (.seq (.region pool_Write_r14) (.seq (.region pool_Write_r15) (.cond (.tmp 59) (.seq (.region pool_Write_r16) (.ret)) (.skip)))) (.seq (.seq (.region pool_Write_r17) (.cond (.tmp 64) (.seq (.region pool_Write_r18) (.ret)) (.skip))) (.seq (.region pool_Write_r19) (.seq (.region pool_Write_r20) (.region pool_Write_r21))))) (.seq (.seq (.region pool_Write_r22) (.cond (.tmp 82) (.skip) (.region pool_Write_r23))) (.cond (.tmp 82) (.seq (.seq (.region pool_Write_r24) (.cond (.tmp 88) (.seq (.region pool_Write_r25) (.ret)) (.skip))) (.seq (.region pool_Write_r26) (.region pool_Write_r27))) (.seq (.seq (.region pool_Write_r28) (.cond (.tmp 100) (.skip) (.region pool_Write_r29))) (.cond (.tmp 100) (.seq (.region pool_Write_r30) (.region pool_Write_r31)) (.seq (.seq (.region pool_Write_r32) (.cond (.tmp 113) (.skip) (.region pool_Write_r33))) (.cond (.tmp 113) (.seq (.region pool_Write_r34) (.region pool_Write_r35)) (.seq (.seq (.region pool_Write_r36) (.cond (.tmp 127) (.skip) (.seq (.region pool_Write_r37) (.cond (.tmp 127) (.skip) (.seq (.region pool_Write_r38) (.cond (.tmp 127) (.skip) (.region pool_Write_r39))))))) (.cond (.tmp 127) (.seq (.region pool_Write_r40) (.region pool_Write_r41)) (.seq (.region pool_Write_r42) (.ret)))))))))))))))))))) (.region pool_Write_r43)))) Q ρ h := _root_.id rfl
def pool_Write : Cd := .seq (.region pool_Write_r0) (.seq (.seq (.region pool_Write_r1) (.cond (.tmp 18) (.seq (.region pool_Write_r2) (.ret)) (.skip))) (.seq (.region pool_Write_r3) (.seq (.region pool_Write_r4) (.seq (.seq (.region pool_Write_r5) (.block 0 (.loop pool_Write_l0))) (.seq (.seq (.region pool_Write_r44) (.cond (.tmp 149) (.seq (.region pool_Write_r45) (.ret)) (.skip))) (.seq (.region pool_Write_r46) (.ret)))))))
theorem pool_Write_go {Q : Ex → Env → Heap → Prop} {ρ : Env} {h : Heap} : Cd.vc Try.prog pool_Write Q ρ h = Cd.vc Try.prog (.seq (.region pool_Write_r0) (.seq (.seq (.region pool_Write_r1) (.cond (.tmp 18) (.seq (.region pool_Write_r2) (.ret)) (.skip))) (.seq (.region pool_Write_r3) (.seq (.region pool_Write_r4) (.seq (.seq (.region pool_Write_r5) (.block 0 (.loop pool_Write_l0))) (.seq (.seq (.region pool_Write_r44) (.cond (.tmp 149) (.seq (.region pool_Write_r45) (.ret)) (.skip))) (.seq (.region pool_Write_r46) (.ret)))))))) Q ρ h := _root_.id rfl
theorem pool_Write_calls {args : List Value} {h : Heap} {R : Value → Heap → Prop} (hl : args.length = 1) (hv : Cd.vc Try.prog pool_Write (retQ Try.prog [(2, none), (3, none), (4, none)] R) (initEnv args [0, 2, 3, 4, 5, 6, 7, 8, 10, 18, 24, 25, 26, 27, 35, 46, 48, 50, 59, 64, 82, 88, 100, 113, 127, 149]) h) : HCalls Try.prog 40 args.toArray h R :=
  hcalls_of_vc (by kernel_rfl) Try.func40 (cd := pool_Write) (L := [0, 2, 3, 4, 5, 6, 7, 8, 10, 18, 24, 25, 26, 27, 35, 46, 48, 50, 59, 64, 82, 88, 100, 113, 127, 149]) (by kernel_rfl) (by kernel_rfl) ⟨by rw [hl, Try.ntmps40]; decide, by rw [Try.ntmps40]; decide⟩ hv
def pool_Write_gos := And.intro @pool_Write_go (And.intro @pool_Write_r0_go (And.intro @pool_Write_r1_go (And.intro @pool_Write_r2_go (And.intro @pool_Write_r3_go (And.intro @pool_Write_r4_go (And.intro @pool_Write_r5_go (And.intro @pool_Write_r6_go (And.intro @pool_Write_r7_go (And.intro @pool_Write_r8_go (And.intro @pool_Write_r9_go (And.intro @pool_Write_r10_go (And.intro @pool_Write_r11_go (And.intro @pool_Write_r12_go (And.intro @pool_Write_r13_go (And.intro @pool_Write_r14_go (And.intro @pool_Write_r15_go (And.intro @pool_Write_r16_go (And.intro @pool_Write_r17_go (And.intro @pool_Write_r18_go (And.intro @pool_Write_r19_go (And.intro @pool_Write_r20_go (And.intro @pool_Write_r21_go (And.intro @pool_Write_r22_go (And.intro @pool_Write_r23_go (And.intro @pool_Write_r24_go (And.intro @pool_Write_r25_go (And.intro @pool_Write_r26_go (And.intro @pool_Write_r27_go (And.intro @pool_Write_r28_go (And.intro @pool_Write_r29_go (And.intro @pool_Write_r30_go (And.intro @pool_Write_r31_go (And.intro @pool_Write_r32_go (And.intro @pool_Write_r33_go (And.intro @pool_Write_r34_go (And.intro @pool_Write_r35_go (And.intro @pool_Write_r36_go (And.intro @pool_Write_r37_go (And.intro @pool_Write_r38_go (And.intro @pool_Write_r39_go (And.intro @pool_Write_r40_go (And.intro @pool_Write_r41_go (And.intro @pool_Write_r42_go (And.intro @pool_Write_r43_go (And.intro @pool_Write_r44_go (And.intro @pool_Write_r45_go (And.intro @pool_Write_r46_go (@pool_Write_l0_go))))))))))))))))))))))))))))))))))))))))))))))))

end Go.Proofs.Ytohkbpnblkkdgaa.C
