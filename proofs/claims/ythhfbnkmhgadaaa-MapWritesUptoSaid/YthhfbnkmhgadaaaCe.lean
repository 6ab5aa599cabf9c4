/- The stripped code of some functions of this seat's program, printed by a program; that it is that code is proved by the kernel. No condition. -/

import Derived.Test.YthhfbnkmhgadaaaProg

import Derived.Test.YthhfbnkmhgadaaaVcH

set_option maxRecDepth 100000

set_option linter.defProp false

namespace Go.Proofs.Ythhfbnkmhgadaaa.C

open Go.Vc

/-! jvmcore/jvmcoreref3.WriteMap: function 9: slots [0, 1, 2, 6, 7, 8, 9, 10, 11, 12, 13, 14, 15, 16, 17, 18, 19, 20, 21, 22, 23, 26, 33, 34, 35, 36, 60, 91, 111, 130, 143, 165, 180, 210, 253] -/
def ref3_WriteMap_r0 : List Sop := [
  ⟨some (6, true), .assign (.const (.string { data := #[] })), 9, none, true⟩,
  ⟨some (7, true), .assign (.const (.int .i64 0)), 27, none, true⟩,
  ⟨some (8, true), .assign (.const (.int .i64 0)), 3, none, true⟩]
theorem ref3_WriteMap_r0_go {K : Env → Heap → Prop} {τ ρ : Env} {h : Heap} : vcOps Try.prog K ref3_WriteMap_r0 τ ρ h = vcOps Try.prog K [
  ⟨some (6, true), .assign (.const (.string { data := #[] })), 9, none, true⟩,
  ⟨some (7, true), .assign (.const (.int .i64 0)), 27, none, true⟩,
  ⟨some (8, true), .assign (.const (.int .i64 0)), 3, none, true⟩] τ ρ h := _root_.id rfl
def ref3_WriteMap_r1 : List Sop := [
  ⟨some (24, false), .move (.tmp 0), 22, none, true⟩,
  ⟨some (25, false), .call { callee := .builtin .len, args := #[.tmp 24], argTypes := #[22] }, 3, none, true⟩,
  ⟨some (26, true), .binOp .gtr 3 (.tmp 25) (.const (.int .i64 65535)) 3, 4, none, true⟩]
theorem ref3_WriteMap_r1_go {K : Env → Heap → Prop} {τ ρ : Env} {h : Heap} : vcOps Try.prog K ref3_WriteMap_r1 τ ρ h = vcOps Try.prog K [
  ⟨some (24, false), .move (.tmp 0), 22, none, true⟩,
  ⟨some (25, false), .call { callee := .builtin .len, args := #[.tmp 24], argTypes := #[22] }, 3, none, true⟩,
  ⟨some (26, true), .binOp .gtr 3 (.tmp 25) (.const (.int .i64 65535)) 3, 4, none, true⟩] τ ρ h := _root_.id rfl
def ref3_WriteMap_r2 : List Sop := [
  ⟨some (6, true), .assign (.const (.string { data := #[] })), 9, none, true⟩,
  ⟨some (7, true), .assign (.const (.int .i64 12)), 27, none, true⟩,
  ⟨some (8, true), .assign (.const (.int .i64 0)), 3, none, true⟩]
theorem ref3_WriteMap_r2_go {K : Env → Heap → Prop} {τ ρ : Env} {h : Heap} : vcOps Try.prog K ref3_WriteMap_r2 τ ρ h = vcOps Try.prog K [
  ⟨some (6, true), .assign (.const (.string { data := #[] })), 9, none, true⟩,
  ⟨some (7, true), .assign (.const (.int .i64 12)), 27, none, true⟩,
  ⟨some (8, true), .assign (.const (.int .i64 0)), 3, none, true⟩] τ ρ h := _root_.id rfl
def ref3_WriteMap_r3 : List Sop := [
  ⟨some (27, false), .move (.tmp 0), 22, none, true⟩,
  ⟨some (28, false), .call { callee := .builtin .len, args := #[.tmp 27], argTypes := #[22] }, 3, none, true⟩,
  ⟨some (29, false), .convert 3 49 (.tmp 28), 49, none, true⟩,
  ⟨some (30, false), .call { callee := .value (.func 18), args := #[.tmp 29, .const (.int .i64 2)], argTypes := #[49, 3] }, 9, none, false⟩,
  ⟨some (31, false), .convert 9 43 (.tmp 30), 43, none, false⟩,
  ⟨some (9, true), .assign (.tmp 31), 43, none, true⟩]
theorem ref3_WriteMap_r3_go {K : Env → Heap → Prop} {τ ρ : Env} {h : Heap} : vcOps Try.prog K ref3_WriteMap_r3 τ ρ h = vcOps Try.prog K [
  ⟨some (27, false), .move (.tmp 0), 22, none, true⟩,
  ⟨some (28, false), .call { callee := .builtin .len, args := #[.tmp 27], argTypes := #[22] }, 3, none, true⟩,
  ⟨some (29, false), .convert 3 49 (.tmp 28), 49, none, true⟩,
  ⟨some (30, false), .call { callee := .value (.func 18), args := #[.tmp 29, .const (.int .i64 2)], argTypes := #[49, 3] }, 9, none, false⟩,
  ⟨some (31, false), .convert 9 43 (.tmp 30), 43, none, false⟩,
  ⟨some (9, true), .assign (.tmp 31), 43, none, true⟩] τ ρ h := _root_.id rfl
def ref3_WriteMap_r4 : List Sop := [
  ⟨some (32, false), .move (.tmp 2), 24, none, true⟩,
  ⟨some (10, true), .assign (.tmp 32), 24, none, true⟩]
theorem ref3_WriteMap_r4_go {K : Env → Heap → Prop} {τ ρ : Env} {h : Heap} : vcOps Try.prog K ref3_WriteMap_r4 τ ρ h = vcOps Try.prog K [
  ⟨some (32, false), .move (.tmp 2), 24, none, true⟩,
  ⟨some (10, true), .assign (.tmp 32), 24, none, true⟩] τ ρ h := _root_.id rfl
def ref3_WriteMap_r5 : List Sop := [
  ⟨some (11, true), .assign (.const (.int .i64 (-1))), 3, none, true⟩]
theorem ref3_WriteMap_r5_go {K : Env → Heap → Prop} {τ ρ : Env} {h : Heap} : vcOps Try.prog K ref3_WriteMap_r5 τ ρ h = vcOps Try.prog K [
  ⟨some (11, true), .assign (.const (.int .i64 (-1))), 3, none, true⟩] τ ρ h := _root_.id rfl
def ref3_WriteMap_r6 : List Sop := [
  ⟨some (33, true), .move (.tmp 0), 22, none, true⟩,
  ⟨some (34, true), .call { callee := .builtin .len, args := #[.tmp 33], argTypes := #[22] }, 3, none, true⟩,
  ⟨some (35, true), .move (.const (.int .i64 0)), 3, none, true⟩]
theorem ref3_WriteMap_r6_go {K : Env → Heap → Prop} {τ ρ : Env} {h : Heap} : vcOps Try.prog K ref3_WriteMap_r6 τ ρ h = vcOps Try.prog K [
  ⟨some (33, true), .move (.tmp 0), 22, none, true⟩,
  ⟨some (34, true), .call { callee := .builtin .len, args := #[.tmp 33], argTypes := #[22] }, 3, none, true⟩,
  ⟨some (35, true), .move (.const (.int .i64 0)), 3, none, true⟩] τ ρ h := _root_.id rfl
def ref3_WriteMap_r7 : List Sop := [
  ⟨some (36, true), .binOp .lss 3 (.tmp 35) (.tmp 34) 3, 0, none, true⟩]
theorem ref3_WriteMap_r7_go {K : Env → Heap → Prop} {τ ρ : Env} {h : Heap} : vcOps Try.prog K ref3_WriteMap_r7 τ ρ h = vcOps Try.prog K [
  ⟨some (36, true), .binOp .lss 3 (.tmp 35) (.tmp 34) 3, 0, none, true⟩] τ ρ h := _root_.id rfl
def ref3_WriteMap_r8 : List Sop := [
  ⟨some (37, false), .move (.tmp 35), 3, none, true⟩,
  ⟨some (38, false), .indexAddr 22 (.tmp 33) (.tmp 35), 0, none, true⟩,
  ⟨some (39, false), .load 41 (.tmp 38), 41, none, true⟩,
  ⟨some (13, true), .alloc 41, 0, none, false⟩,
  ⟨some (12, true), .assign (.tmp 37), 3, none, true⟩,
  ⟨none, .store 41 (.tmp 13) (.tmp 39), 0, none, false⟩]
theorem ref3_WriteMap_r8_go {K : Env → Heap → Prop} {τ ρ : Env} {h : Heap} : vcOps Try.prog K ref3_WriteMap_r8 τ ρ h = vcOps Try.prog K [
  ⟨some (37, false), .move (.tmp 35), 3, none, true⟩,
  ⟨some (38, false), .indexAddr 22 (.tmp 33) (.tmp 35), 0, none, true⟩,
  ⟨some (39, false), .load 41 (.tmp 38), 41, none, true⟩,
  ⟨some (13, true), .alloc 41, 0, none, false⟩,
  ⟨some (12, true), .assign (.tmp 37), 3, none, true⟩,
  ⟨none, .store 41 (.tmp 13) (.tmp 39), 0, none, false⟩] τ ρ h := _root_.id rfl
def ref3_WriteMap_r9 : List Sop := [
  ⟨some (40, false), .fieldAddr 41 (.tmp 13) 0, 0, none, true⟩,
  ⟨some (41, false), .load 3 (.tmp 40), 3, none, true⟩,
  ⟨some (42, false), .move (.tmp 11), 3, none, true⟩,
  ⟨some (43, false), .binOp .leq 3 (.tmp 41) (.tmp 42) 3, 4, none, true⟩,
  ⟨some (44, false), .move (.tmp 43), 4, none, true⟩,
  ⟨some (45, false), .fieldAddr 41 (.tmp 13) 0, 0, some (44, false), true⟩,
  ⟨some (46, false), .load 3 (.tmp 45), 3, some (44, false), true⟩,
  ⟨some (47, false), .binOp .gtr 3 (.tmp 46) (.const (.int .i64 65535)) 3, 4, some (44, false), true⟩,
  ⟨some (48, false), .pick (.tmp 44) (.const (.bool true)) (.tmp 47), 4, none, true⟩,
  ⟨some (49, false), .move (.tmp 48), 4, none, true⟩,
  ⟨some (50, false), .fieldAddr 41 (.tmp 13) 1, 0, some (49, false), true⟩,
  ⟨some (51, false), .load 24 (.tmp 50), 24, some (49, false), true⟩,
  ⟨some (52, false), .call { callee := .builtin .len, args := #[.tmp 51], argTypes := #[24] }, 3, some (49, false), true⟩,
  ⟨some (53, false), .binOp .gtr 3 (.tmp 52) (.const (.int .i64 65535)) 3, 4, some (49, false), true⟩,
  ⟨some (54, false), .pick (.tmp 49) (.const (.bool true)) (.tmp 53), 4, none, true⟩,
  ⟨some (55, false), .move (.tmp 54), 4, none, true⟩,
  ⟨some (56, false), .fieldAddr 41 (.tmp 13) 2, 0, some (55, false), true⟩,
  ⟨some (57, false), .load 24 (.tmp 56), 24, some (55, false), true⟩,
  ⟨some (58, false), .call { callee := .builtin .len, args := #[.tmp 57], argTypes := #[24] }, 3, some (55, false), true⟩,
  ⟨some (59, false), .binOp .gtr 3 (.tmp 58) (.const (.int .i64 65535)) 3, 4, some (55, false), true⟩,
  ⟨some (60, true), .pick (.tmp 55) (.const (.bool true)) (.tmp 59), 4, none, true⟩]
theorem ref3_WriteMap_r9_go {K : Env → Heap → Prop} {τ ρ : Env} {h : Heap} : vcOps Try.prog K ref3_WriteMap_r9 τ ρ h = vcOps Try.prog K [
  ⟨some (40, false), .fieldAddr 41 (.tmp 13) 0, 0, none, true⟩,
  ⟨some (41, false), .load 3 (.tmp 40), 3, none, true⟩,
  ⟨some (42, false), .move (.tmp 11), 3, none, true⟩,
  ⟨some (43, false), .binOp .leq 3 (.tmp 41) (.tmp 42) 3, 4, none, true⟩,
  ⟨some (44, false), .move (.tmp 43), 4, none, true⟩,
  ⟨some (45, false), .fieldAddr 41 (.tmp 13) 0, 0, some (44, false), true⟩,
  ⟨some (46, false), .load 3 (.tmp 45), 3, some (44, false), true⟩,
  ⟨some (47, false), .binOp .gtr 3 (.tmp 46) (.const (.int .i64 65535)) 3, 4, some (44, false), true⟩,
  ⟨some (48, false), .pick (.tmp 44) (.const (.bool true)) (.tmp 47), 4, none, true⟩,
  ⟨some (49, false), .move (.tmp 48), 4, none, true⟩,
  ⟨some (50, false), .fieldAddr 41 (.tmp 13) 1, 0, some (49, false), true⟩,
  ⟨some (51, false), .load 24 (.tmp 50), 24, some (49, false), true⟩,
  ⟨some (52, false), .call { callee := .builtin .len, args := #[.tmp 51], argTypes := #[24] }, 3, some (49, false), true⟩,
  ⟨some (53, false), .binOp .gtr 3 (.tmp 52) (.const (.int .i64 65535)) 3, 4, some (49, false), true⟩,
  ⟨some (54, false), .pick (.tmp 49) (.const (.bool true)) (.tmp 53), 4, none, true⟩,
  ⟨some (55, false), .move (.tmp 54), 4, none, true⟩,
  ⟨some (56, false), .fieldAddr 41 (.tmp 13) 2, 0, some (55, false), true⟩,
  ⟨some (57, false), .load 24 (.tmp 56), 24, some (55, false), true⟩,
  ⟨some (58, false), .call { callee := .builtin .len, args := #[.tmp 57], argTypes := #[24] }, 3, some (55, false), true⟩,
  ⟨some (59, false), .binOp .gtr 3 (.tmp 58) (.const (.int .i64 65535)) 3, 4, some (55, false), true⟩,
  ⟨some (60, true), .pick (.tmp 55) (.const (.bool true)) (.tmp 59), 4, none, true⟩] τ ρ h := _root_.id rfl
def ref3_WriteMap_r10 : List Sop := [
  ⟨some (61, false), .move (.tmp 12), 3, none, true⟩,
  ⟨some (6, true), .assign (.const (.string { data := #[] })), 9, none, true⟩,
  ⟨some (7, true), .assign (.const (.int .i64 17)), 27, none, true⟩,
  ⟨some (8, true), .assign (.tmp 61), 3, none, true⟩]
theorem ref3_WriteMap_r10_go {K : Env → Heap → Prop} {τ ρ : Env} {h : Heap} : vcOps Try.prog K ref3_WriteMap_r10 τ ρ h = vcOps Try.prog K [
  ⟨some (61, false), .move (.tmp 12), 3, none, true⟩,
  ⟨some (6, true), .assign (.const (.string { data := #[] })), 9, none, true⟩,
  ⟨some (7, true), .assign (.const (.int .i64 17)), 27, none, true⟩,
  ⟨some (8, true), .assign (.tmp 61), 3, none, true⟩] τ ρ h := _root_.id rfl
def ref3_WriteMap_r11 : List Sop := [
  ⟨some (62, false), .fieldAddr 41 (.tmp 13) 0, 0, none, true⟩,
  ⟨some (63, false), .load 3 (.tmp 62), 3, none, true⟩,
  ⟨some (64, false), .move (.tmp 11), 3, none, true⟩,
  ⟨some (65, false), .binOp .sub 3 (.tmp 63) (.tmp 64) 3, 3, none, true⟩,
  ⟨some (66, false), .binOp .sub 3 (.tmp 65) (.const (.int .i64 1)) 3, 3, none, true⟩,
  ⟨some (14, true), .assign (.tmp 66), 3, none, true⟩]
theorem ref3_WriteMap_r11_go {K : Env → Heap → Prop} {τ ρ : Env} {h : Heap} : vcOps Try.prog K ref3_WriteMap_r11 τ ρ h = vcOps Try.prog K [
  ⟨some (62, false), .fieldAddr 41 (.tmp 13) 0, 0, none, true⟩,
  ⟨some (63, false), .load 3 (.tmp 62), 3, none, true⟩,
  ⟨some (64, false), .move (.tmp 11), 3, none, true⟩,
  ⟨some (65, false), .binOp .sub 3 (.tmp 63) (.tmp 64) 3, 3, none, true⟩,
  ⟨some (66, false), .binOp .sub 3 (.tmp 65) (.const (.int .i64 1)) 3, 3, none, true⟩,
  ⟨some (14, true), .assign (.tmp 66), 3, none, true⟩] τ ρ h := _root_.id rfl
def ref3_WriteMap_r12 : List Sop := [
  ⟨some (68, false), .fieldAddr 41 (.tmp 13) 2, 0, none, true⟩,
  ⟨some (69, false), .load 24 (.tmp 68), 24, none, true⟩,
  ⟨some (70, false), .move (.tmp 1), 23, none, true⟩,
  ⟨some (71, false), .call { callee := .value (.func 19), args := #[.tmp 69, .tmp 70], argTypes := #[24, 23] }, 50, none, false⟩,
  ⟨some (67, false), .move (.tmp 71), 50, none, true⟩,
  ⟨some (72, false), .extract (.tmp 67) 0, 9, none, true⟩,
  ⟨some (73, false), .extract (.tmp 67) 1, 27, none, true⟩,
  ⟨some (15, true), .assign (.tmp 72), 9, none, true⟩,
  ⟨some (16, true), .assign (.tmp 73), 27, none, true⟩]
theorem ref3_WriteMap_r12_go {K : Env → Heap → Prop} {τ ρ : Env} {h : Heap} : vcOps Try.prog K ref3_WriteMap_r12 τ ρ h = vcOps Try.prog K [
  ⟨some (68, false), .fieldAddr 41 (.tmp 13) 2, 0, none, true⟩,
  ⟨some (69, false), .load 24 (.tmp 68), 24, none, true⟩,
  ⟨some (70, false), .move (.tmp 1), 23, none, true⟩,
  ⟨some (71, false), .call { callee := .value (.func 19), args := #[.tmp 69, .tmp 70], argTypes := #[24, 23] }, 50, none, false⟩,
  ⟨some (67, false), .move (.tmp 71), 50, none, true⟩,
  ⟨some (72, false), .extract (.tmp 67) 0, 9, none, true⟩,
  ⟨some (73, false), .extract (.tmp 67) 1, 27, none, true⟩,
  ⟨some (15, true), .assign (.tmp 72), 9, none, true⟩,
  ⟨some (16, true), .assign (.tmp 73), 27, none, true⟩] τ ρ h := _root_.id rfl
def ref3_WriteMap_r13 : List Sop := [
  ⟨some (74, false), .fieldAddr 41 (.tmp 13) 1, 0, none, true⟩,
  ⟨some (75, false), .load 24 (.tmp 74), 24, none, true⟩,
  ⟨some (76, false), .call { callee := .builtin .len, args := #[.tmp 75], argTypes := #[24] }, 3, none, true⟩,
  ⟨some (77, false), .move (.tmp 10), 24, none, true⟩,
  ⟨some (78, false), .call { callee := .builtin .len, args := #[.tmp 77], argTypes := #[24] }, 3, none, true⟩,
  ⟨some (79, false), .binOp .sub 3 (.tmp 76) (.tmp 78) 3, 3, none, true⟩,
  ⟨some (17, true), .assign (.tmp 79), 3, none, true⟩]
theorem ref3_WriteMap_r13_go {K : Env → Heap → Prop} {τ ρ : Env} {h : Heap} : vcOps Try.prog K ref3_WriteMap_r13 τ ρ h = vcOps Try.prog K [
  ⟨some (74, false), .fieldAddr 41 (.tmp 13) 1, 0, none, true⟩,
  ⟨some (75, false), .load 24 (.tmp 74), 24, none, true⟩,
  ⟨some (76, false), .call { callee := .builtin .len, args := #[.tmp 75], argTypes := #[24] }, 3, none, true⟩,
  ⟨some (77, false), .move (.tmp 10), 24, none, true⟩,
  ⟨some (78, false), .call { callee := .builtin .len, args := #[.tmp 77], argTypes := #[24] }, 3, none, true⟩,
  ⟨some (79, false), .binOp .sub 3 (.tmp 76) (.tmp 78) 3, 3, none, true⟩,
  ⟨some (17, true), .assign (.tmp 79), 3, none, true⟩] τ ρ h := _root_.id rfl
def ref3_WriteMap_r14 : List Sop := [
  ⟨some (80, false), .move (.tmp 14), 3, none, true⟩,
  ⟨some (81, false), .convert 3 49 (.tmp 80), 49, none, true⟩,
  ⟨some (82, false), .call { callee := .value (.func 18), args := #[.tmp 81, .const (.int .i64 2)], argTypes := #[49, 3] }, 9, none, false⟩,
  ⟨some (18, true), .assign (.tmp 82), 9, none, true⟩]
theorem ref3_WriteMap_r14_go {K : Env → Heap → Prop} {τ ρ : Env} {h : Heap} : vcOps Try.prog K ref3_WriteMap_r14 τ ρ h = vcOps Try.prog K [
  ⟨some (80, false), .move (.tmp 14), 3, none, true⟩,
  ⟨some (81, false), .convert 3 49 (.tmp 80), 49, none, true⟩,
  ⟨some (82, false), .call { callee := .value (.func 18), args := #[.tmp 81, .const (.int .i64 2)], argTypes := #[49, 3] }, 9, none, false⟩,
  ⟨some (18, true), .assign (.tmp 82), 9, none, true⟩] τ ρ h := _root_.id rfl
def ref3_WriteMap_r15 : List Sop := [
  ⟨some (19, true), .assign (.const (.string { data := #[] })), 9, none, true⟩]
theorem ref3_WriteMap_r15_go {K : Env → Heap → Prop} {τ ρ : Env} {h : Heap} : vcOps Try.prog K ref3_WriteMap_r15 τ ρ h = vcOps Try.prog K [
  ⟨some (19, true), .assign (.const (.string { data := #[] })), 9, none, true⟩] τ ρ h := _root_.id rfl
def ref3_WriteMap_r16 : List Sop := [
  ⟨some (112, false), .fieldAddr 41 (.tmp 13) 1, 0, none, true⟩,
  ⟨some (113, false), .load 24 (.tmp 112), 24, none, true⟩,
  ⟨some (114, false), .move (.tmp 10), 24, none, true⟩,
  ⟨some (115, false), .call { callee := .value (.func 20), args := #[.tmp 113, .tmp 114], argTypes := #[24, 24] }, 4, none, false⟩,
  ⟨some (116, false), .move (.tmp 115), 4, none, true⟩,
  ⟨some (117, false), .fieldAddr 41 (.tmp 13) 2, 0, some (116, true), true⟩,
  ⟨some (118, false), .load 24 (.tmp 117), 24, some (116, true), true⟩,
  ⟨some (119, false), .call { callee := .builtin .len, args := #[.tmp 118], argTypes := #[24] }, 3, some (116, true), true⟩,
  ⟨some (120, false), .binOp .eql 3 (.tmp 119) (.const (.int .i64 0)) 3, 4, some (116, true), true⟩,
  ⟨some (121, false), .pick (.tmp 116) (.tmp 120) (.const (.bool false)), 4, none, true⟩,
  ⟨some (122, false), .move (.tmp 121), 4, none, true⟩,
  ⟨some (123, false), .move (.tmp 14), 3, some (122, true), true⟩,
  ⟨some (124, false), .binOp .lss 3 (.tmp 123) (.const (.int .i64 64)) 3, 4, some (122, true), true⟩,
  ⟨some (125, false), .pick (.tmp 122) (.tmp 124) (.const (.bool false)), 4, none, true⟩,
  ⟨some (111, true), .assign (.tmp 125), 4, none, true⟩]
theorem ref3_WriteMap_r16_go {K : Env → Heap → Prop} {τ ρ : Env} {h : Heap} : vcOps Try.prog K ref3_WriteMap_r16 τ ρ h = vcOps Try.prog K [
  ⟨some (112, false), .fieldAddr 41 (.tmp 13) 1, 0, none, true⟩,
  ⟨some (113, false), .load 24 (.tmp 112), 24, none, true⟩,
  ⟨some (114, false), .move (.tmp 10), 24, none, true⟩,
  ⟨some (115, false), .call { callee := .value (.func 20), args := #[.tmp 113, .tmp 114], argTypes := #[24, 24] }, 4, none, false⟩,
  ⟨some (116, false), .move (.tmp 115), 4, none, true⟩,
  ⟨some (117, false), .fieldAddr 41 (.tmp 13) 2, 0, some (116, true), true⟩,
  ⟨some (118, false), .load 24 (.tmp 117), 24, some (116, true), true⟩,
  ⟨some (119, false), .call { callee := .builtin .len, args := #[.tmp 118], argTypes := #[24] }, 3, some (116, true), true⟩,
  ⟨some (120, false), .binOp .eql 3 (.tmp 119) (.const (.int .i64 0)) 3, 4, some (116, true), true⟩,
  ⟨some (121, false), .pick (.tmp 116) (.tmp 120) (.const (.bool false)), 4, none, true⟩,
  ⟨some (122, false), .move (.tmp 121), 4, none, true⟩,
  ⟨some (123, false), .move (.tmp 14), 3, some (122, true), true⟩,
  ⟨some (124, false), .binOp .lss 3 (.tmp 123) (.const (.int .i64 64)) 3, 4, some (122, true), true⟩,
  ⟨some (125, false), .pick (.tmp 122) (.tmp 124) (.const (.bool false)), 4, none, true⟩,
  ⟨some (111, true), .assign (.tmp 125), 4, none, true⟩] τ ρ h := _root_.id rfl
def ref3_WriteMap_r17 : List Sop := [
  ⟨some (126, false), .move (.tmp 14), 3, none, true⟩,
  ⟨some (127, false), .convert 3 5 (.tmp 126), 5, none, true⟩,
  ⟨some (128, false), .buildSlice 43 1 #[(0, .tmp 127)], 43, none, false⟩,
  ⟨some (129, false), .convert 43 9 (.tmp 128), 9, none, true⟩,
  ⟨some (19, true), .assign (.tmp 129), 9, none, true⟩]
theorem ref3_WriteMap_r17_go {K : Env → Heap → Prop} {τ ρ : Env} {h : Heap} : vcOps Try.prog K ref3_WriteMap_r17 τ ρ h = vcOps Try.prog K [
  ⟨some (126, false), .move (.tmp 14), 3, none, true⟩,
  ⟨some (127, false), .convert 3 5 (.tmp 126), 5, none, true⟩,
  ⟨some (128, false), .buildSlice 43 1 #[(0, .tmp 127)], 43, none, false⟩,
  ⟨some (129, false), .convert 43 9 (.tmp 128), 9, none, true⟩,
  ⟨some (19, true), .assign (.tmp 129), 9, none, true⟩] τ ρ h := _root_.id rfl
def ref3_WriteMap_r18 : List Sop := [
  ⟨some (131, false), .fieldAddr 41 (.tmp 13) 1, 0, none, true⟩,
  ⟨some (132, false), .load 24 (.tmp 131), 24, none, true⟩,
  ⟨some (133, false), .move (.tmp 10), 24, none, true⟩,
  ⟨some (134, false), .call { callee := .value (.func 20), args := #[.tmp 132, .tmp 133], argTypes := #[24, 24] }, 4, none, false⟩,
  ⟨some (135, false), .move (.tmp 134), 4, none, true⟩,
  ⟨some (136, false), .fieldAddr 41 (.tmp 13) 2, 0, some (135, true), true⟩,
  ⟨some (137, false), .load 24 (.tmp 136), 24, some (135, true), true⟩,
  ⟨some (138, false), .call { callee := .builtin .len, args := #[.tmp 137], argTypes := #[24] }, 3, some (135, true), true⟩,
  ⟨some (139, false), .binOp .eql 3 (.tmp 138) (.const (.int .i64 0)) 3, 4, some (135, true), true⟩,
  ⟨some (140, false), .pick (.tmp 135) (.tmp 139) (.const (.bool false)), 4, none, true⟩,
  ⟨some (130, true), .assign (.tmp 140), 4, none, true⟩]
theorem ref3_WriteMap_r18_go {K : Env → Heap → Prop} {τ ρ : Env} {h : Heap} : vcOps Try.prog K ref3_WriteMap_r18 τ ρ h = vcOps Try.prog K [
  ⟨some (131, false), .fieldAddr 41 (.tmp 13) 1, 0, none, true⟩,
  ⟨some (132, false), .load 24 (.tmp 131), 24, none, true⟩,
  ⟨some (133, false), .move (.tmp 10), 24, none, true⟩,
  ⟨some (134, false), .call { callee := .value (.func 20), args := #[.tmp 132, .tmp 133], argTypes := #[24, 24] }, 4, none, false⟩,
  ⟨some (135, false), .move (.tmp 134), 4, none, true⟩,
  ⟨some (136, false), .fieldAddr 41 (.tmp 13) 2, 0, some (135, true), true⟩,
  ⟨some (137, false), .load 24 (.tmp 136), 24, some (135, true), true⟩,
  ⟨some (138, false), .call { callee := .builtin .len, args := #[.tmp 137], argTypes := #[24] }, 3, some (135, true), true⟩,
  ⟨some (139, false), .binOp .eql 3 (.tmp 138) (.const (.int .i64 0)) 3, 4, some (135, true), true⟩,
  ⟨some (140, false), .pick (.tmp 135) (.tmp 139) (.const (.bool false)), 4, none, true⟩,
  ⟨some (130, true), .assign (.tmp 140), 4, none, true⟩] τ ρ h := _root_.id rfl
def ref3_WriteMap_r19 : List Sop := [
  ⟨some (141, false), .move (.tmp 18), 9, none, true⟩,
  ⟨some (142, false), .binOp .add 9 (.const (.string { data := #[251] })) (.tmp 141) 9, 9, none, true⟩,
  ⟨some (19, true), .assign (.tmp 142), 9, none, true⟩]
theorem ref3_WriteMap_r19_go {K : Env → Heap → Prop} {τ ρ : Env} {h : Heap} : vcOps Try.prog K ref3_WriteMap_r19 τ ρ h = vcOps Try.prog K [
  ⟨some (141, false), .move (.tmp 18), 9, none, true⟩,
  ⟨some (142, false), .binOp .add 9 (.const (.string { data := #[251] })) (.tmp 141) 9, 9, none, true⟩,
  ⟨some (19, true), .assign (.tmp 142), 9, none, true⟩] τ ρ h := _root_.id rfl
def ref3_WriteMap_r20 : List Sop := [
  ⟨some (144, false), .fieldAddr 41 (.tmp 13) 1, 0, none, true⟩,
  ⟨some (145, false), .load 24 (.tmp 144), 24, none, true⟩,
  ⟨some (146, false), .move (.tmp 10), 24, none, true⟩,
  ⟨some (147, false), .call { callee := .value (.func 20), args := #[.tmp 145, .tmp 146], argTypes := #[24, 24] }, 4, none, false⟩,
  ⟨some (148, false), .move (.tmp 147), 4, none, true⟩,
  ⟨some (149, false), .fieldAddr 41 (.tmp 13) 2, 0, some (148, true), true⟩,
  ⟨some (150, false), .load 24 (.tmp 149), 24, some (148, true), true⟩,
  ⟨some (151, false), .call { callee := .builtin .len, args := #[.tmp 150], argTypes := #[24] }, 3, some (148, true), true⟩,
  ⟨some (152, false), .binOp .eql 3 (.tmp 151) (.const (.int .i64 1)) 3, 4, some (148, true), true⟩,
  ⟨some (153, false), .pick (.tmp 148) (.tmp 152) (.const (.bool false)), 4, none, true⟩,
  ⟨some (154, false), .move (.tmp 153), 4, none, true⟩,
  ⟨some (155, false), .move (.tmp 14), 3, some (154, true), true⟩,
  ⟨some (156, false), .binOp .lss 3 (.tmp 155) (.const (.int .i64 64)) 3, 4, some (154, true), true⟩,
  ⟨some (157, false), .pick (.tmp 154) (.tmp 156) (.const (.bool false)), 4, none, true⟩,
  ⟨some (143, true), .assign (.tmp 157), 4, none, true⟩]
theorem ref3_WriteMap_r20_go {K : Env → Heap → Prop} {τ ρ : Env} {h : Heap} : vcOps Try.prog K ref3_WriteMap_r20 τ ρ h = vcOps Try.prog K [
  ⟨some (144, false), .fieldAddr 41 (.tmp 13) 1, 0, none, true⟩,
  ⟨some (145, false), .load 24 (.tmp 144), 24, none, true⟩,
  ⟨some (146, false), .move (.tmp 10), 24, none, true⟩,
  ⟨some (147, false), .call { callee := .value (.func 20), args := #[.tmp 145, .tmp 146], argTypes := #[24, 24] }, 4, none, false⟩,
  ⟨some (148, false), .move (.tmp 147), 4, none, true⟩,
  ⟨some (149, false), .fieldAddr 41 (.tmp 13) 2, 0, some (148, true), true⟩,
  ⟨some (150, false), .load 24 (.tmp 149), 24, some (148, true), true⟩,
  ⟨some (151, false), .call { callee := .builtin .len, args := #[.tmp 150], argTypes := #[24] }, 3, some (148, true), true⟩,
  ⟨some (152, false), .binOp .eql 3 (.tmp 151) (.const (.int .i64 1)) 3, 4, some (148, true), true⟩,
  ⟨some (153, false), .pick (.tmp 148) (.tmp 152) (.const (.bool false)), 4, none, true⟩,
  ⟨some (154, false), .move (.tmp 153), 4, none, true⟩,
  ⟨some (155, false), .move (.tmp 14), 3, some (154, true), true⟩,
  ⟨some (156, false), .binOp .lss 3 (.tmp 155) (.const (.int .i64 64)) 3, 4, some (154, true), true⟩,
  ⟨some (157, false), .pick (.tmp 154) (.tmp 156) (.const (.bool false)), 4, none, true⟩,
  ⟨some (143, true), .assign (.tmp 157), 4, none, true⟩] τ ρ h := _root_.id rfl
def ref3_WriteMap_r21 : List Sop := [
  ⟨some (158, false), .move (.tmp 14), 3, none, true⟩,
  ⟨some (159, false), .binOp .add 3 (.const (.int .i64 64)) (.tmp 158) 3, 3, none, true⟩,
  ⟨some (160, false), .convert 3 5 (.tmp 159), 5, none, true⟩,
  ⟨some (161, false), .buildSlice 43 1 #[(0, .tmp 160)], 43, none, false⟩,
  ⟨some (162, false), .convert 43 9 (.tmp 161), 9, none, true⟩,
  ⟨some (163, false), .move (.tmp 15), 9, none, true⟩,
  ⟨some (164, false), .binOp .add 9 (.tmp 162) (.tmp 163) 9, 9, none, true⟩,
  ⟨some (19, true), .assign (.tmp 164), 9, none, true⟩]
theorem ref3_WriteMap_r21_go {K : Env → Heap → Prop} {τ ρ : Env} {h : Heap} : vcOps Try.prog K ref3_WriteMap_r21 τ ρ h = vcOps Try.prog K [
  ⟨some (158, false), .move (.tmp 14), 3, none, true⟩,
  ⟨some (159, false), .binOp .add 3 (.const (.int .i64 64)) (.tmp 158) 3, 3, none, true⟩,
  ⟨some (160, false), .convert 3 5 (.tmp 159), 5, none, true⟩,
  ⟨some (161, false), .buildSlice 43 1 #[(0, .tmp 160)], 43, none, false⟩,
  ⟨some (162, false), .convert 43 9 (.tmp 161), 9, none, true⟩,
  ⟨some (163, false), .move (.tmp 15), 9, none, true⟩,
  ⟨some (164, false), .binOp .add 9 (.tmp 162) (.tmp 163) 9, 9, none, true⟩,
  ⟨some (19, true), .assign (.tmp 164), 9, none, true⟩] τ ρ h := _root_.id rfl
def ref3_WriteMap_r22 : List Sop := [
  ⟨some (166, false), .fieldAddr 41 (.tmp 13) 1, 0, none, true⟩,
  ⟨some (167, false), .load 24 (.tmp 166), 24, none, true⟩,
  ⟨some (168, false), .move (.tmp 10), 24, none, true⟩,
  ⟨some (169, false), .call { callee := .value (.func 20), args := #[.tmp 167, .tmp 168], argTypes := #[24, 24] }, 4, none, false⟩,
  ⟨some (170, false), .move (.tmp 169), 4, none, true⟩,
  ⟨some (171, false), .fieldAddr 41 (.tmp 13) 2, 0, some (170, true), true⟩,
  ⟨some (172, false), .load 24 (.tmp 171), 24, some (170, true), true⟩,
  ⟨some (173, false), .call { callee := .builtin .len, args := #[.tmp 172], argTypes := #[24] }, 3, some (170, true), true⟩,
  ⟨some (174, false), .binOp .eql 3 (.tmp 173) (.const (.int .i64 1)) 3, 4, some (170, true), true⟩,
  ⟨some (175, false), .pick (.tmp 170) (.tmp 174) (.const (.bool false)), 4, none, true⟩,
  ⟨some (165, true), .assign (.tmp 175), 4, none, true⟩]
theorem ref3_WriteMap_r22_go {K : Env → Heap → Prop} {τ ρ : Env} {h : Heap} : vcOps Try.prog K ref3_WriteMap_r22 τ ρ h = vcOps Try.prog K [
  ⟨some (166, false), .fieldAddr 41 (.tmp 13) 1, 0, none, true⟩,
  ⟨some (167, false), .load 24 (.tmp 166), 24, none, true⟩,
  ⟨some (168, false), .move (.tmp 10), 24, none, true⟩,
  ⟨some (169, false), .call { callee := .value (.func 20), args := #[.tmp 167, .tmp 168], argTypes := #[24, 24] }, 4, none, false⟩,
  ⟨some (170, false), .move (.tmp 169), 4, none, true⟩,
  ⟨some (171, false), .fieldAddr 41 (.tmp 13) 2, 0, some (170, true), true⟩,
  ⟨some (172, false), .load 24 (.tmp 171), 24, some (170, true), true⟩,
  ⟨some (173, false), .call { callee := .builtin .len, args := #[.tmp 172], argTypes := #[24] }, 3, some (170, true), true⟩,
  ⟨some (174, false), .binOp .eql 3 (.tmp 173) (.const (.int .i64 1)) 3, 4, some (170, true), true⟩,
  ⟨some (175, false), .pick (.tmp 170) (.tmp 174) (.const (.bool false)), 4, none, true⟩,
  ⟨some (165, true), .assign (.tmp 175), 4, none, true⟩] τ ρ h := _root_.id rfl
def ref3_WriteMap_r23 : List Sop := [
  ⟨some (176, false), .move (.tmp 18), 9, none, true⟩,
  ⟨some (177, false), .binOp .add 9 (.const (.string { data := #[247] })) (.tmp 176) 9, 9, none, true⟩,
  ⟨some (178, false), .move (.tmp 15), 9, none, true⟩,
  ⟨some (179, false), .binOp .add 9 (.tmp 177) (.tmp 178) 9, 9, none, true⟩,
  ⟨some (19, true), .assign (.tmp 179), 9, none, true⟩]
theorem ref3_WriteMap_r23_go {K : Env → Heap → Prop} {τ ρ : Env} {h : Heap} : vcOps Try.prog K ref3_WriteMap_r23 τ ρ h = vcOps Try.prog K [
  ⟨some (176, false), .move (.tmp 18), 9, none, true⟩,
  ⟨some (177, false), .binOp .add 9 (.const (.string { data := #[247] })) (.tmp 176) 9, 9, none, true⟩,
  ⟨some (178, false), .move (.tmp 15), 9, none, true⟩,
  ⟨some (179, false), .binOp .add 9 (.tmp 177) (.tmp 178) 9, 9, none, true⟩,
  ⟨some (19, true), .assign (.tmp 179), 9, none, true⟩] τ ρ h := _root_.id rfl
def ref3_WriteMap_r24 : List (Sop × List Sop) := [
  (⟨some (181, false), .move (.tmp 17), 3, none, true⟩, []),
  (⟨some (182, false), .binOp .lss 3 (.tmp 181) (.const (.int .i64 0)) 3, 4, none, true⟩, []),
  (⟨some (183, false), .move (.tmp 182), 4, none, true⟩, []),
  (⟨some (184, false), .move (.tmp 17), 3, some (183, true), true⟩, []),
  (⟨some (185, false), .binOp .geq 3 (.tmp 184) (.const (.int .i64 (-3))) 3, 4, some (183, true), true⟩, []),
  (⟨some (186, false), .pick (.tmp 183) (.tmp 185) (.const (.bool false)), 4, none, true⟩, []),
  (⟨some (187, false), .move (.tmp 186), 4, none, true⟩, []),
  (⟨some (188, false), .fieldAddr 41 (.tmp 13) 1, 0, some (187, true), true⟩, []),
  (⟨some (189, false), .load 24 (.tmp 188), 24, some (187, true), true⟩, []),
  (⟨some (190, false), .move (.tmp 10), 24, some (187, true), true⟩, []),
  (⟨some (191, false), .fieldAddr 41 (.tmp 13) 1, 0, some (187, true), true⟩, []),
  (⟨some (192, false), .load 24 (.tmp 191), 24, some (187, true), true⟩, []),
  (⟨some (193, false), .call { callee := .builtin .len, args := #[.tmp 192], argTypes := #[24] }, 3, some (187, true), true⟩, []),
  (⟨some (194, false), .slice 24 (.tmp 190) none (some (.tmp 193)) none, 24, some (187, true), true⟩, []),
  (⟨some (195, false), .call { callee := .value (.func 20), args := #[.tmp 189, .tmp 194], argTypes := #[24, 24] }, 4, some (187, true), false⟩, []),
  (⟨some (196, false), .pick (.tmp 187) (.tmp 195) (.const (.bool false)), 4, none, true⟩, []),
  (⟨some (197, false), .move (.tmp 196), 4, none, true⟩, []),
  (⟨some (198, false), .fieldAddr 41 (.tmp 13) 2, 0, some (197, true), true⟩, []),
  (⟨some (199, false), .load 24 (.tmp 198), 24, some (197, true), true⟩, []),
  (⟨some (200, false), .call { callee := .builtin .len, args := #[.tmp 199], argTypes := #[24] }, 3, some (197, true), true⟩, []),
  (⟨some (201, false), .binOp .eql 3 (.tmp 200) (.const (.int .i64 0)) 3, 4, some (197, true), true⟩, []),
  (⟨some (202, false), .pick (.tmp 197) (.tmp 201) (.const (.bool false)), 4, none, true⟩, []),
  (⟨some (180, true), .assign (.tmp 202), 4, none, true⟩, [])]
theorem ref3_WriteMap_r24_go {K : Env → Heap → Prop} {τ ρ : Env} {h : Heap} : vcDraw Try.prog K ref3_WriteMap_r24 τ ρ h = vcDraw Try.prog K [
  (⟨some (181, false), .move (.tmp 17), 3, none, true⟩, []),
  (⟨some (182, false), .binOp .lss 3 (.tmp 181) (.const (.int .i64 0)) 3, 4, none, true⟩, []),
  (⟨some (183, false), .move (.tmp 182), 4, none, true⟩, []),
  (⟨some (184, false), .move (.tmp 17), 3, some (183, true), true⟩, []),
  (⟨some (185, false), .binOp .geq 3 (.tmp 184) (.const (.int .i64 (-3))) 3, 4, some (183, true), true⟩, []),
  (⟨some (186, false), .pick (.tmp 183) (.tmp 185) (.const (.bool false)), 4, none, true⟩, []),
  (⟨some (187, false), .move (.tmp 186), 4, none, true⟩, []),
  (⟨some (188, false), .fieldAddr 41 (.tmp 13) 1, 0, some (187, true), true⟩, []),
  (⟨some (189, false), .load 24 (.tmp 188), 24, some (187, true), true⟩, []),
  (⟨some (190, false), .move (.tmp 10), 24, some (187, true), true⟩, []),
  (⟨some (191, false), .fieldAddr 41 (.tmp 13) 1, 0, some (187, true), true⟩, []),
  (⟨some (192, false), .load 24 (.tmp 191), 24, some (187, true), true⟩, []),
  (⟨some (193, false), .call { callee := .builtin .len, args := #[.tmp 192], argTypes := #[24] }, 3, some (187, true), true⟩, []),
  (⟨some (194, false), .slice 24 (.tmp 190) none (some (.tmp 193)) none, 24, some (187, true), true⟩, []),
  (⟨some (195, false), .call { callee := .value (.func 20), args := #[.tmp 189, .tmp 194], argTypes := #[24, 24] }, 4, some (187, true), false⟩, []),
  (⟨some (196, false), .pick (.tmp 187) (.tmp 195) (.const (.bool false)), 4, none, true⟩, []),
  (⟨some (197, false), .move (.tmp 196), 4, none, true⟩, []),
  (⟨some (198, false), .fieldAddr 41 (.tmp 13) 2, 0, some (197, true), true⟩, []),
  (⟨some (199, false), .load 24 (.tmp 198), 24, some (197, true), true⟩, []),
  (⟨some (200, false), .call { callee := .builtin .len, args := #[.tmp 199], argTypes := #[24] }, 3, some (197, true), true⟩, []),
  (⟨some (201, false), .binOp .eql 3 (.tmp 200) (.const (.int .i64 0)) 3, 4, some (197, true), true⟩, []),
  (⟨some (202, false), .pick (.tmp 197) (.tmp 201) (.const (.bool false)), 4, none, true⟩, []),
  (⟨some (180, true), .assign (.tmp 202), 4, none, true⟩, [])] τ ρ h := _root_.id rfl
def ref3_WriteMap_r25 : List Sop := [
  ⟨some (203, false), .move (.tmp 17), 3, none, true⟩,
  ⟨some (204, false), .binOp .add 3 (.const (.int .i64 251)) (.tmp 203) 3, 3, none, true⟩,
  ⟨some (205, false), .convert 3 5 (.tmp 204), 5, none, true⟩,
  ⟨some (206, false), .buildSlice 43 1 #[(0, .tmp 205)], 43, none, false⟩,
  ⟨some (207, false), .convert 43 9 (.tmp 206), 9, none, true⟩,
  ⟨some (208, false), .move (.tmp 18), 9, none, true⟩,
  ⟨some (209, false), .binOp .add 9 (.tmp 207) (.tmp 208) 9, 9, none, true⟩,
  ⟨some (19, true), .assign (.tmp 209), 9, none, true⟩]
theorem ref3_WriteMap_r25_go {K : Env → Heap → Prop} {τ ρ : Env} {h : Heap} : vcOps Try.prog K ref3_WriteMap_r25 τ ρ h = vcOps Try.prog K [
  ⟨some (203, false), .move (.tmp 17), 3, none, true⟩,
  ⟨some (204, false), .binOp .add 3 (.const (.int .i64 251)) (.tmp 203) 3, 3, none, true⟩,
  ⟨some (205, false), .convert 3 5 (.tmp 204), 5, none, true⟩,
  ⟨some (206, false), .buildSlice 43 1 #[(0, .tmp 205)], 43, none, false⟩,
  ⟨some (207, false), .convert 43 9 (.tmp 206), 9, none, true⟩,
  ⟨some (208, false), .move (.tmp 18), 9, none, true⟩,
  ⟨some (209, false), .binOp .add 9 (.tmp 207) (.tmp 208) 9, 9, none, true⟩,
  ⟨some (19, true), .assign (.tmp 209), 9, none, true⟩] τ ρ h := _root_.id rfl
def ref3_WriteMap_r26 : List Sop := [
  ⟨some (211, false), .move (.tmp 17), 3, none, true⟩,
  ⟨some (212, false), .binOp .gtr 3 (.tmp 211) (.const (.int .i64 0)) 3, 4, none, true⟩,
  ⟨some (213, false), .move (.tmp 212), 4, none, true⟩,
  ⟨some (214, false), .move (.tmp 17), 3, some (213, true), true⟩,
  ⟨some (215, false), .binOp .leq 3 (.tmp 214) (.const (.int .i64 3)) 3, 4, some (213, true), true⟩,
  ⟨some (216, false), .pick (.tmp 213) (.tmp 215) (.const (.bool false)), 4, none, true⟩,
  ⟨some (217, false), .move (.tmp 216), 4, none, true⟩,
  ⟨some (218, false), .fieldAddr 41 (.tmp 13) 1, 0, some (217, true), true⟩,
  ⟨some (219, false), .load 24 (.tmp 218), 24, some (217, true), true⟩,
  ⟨some (220, false), .move (.tmp 10), 24, some (217, true), true⟩,
  ⟨some (221, false), .call { callee := .builtin .len, args := #[.tmp 220], argTypes := #[24] }, 3, some (217, true), true⟩,
  ⟨some (222, false), .slice 24 (.tmp 219) none (some (.tmp 221)) none, 24, some (217, true), true⟩,
  ⟨some (223, false), .move (.tmp 10), 24, some (217, true), true⟩,
  ⟨some (224, false), .call { callee := .value (.func 20), args := #[.tmp 222, .tmp 223], argTypes := #[24, 24] }, 4, some (217, true), false⟩,
  ⟨some (225, false), .pick (.tmp 217) (.tmp 224) (.const (.bool false)), 4, none, true⟩,
  ⟨some (226, false), .move (.tmp 225), 4, none, true⟩,
  ⟨some (227, false), .fieldAddr 41 (.tmp 13) 2, 0, some (226, true), true⟩,
  ⟨some (228, false), .load 24 (.tmp 227), 24, some (226, true), true⟩,
  ⟨some (229, false), .call { callee := .builtin .len, args := #[.tmp 228], argTypes := #[24] }, 3, some (226, true), true⟩,
  ⟨some (230, false), .binOp .eql 3 (.tmp 229) (.const (.int .i64 0)) 3, 4, some (226, true), true⟩,
  ⟨some (231, false), .pick (.tmp 226) (.tmp 230) (.const (.bool false)), 4, none, true⟩,
  ⟨some (210, true), .assign (.tmp 231), 4, none, true⟩]
theorem ref3_WriteMap_r26_go {K : Env → Heap → Prop} {τ ρ : Env} {h : Heap} : vcOps Try.prog K ref3_WriteMap_r26 τ ρ h = vcOps Try.prog K [
  ⟨some (211, false), .move (.tmp 17), 3, none, true⟩,
  ⟨some (212, false), .binOp .gtr 3 (.tmp 211) (.const (.int .i64 0)) 3, 4, none, true⟩,
  ⟨some (213, false), .move (.tmp 212), 4, none, true⟩,
  ⟨some (214, false), .move (.tmp 17), 3, some (213, true), true⟩,
  ⟨some (215, false), .binOp .leq 3 (.tmp 214) (.const (.int .i64 3)) 3, 4, some (213, true), true⟩,
  ⟨some (216, false), .pick (.tmp 213) (.tmp 215) (.const (.bool false)), 4, none, true⟩,
  ⟨some (217, false), .move (.tmp 216), 4, none, true⟩,
  ⟨some (218, false), .fieldAddr 41 (.tmp 13) 1, 0, some (217, true), true⟩,
  ⟨some (219, false), .load 24 (.tmp 218), 24, some (217, true), true⟩,
  ⟨some (220, false), .move (.tmp 10), 24, some (217, true), true⟩,
  ⟨some (221, false), .call { callee := .builtin .len, args := #[.tmp 220], argTypes := #[24] }, 3, some (217, true), true⟩,
  ⟨some (222, false), .slice 24 (.tmp 219) none (some (.tmp 221)) none, 24, some (217, true), true⟩,
  ⟨some (223, false), .move (.tmp 10), 24, some (217, true), true⟩,
  ⟨some (224, false), .call { callee := .value (.func 20), args := #[.tmp 222, .tmp 223], argTypes := #[24, 24] }, 4, some (217, true), false⟩,
  ⟨some (225, false), .pick (.tmp 217) (.tmp 224) (.const (.bool false)), 4, none, true⟩,
  ⟨some (226, false), .move (.tmp 225), 4, none, true⟩,
  ⟨some (227, false), .fieldAddr 41 (.tmp 13) 2, 0, some (226, true), true⟩,
  ⟨some (228, false), .load 24 (.tmp 227), 24, some (226, true), true⟩,
  ⟨some (229, false), .call { callee := .builtin .len, args := #[.tmp 228], argTypes := #[24] }, 3, some (226, true), true⟩,
  ⟨some (230, false), .binOp .eql 3 (.tmp 229) (.const (.int .i64 0)) 3, 4, some (226, true), true⟩,
  ⟨some (231, false), .pick (.tmp 226) (.tmp 230) (.const (.bool false)), 4, none, true⟩,
  ⟨some (210, true), .assign (.tmp 231), 4, none, true⟩] τ ρ h := _root_.id rfl
def ref3_WriteMap_r27 : List Sop := [
  ⟨some (233, false), .fieldAddr 41 (.tmp 13) 1, 0, none, true⟩,
  ⟨some (234, false), .load 24 (.tmp 233), 24, none, true⟩,
  ⟨some (235, false), .move (.tmp 10), 24, none, true⟩,
  ⟨some (236, false), .call { callee := .builtin .len, args := #[.tmp 235], argTypes := #[24] }, 3, none, true⟩,
  ⟨some (237, false), .slice 24 (.tmp 234) (some (.tmp 236)) none none, 24, none, true⟩,
  ⟨some (238, false), .move (.tmp 1), 23, none, true⟩,
  ⟨some (239, false), .call { callee := .value (.func 19), args := #[.tmp 237, .tmp 238], argTypes := #[24, 23] }, 50, none, false⟩,
  ⟨some (232, false), .move (.tmp 239), 50, none, true⟩,
  ⟨some (240, false), .extract (.tmp 232) 0, 9, none, true⟩,
  ⟨some (241, false), .extract (.tmp 232) 1, 27, none, true⟩,
  ⟨some (20, true), .assign (.tmp 240), 9, none, true⟩,
  ⟨some (21, true), .assign (.tmp 241), 27, none, true⟩]
theorem ref3_WriteMap_r27_go {K : Env → Heap → Prop} {τ ρ : Env} {h : Heap} : vcOps Try.prog K ref3_WriteMap_r27 τ ρ h = vcOps Try.prog K [
  ⟨some (233, false), .fieldAddr 41 (.tmp 13) 1, 0, none, true⟩,
  ⟨some (234, false), .load 24 (.tmp 233), 24, none, true⟩,
  ⟨some (235, false), .move (.tmp 10), 24, none, true⟩,
  ⟨some (236, false), .call { callee := .builtin .len, args := #[.tmp 235], argTypes := #[24] }, 3, none, true⟩,
  ⟨some (237, false), .slice 24 (.tmp 234) (some (.tmp 236)) none none, 24, none, true⟩,
  ⟨some (238, false), .move (.tmp 1), 23, none, true⟩,
  ⟨some (239, false), .call { callee := .value (.func 19), args := #[.tmp 237, .tmp 238], argTypes := #[24, 23] }, 50, none, false⟩,
  ⟨some (232, false), .move (.tmp 239), 50, none, true⟩,
  ⟨some (240, false), .extract (.tmp 232) 0, 9, none, true⟩,
  ⟨some (241, false), .extract (.tmp 232) 1, 27, none, true⟩,
  ⟨some (20, true), .assign (.tmp 240), 9, none, true⟩,
  ⟨some (21, true), .assign (.tmp 241), 27, none, true⟩] τ ρ h := _root_.id rfl
def ref3_WriteMap_r28 : List Sop := [
  ⟨some (242, false), .move (.tmp 21), 27, none, true⟩,
  ⟨some (16, true), .assign (.tmp 242), 27, none, true⟩]
theorem ref3_WriteMap_r28_go {K : Env → Heap → Prop} {τ ρ : Env} {h : Heap} : vcOps Try.prog K ref3_WriteMap_r28 τ ρ h = vcOps Try.prog K [
  ⟨some (242, false), .move (.tmp 21), 27, none, true⟩,
  ⟨some (16, true), .assign (.tmp 242), 27, none, true⟩] τ ρ h := _root_.id rfl
def ref3_WriteMap_r29 : List Sop := [
  ⟨some (243, false), .move (.tmp 17), 3, none, true⟩,
  ⟨some (244, false), .binOp .add 3 (.const (.int .i64 251)) (.tmp 243) 3, 3, none, true⟩,
  ⟨some (245, false), .convert 3 5 (.tmp 244), 5, none, true⟩,
  ⟨some (246, false), .buildSlice 43 1 #[(0, .tmp 245)], 43, none, false⟩,
  ⟨some (247, false), .convert 43 9 (.tmp 246), 9, none, true⟩,
  ⟨some (248, false), .move (.tmp 18), 9, none, true⟩,
  ⟨some (249, false), .binOp .add 9 (.tmp 247) (.tmp 248) 9, 9, none, true⟩,
  ⟨some (250, false), .move (.tmp 20), 9, none, true⟩,
  ⟨some (251, false), .binOp .add 9 (.tmp 249) (.tmp 250) 9, 9, none, true⟩,
  ⟨some (19, true), .assign (.tmp 251), 9, none, true⟩]
theorem ref3_WriteMap_r29_go {K : Env → Heap → Prop} {τ ρ : Env} {h : Heap} : vcOps Try.prog K ref3_WriteMap_r29 τ ρ h = vcOps Try.prog K [
  ⟨some (243, false), .move (.tmp 17), 3, none, true⟩,
  ⟨some (244, false), .binOp .add 3 (.const (.int .i64 251)) (.tmp 243) 3, 3, none, true⟩,
  ⟨some (245, false), .convert 3 5 (.tmp 244), 5, none, true⟩,
  ⟨some (246, false), .buildSlice 43 1 #[(0, .tmp 245)], 43, none, false⟩,
  ⟨some (247, false), .convert 43 9 (.tmp 246), 9, none, true⟩,
  ⟨some (248, false), .move (.tmp 18), 9, none, true⟩,
  ⟨some (249, false), .binOp .add 9 (.tmp 247) (.tmp 248) 9, 9, none, true⟩,
  ⟨some (250, false), .move (.tmp 20), 9, none, true⟩,
  ⟨some (251, false), .binOp .add 9 (.tmp 249) (.tmp 250) 9, 9, none, true⟩,
  ⟨some (19, true), .assign (.tmp 251), 9, none, true⟩] τ ρ h := _root_.id rfl
def ref3_WriteMap_r30 : List Sop := [
  ⟨some (84, false), .fieldAddr 41 (.tmp 13) 1, 0, none, true⟩,
  ⟨some (85, false), .load 24 (.tmp 84), 24, none, true⟩,
  ⟨some (86, false), .move (.tmp 1), 23, none, true⟩,
  ⟨some (87, false), .call { callee := .value (.func 19), args := #[.tmp 85, .tmp 86], argTypes := #[24, 23] }, 50, none, false⟩,
  ⟨some (83, false), .move (.tmp 87), 50, none, true⟩,
  ⟨some (88, false), .extract (.tmp 83) 0, 9, none, true⟩,
  ⟨some (89, false), .extract (.tmp 83) 1, 27, none, true⟩,
  ⟨some (22, true), .assign (.tmp 88), 9, none, true⟩,
  ⟨some (23, true), .assign (.tmp 89), 27, none, true⟩]
theorem ref3_WriteMap_r30_go {K : Env → Heap → Prop} {τ ρ : Env} {h : Heap} : vcOps Try.prog K ref3_WriteMap_r30 τ ρ h = vcOps Try.prog K [
  ⟨some (84, false), .fieldAddr 41 (.tmp 13) 1, 0, none, true⟩,
  ⟨some (85, false), .load 24 (.tmp 84), 24, none, true⟩,
  ⟨some (86, false), .move (.tmp 1), 23, none, true⟩,
  ⟨some (87, false), .call { callee := .value (.func 19), args := #[.tmp 85, .tmp 86], argTypes := #[24, 23] }, 50, none, false⟩,
  ⟨some (83, false), .move (.tmp 87), 50, none, true⟩,
  ⟨some (88, false), .extract (.tmp 83) 0, 9, none, true⟩,
  ⟨some (89, false), .extract (.tmp 83) 1, 27, none, true⟩,
  ⟨some (22, true), .assign (.tmp 88), 9, none, true⟩,
  ⟨some (23, true), .assign (.tmp 89), 27, none, true⟩] τ ρ h := _root_.id rfl
def ref3_WriteMap_r31 : List Sop := [
  ⟨some (90, false), .move (.tmp 23), 27, none, true⟩,
  ⟨some (91, true), .binOp .neq 27 (.tmp 90) (.const (.int .i64 0)) 27, 4, none, true⟩]
theorem ref3_WriteMap_r31_go {K : Env → Heap → Prop} {τ ρ : Env} {h : Heap} : vcOps Try.prog K ref3_WriteMap_r31 τ ρ h = vcOps Try.prog K [
  ⟨some (90, false), .move (.tmp 23), 27, none, true⟩,
  ⟨some (91, true), .binOp .neq 27 (.tmp 90) (.const (.int .i64 0)) 27, 4, none, true⟩] τ ρ h := _root_.id rfl
def ref3_WriteMap_r32 : List Sop := [
  ⟨some (92, false), .move (.tmp 23), 27, none, true⟩,
  ⟨some (16, true), .assign (.tmp 92), 27, none, true⟩]
theorem ref3_WriteMap_r32_go {K : Env → Heap → Prop} {τ ρ : Env} {h : Heap} : vcOps Try.prog K ref3_WriteMap_r32 τ ρ h = vcOps Try.prog K [
  ⟨some (92, false), .move (.tmp 23), 27, none, true⟩,
  ⟨some (16, true), .assign (.tmp 92), 27, none, true⟩] τ ρ h := _root_.id rfl
def ref3_WriteMap_r33 : List (Sop × List Sop) := [
  (⟨some (93, false), .move (.tmp 18), 9, none, true⟩, []),
  (⟨some (94, false), .binOp .add 9 (.const (.string { data := #[255] })) (.tmp 93) 9, 9, none, true⟩, []),
  (⟨some (95, false), .fieldAddr 41 (.tmp 13) 1, 0, none, true⟩, []),
  (⟨some (96, false), .load 24 (.tmp 95), 24, none, true⟩, []),
  (⟨some (97, false), .call { callee := .builtin .len, args := #[.tmp 96], argTypes := #[24] }, 3, none, true⟩, []),
  (⟨some (98, false), .convert 3 49 (.tmp 97), 49, none, true⟩, []),
  (⟨some (101, false), .move (.tmp 22), 9, none, true⟩, []),
  (⟨some (103, false), .fieldAddr 41 (.tmp 13) 2, 0, none, true⟩, []),
  (⟨some (104, false), .load 24 (.tmp 103), 24, none, true⟩, []),
  (⟨some (105, false), .call { callee := .builtin .len, args := #[.tmp 104], argTypes := #[24] }, 3, none, true⟩, []),
  (⟨some (106, false), .convert 3 49 (.tmp 105), 49, none, true⟩, []),
  (⟨some (109, false), .move (.tmp 15), 9, none, true⟩, []),
  (⟨some (99, false), .call { callee := .value (.func 18), args := #[.tmp 98, .const (.int .i64 2)], argTypes := #[49, 3] }, 9, none, false⟩, [⟨some (94, false), .binOp .add 9 (.const (.string { data := #[255] })) (.tmp 93) 9, 9, none, true⟩, ⟨some (103, false), .fieldAddr 41 (.tmp 13) 2, 0, none, true⟩, ⟨some (104, false), .load 24 (.tmp 103), 24, none, true⟩, ⟨some (105, false), .call { callee := .builtin .len, args := #[.tmp 104], argTypes := #[24] }, 3, none, true⟩, ⟨some (106, false), .convert 3 49 (.tmp 105), 49, none, true⟩]),
  (⟨some (100, false), .binOp .add 9 (.tmp 94) (.tmp 99) 9, 9, none, true⟩, []),
  (⟨some (102, false), .binOp .add 9 (.tmp 100) (.tmp 101) 9, 9, none, true⟩, []),
  (⟨some (107, false), .call { callee := .value (.func 18), args := #[.tmp 106, .const (.int .i64 2)], argTypes := #[49, 3] }, 9, none, false⟩, [⟨some (94, false), .binOp .add 9 (.const (.string { data := #[255] })) (.tmp 93) 9, 9, none, true⟩, ⟨some (100, false), .binOp .add 9 (.tmp 94) (.tmp 99) 9, 9, none, true⟩, ⟨some (102, false), .binOp .add 9 (.tmp 100) (.tmp 101) 9, 9, none, true⟩]),
  (⟨some (108, false), .binOp .add 9 (.tmp 102) (.tmp 107) 9, 9, none, true⟩, []),
  (⟨some (110, false), .binOp .add 9 (.tmp 108) (.tmp 109) 9, 9, none, true⟩, []),
  (⟨some (19, true), .assign (.tmp 110), 9, none, true⟩, [])]
theorem ref3_WriteMap_r33_go {K : Env → Heap → Prop} {τ ρ : Env} {h : Heap} : vcDraw Try.prog K ref3_WriteMap_r33 τ ρ h = vcDraw Try.prog K [
  (⟨some (93, false), .move (.tmp 18), 9, none, true⟩, []),
  (⟨some (94, false), .binOp .add 9 (.const (.string { data := #[255] })) (.tmp 93) 9, 9, none, true⟩, []),
  (⟨some (95, false), .fieldAddr 41 (.tmp 13) 1, 0, none, true⟩, []),
  (⟨some (96, false), .load 24 (.tmp 95), 24, none, true⟩, []),
  (⟨some (97, false), .call { callee := .builtin .len, args := #[.tmp 96], argTypes := #[24] }, 3, none, true⟩, []),
  (⟨some (98, false), .convert 3 49 (.tmp 97), 49, none, true⟩, []),
  (⟨some (101, false), .move (.tmp 22), 9, none, true⟩, []),
  (⟨some (103, false), .fieldAddr 41 (.tmp 13) 2, 0, none, true⟩, []),
  (⟨some (104, false), .load 24 (.tmp 103), 24, none, true⟩, []),
  (⟨some (105, false), .call { callee := .builtin .len, args := #[.tmp 104], argTypes := #[24] }, 3, none, true⟩, []),
  (⟨some (106, false), .convert 3 49 (.tmp 105), 49, none, true⟩, []),
  (⟨some (109, false), .move (.tmp 15), 9, none, true⟩, []),
  (⟨some (99, false), .call { callee := .value (.func 18), args := #[.tmp 98, .const (.int .i64 2)], argTypes := #[49, 3] }, 9, none, false⟩, [⟨some (94, false), .binOp .add 9 (.const (.string { data := #[255] })) (.tmp 93) 9, 9, none, true⟩, ⟨some (103, false), .fieldAddr 41 (.tmp 13) 2, 0, none, true⟩, ⟨some (104, false), .load 24 (.tmp 103), 24, none, true⟩, ⟨some (105, false), .call { callee := .builtin .len, args := #[.tmp 104], argTypes := #[24] }, 3, none, true⟩, ⟨some (106, false), .convert 3 49 (.tmp 105), 49, none, true⟩]),
  (⟨some (100, false), .binOp .add 9 (.tmp 94) (.tmp 99) 9, 9, none, true⟩, []),
  (⟨some (102, false), .binOp .add 9 (.tmp 100) (.tmp 101) 9, 9, none, true⟩, []),
  (⟨some (107, false), .call { callee := .value (.func 18), args := #[.tmp 106, .const (.int .i64 2)], argTypes := #[49, 3] }, 9, none, false⟩, [⟨some (94, false), .binOp .add 9 (.const (.string { data := #[255] })) (.tmp 93) 9, 9, none, true⟩, ⟨some (100, false), .binOp .add 9 (.tmp 94) (.tmp 99) 9, 9, none, true⟩, ⟨some (102, false), .binOp .add 9 (.tmp 100) (.tmp 101) 9, 9, none, true⟩]),
  (⟨some (108, false), .binOp .add 9 (.tmp 102) (.tmp 107) 9, 9, none, true⟩, []),
  (⟨some (110, false), .binOp .add 9 (.tmp 108) (.tmp 109) 9, 9, none, true⟩, []),
  (⟨some (19, true), .assign (.tmp 110), 9, none, true⟩, [])] τ ρ h := _root_.id rfl
def ref3_WriteMap_r34 : List Sop := [
  ⟨some (252, false), .move (.tmp 16), 27, none, true⟩,
  ⟨some (253, true), .binOp .neq 27 (.tmp 252) (.const (.int .i64 0)) 27, 4, none, true⟩]
theorem ref3_WriteMap_r34_go {K : Env → Heap → Prop} {τ ρ : Env} {h : Heap} : vcOps Try.prog K ref3_WriteMap_r34 τ ρ h = vcOps Try.prog K [
  ⟨some (252, false), .move (.tmp 16), 27, none, true⟩,
  ⟨some (253, true), .binOp .neq 27 (.tmp 252) (.const (.int .i64 0)) 27, 4, none, true⟩] τ ρ h := _root_.id rfl
def ref3_WriteMap_r35 : List Sop := [
  ⟨some (254, false), .move (.tmp 16), 27, none, true⟩,
  ⟨some (255, false), .move (.tmp 12), 3, none, true⟩,
  ⟨some (6, true), .assign (.const (.string { data := #[] })), 9, none, true⟩,
  ⟨some (7, true), .assign (.tmp 254), 27, none, true⟩,
  ⟨some (8, true), .assign (.tmp 255), 3, none, true⟩]
theorem ref3_WriteMap_r35_go {K : Env → Heap → Prop} {τ ρ : Env} {h : Heap} : vcOps Try.prog K ref3_WriteMap_r35 τ ρ h = vcOps Try.prog K [
  ⟨some (254, false), .move (.tmp 16), 27, none, true⟩,
  ⟨some (255, false), .move (.tmp 12), 3, none, true⟩,
  ⟨some (6, true), .assign (.const (.string { data := #[] })), 9, none, true⟩,
  ⟨some (7, true), .assign (.tmp 254), 27, none, true⟩,
  ⟨some (8, true), .assign (.tmp 255), 3, none, true⟩] τ ρ h := _root_.id rfl
def ref3_WriteMap_r36 : List Sop := [
  ⟨some (256, false), .move (.tmp 9), 43, none, true⟩,
  ⟨some (257, false), .move (.tmp 19), 9, none, true⟩,
  ⟨some (258, false), .call { callee := .builtin .append, args := #[.tmp 256, .tmp 257], argTypes := #[43, 9] }, 43, none, false⟩,
  ⟨some (9, true), .assign (.tmp 258), 43, none, true⟩]
theorem ref3_WriteMap_r36_go {K : Env → Heap → Prop} {τ ρ : Env} {h : Heap} : vcOps Try.prog K ref3_WriteMap_r36 τ ρ h = vcOps Try.prog K [
  ⟨some (256, false), .move (.tmp 9), 43, none, true⟩,
  ⟨some (257, false), .move (.tmp 19), 9, none, true⟩,
  ⟨some (258, false), .call { callee := .builtin .append, args := #[.tmp 256, .tmp 257], argTypes := #[43, 9] }, 43, none, false⟩,
  ⟨some (9, true), .assign (.tmp 258), 43, none, true⟩] τ ρ h := _root_.id rfl
def ref3_WriteMap_r37 : List Sop := [
  ⟨some (259, false), .fieldAddr 41 (.tmp 13) 0, 0, none, true⟩,
  ⟨some (260, false), .load 3 (.tmp 259), 3, none, true⟩,
  ⟨some (11, true), .assign (.tmp 260), 3, none, true⟩]
theorem ref3_WriteMap_r37_go {K : Env → Heap → Prop} {τ ρ : Env} {h : Heap} : vcOps Try.prog K ref3_WriteMap_r37 τ ρ h = vcOps Try.prog K [
  ⟨some (259, false), .fieldAddr 41 (.tmp 13) 0, 0, none, true⟩,
  ⟨some (260, false), .load 3 (.tmp 259), 3, none, true⟩,
  ⟨some (11, true), .assign (.tmp 260), 3, none, true⟩] τ ρ h := _root_.id rfl
def ref3_WriteMap_r38 : List Sop := [
  ⟨some (261, false), .fieldAddr 41 (.tmp 13) 1, 0, none, true⟩,
  ⟨some (262, false), .load 24 (.tmp 261), 24, none, true⟩,
  ⟨some (10, true), .assign (.tmp 262), 24, none, true⟩]
theorem ref3_WriteMap_r38_go {K : Env → Heap → Prop} {τ ρ : Env} {h : Heap} : vcOps Try.prog K ref3_WriteMap_r38 τ ρ h = vcOps Try.prog K [
  ⟨some (261, false), .fieldAddr 41 (.tmp 13) 1, 0, none, true⟩,
  ⟨some (262, false), .load 24 (.tmp 261), 24, none, true⟩,
  ⟨some (10, true), .assign (.tmp 262), 24, none, true⟩] τ ρ h := _root_.id rfl
def ref3_WriteMap_r39 : List Sop := [
  ⟨some (263, false), .binOp .add 3 (.tmp 35) (.const (.int .i64 1)) 3, 3, none, true⟩,
  ⟨some (35, true), .move (.tmp 263), 3, none, true⟩]
theorem ref3_WriteMap_r39_go {K : Env → Heap → Prop} {τ ρ : Env} {h : Heap} : vcOps Try.prog K ref3_WriteMap_r39 τ ρ h = vcOps Try.prog K [
  ⟨some (263, false), .binOp .add 3 (.tmp 35) (.const (.int .i64 1)) 3, 3, none, true⟩,
  ⟨some (35, true), .move (.tmp 263), 3, none, true⟩] τ ρ h := _root_.id rfl
def ref3_WriteMap_r40 : List Sop := [
  ⟨some (264, false), .move (.tmp 9), 43, none, true⟩,
  ⟨some (265, false), .convert 43 9 (.tmp 264), 9, none, true⟩,
  ⟨some (6, true), .assign (.tmp 265), 9, none, true⟩,
  ⟨some (7, true), .assign (.const (.int .i64 0)), 27, none, true⟩,
  ⟨some (8, true), .assign (.const (.int .i64 0)), 3, none, true⟩]
theorem ref3_WriteMap_r40_go {K : Env → Heap → Prop} {τ ρ : Env} {h : Heap} : vcOps Try.prog K ref3_WriteMap_r40 τ ρ h = vcOps Try.prog K [
  ⟨some (264, false), .move (.tmp 9), 43, none, true⟩,
  ⟨some (265, false), .convert 43 9 (.tmp 264), 9, none, true⟩,
  ⟨some (6, true), .assign (.tmp 265), 9, none, true⟩,
  ⟨some (7, true), .assign (.const (.int .i64 0)), 27, none, true⟩,
  ⟨some (8, true), .assign (.const (.int .i64 0)), 3, none, true⟩] τ ρ h := _root_.id rfl
def ref3_WriteMap_l0 : Cd := .seq (.region ref3_WriteMap_r7) (.seq (.cond (.tmp 36) (.skip) (.exit 0)) (.seq (.block 1 (.seq (.region ref3_WriteMap_r8) (.seq (.seq (.region ref3_WriteMap_r9) (.cond (.tmp 60) (.seq (.region ref3_WriteMap_r10) (.ret)) (.skip))) (.seq (.region ref3_WriteMap_r11) (.seq (.region ref3_WriteMap_r12) (.seq (.region ref3_WriteMap_r13) (.seq (.region ref3_WriteMap_r14) (.seq (.region ref3_WriteMap_r15) (.seq (.block 2 (.seq (.region ref3_WriteMap_r16) (.cond (.tmp 111) (.region ref3_WriteMap_r17) (.seq (.region ref3_WriteMap_r18) (.cond (.tmp 130) (.region ref3_WriteMap_r19) (.seq (.region ref3_WriteMap_r20) (.cond (.tmp 143) (.region ref3_WriteMap_r21) (.seq (.region ref3_WriteMap_r22) (.cond (.tmp 165) (.region ref3_WriteMap_r23) (.seq (.draw ref3_WriteMap_r24) (.cond (.tmp 180) (.region ref3_WriteMap_r25) (.seq (.region ref3_WriteMap_r26) (.cond (.tmp 210) (.seq (.region ref3_WriteMap_r27) (.seq (.region ref3_WriteMap_r28) (.region ref3_WriteMap_r29))) (.seq (.region ref3_WriteMap_r30) (.seq (.seq (.region ref3_WriteMap_r31) (.cond (.tmp 91) (.region ref3_WriteMap_r32) (.skip))) (.draw ref3_WriteMap_r33)))))))))))))))) (.seq (.seq (.region ref3_WriteMap_r34) (.cond (.tmp 253) (.seq (.region ref3_WriteMap_r35) (.ret)) (.skip))) (.seq (.region ref3_WriteMap_r36) (.seq (.region ref3_WriteMap_r37) (.region ref3_WriteMap_r38))))))))))))) (.region ref3_WriteMap_r39)))
theorem ref3_WriteMap_l0_go {Q : Ex → Env → Heap → Prop} {ρ : Env} {h : Heap} : Cd.vc Try.prog ref3_WriteMap_l0 Q ρ h = Cd.vc Try.prog (.seq (.region ref3_WriteMap_r7) (.seq (.cond (.tmp 36) (.skip) (.exit 0)) (.seq (.block 1 (.seq (.region ref3_WriteMap_r8) (.seq (.seq (.region ref3_WriteMap_r9) (.cond (.tmp 60) (.seq (.region ref3_WriteMap_r10) (.ret)) (.skip))) (.seq (.region ref3_WriteMap_r11) (.seq (.region ref3_WriteMap_r12) (.seq (.region ref3_WriteMap_r13) (.seq (.region ref3_WriteMap_r14) (.seq (.region ref3_WriteMap_r15) (.seq (.block 2 (.seq (.region ref3_WriteMap_r16) (.cond (.tmp 111) (.region ref3_WriteMap_r17) (.seq (.region ref3_WriteMap_r18) (.cond (.tmp 130) (.region ref3_WriteMap_r19) (.seq (.region ref3_WriteMap_r20) (.cond (.tmp 143) (.region ref3_WriteMap_r21) (.seq (.region ref3_WriteMap_r22) (.cond (.tmp 165) (.region ref3_WriteMap_r23) (.seq (.draw ref3_WriteMap_r24) (.cond (.tmp 180) (.region ref3_WriteMap_r25) (.seq (.region ref3_WriteMap_r26) (.cond (.tmp 210) (.seq (.region ref3_WriteMap_r27) (.seq (.region ref3_WriteMap_r28) (.region ref3_WriteMap_r29))) (.seq (.region ref3_WriteMap_r30) (.seq (.seq (.region ref3_WriteMap_r31) (.cond (.tmp 91) (.region ref3_WriteMap_r32) (.skip))) (.draw ref3_WriteMap_r33)))))))))))))))) (.seq (.seq (.region ref3_WriteMap_r34) (.cond (.tmp 253) (.seq (.region ref3_WriteMap_r35) (.ret)) (.skip))) (.seq (.region ref3_WriteMap_r36) (.seq (.region ref3_WriteMap_r37) (.region ref3_WriteMap_r38))))))))))))) (.region ref3_WriteMap_r39)))) Q ρ h := _root_.id rfl
def ref3_WriteMap : Cd := .seq (.region ref3_WriteMap_r0) (.seq (.seq (.region ref3_WriteMap_r1) (.cond (.tmp 26) (.seq (.region ref3_WriteMap_r2) (.ret)) (.skip))) (.seq (.region ref3_WriteMap_r3) (.seq (.region ref3_WriteMap_r4) (.seq (.region ref3_WriteMap_r5) (.seq (.seq (.region ref3_WriteMap_r6) (.block 0 (.loop ref3_WriteMap_l0))) (.seq (.region ref3_WriteMap_r40) (.ret)))))))
theorem ref3_WriteMap_go {Q : Ex → Env → Heap → Prop} {ρ : Env} {h : Heap} : Cd.vc Try.prog ref3_WriteMap Q ρ h = Cd.vc Try.prog (.seq (.region ref3_WriteMap_r0) (.seq (.seq (.region ref3_WriteMap_r1) (.cond (.tmp 26) (.seq (.region ref3_WriteMap_r2) (.ret)) (.skip))) (.seq (.region ref3_WriteMap_r3) (.seq (.region ref3_WriteMap_r4) (.seq (.region ref3_WriteMap_r5) (.seq (.seq (.region ref3_WriteMap_r6) (.block 0 (.loop ref3_WriteMap_l0))) (.seq (.region ref3_WriteMap_r40) (.ret)))))))) Q ρ h := _root_.id rfl
theorem ref3_WriteMap_calls {args : List Value} {h : Heap} {R : Value → Heap → Prop} (hl : args.length = 3) (hv : Cd.vc Try.prog ref3_WriteMap (retQ Try.prog [(6, none), (7, none), (8, none)] R) (initEnv args [0, 1, 2, 6, 7, 8, 9, 10, 11, 12, 13, 14, 15, 16, 17, 18, 19, 20, 21, 22, 23, 26, 33, 34, 35, 36, 60, 91, 111, 130, 143, 165, 180, 210, 253]) h) : HCalls Try.prog 9 args.toArray h R :=
  hcalls_of_vc (by kernel_rfl) Try.func9 (cd := ref3_WriteMap) (L := [0, 1, 2, 6, 7, 8, 9, 10, 11, 12, 13, 14, 15, 16, 17, 18, 19, 20, 21, 22, 23, 26, 33, 34, 35, 36, 60, 91, 111, 130, 143, 165, 180, 210, 253]) (by kernel_rfl) (by kernel_rfl) ⟨by rw [hl, Try.ntmps9]; decide, by rw [Try.ntmps9]; decide⟩ hv
def ref3_WriteMap_gos := And.intro @ref3_WriteMap_go (And.intro @ref3_WriteMap_r0_go (And.intro @ref3_WriteMap_r1_go (And.intro @ref3_WriteMap_r2_go (And.intro @ref3_WriteMap_r3_go (And.intro @ref3_WriteMap_r4_go (And.intro @ref3_WriteMap_r5_go (And.intro @ref3_WriteMap_r6_go (And.intro @ref3_WriteMap_r7_go (And.intro @ref3_WriteMap_r8_go (And.intro @ref3_WriteMap_r9_go (And.intro @ref3_WriteMap_r10_go (And.intro @ref3_WriteMap_r11_go (And.intro @ref3_WriteMap_r12_go (And.intro @ref3_WriteMap_r13_go (And.intro @ref3_WriteMap_r14_go (And.intro @ref3_WriteMap_r15_go (And.intro @ref3_WriteMap_r16_go (And.intro @ref3_WriteMap_r17_go (And.intro @ref3_WriteMap_r18_go (And.intro @ref3_WriteMap_r19_go (And.intro @ref3_WriteMap_r20_go (And.intro @ref3_WriteMap_r21_go (And.intro @ref3_WriteMap_r22_go (And.intro @ref3_WriteMap_r23_go (And.intro @ref3_WriteMap_r24_go (And.intro @ref3_WriteMap_r25_go (And.intro @ref3_WriteMap_r26_go (And.intro @ref3_WriteMap_r27_go (And.intro @ref3_WriteMap_r28_go (And.intro @ref3_WriteMap_r29_go (And.intro @ref3_WriteMap_r30_go (And.intro @ref3_WriteMap_r31_go (And.intro @ref3_WriteMap_r32_go (And.intro @ref3_WriteMap_r33_go (And.intro @ref3_WriteMap_r34_go (And.intro @ref3_WriteMap_r35_go (And.intro @ref3_WriteMap_r36_go (And.intro @ref3_WriteMap_r37_go (And.intro @ref3_WriteMap_r38_go (And.intro @ref3_WriteMap_r39_go (And.intro @ref3_WriteMap_r40_go (@ref3_WriteMap_l0_go))))))))))))))))))))))))))))))))))))))))))

/-! jvmcore/jvmcoreref3.told: function 19: slots [0, 1, 4, 5, 6, 7, 9, 10, 11, 12, 13, 14, 16, 17, 18, 19, 27, 31, 42, 49, 57, 72, 75, 82] -/
def ref3_told_r0 : List Sop := [
  ⟨some (4, true), .assign (.const (.string { data := #[] })), 9, none, true⟩,
  ⟨some (5, true), .assign (.const (.int .i64 0)), 27, none, true⟩]
theorem ref3_told_r0_go {K : Env → Heap → Prop} {τ ρ : Env} {h : Heap} : vcOps Try.prog K ref3_told_r0 τ ρ h = vcOps Try.prog K [
  ⟨some (4, true), .assign (.const (.string { data := #[] })), 9, none, true⟩,
  ⟨some (5, true), .assign (.const (.int .i64 0)), 27, none, true⟩] τ ρ h := _root_.id rfl
def ref3_told_r1 : List Sop := [
  ⟨some (15, false), .buildSlice 43 0 #[], 43, none, false⟩,
  ⟨some (6, true), .assign (.tmp 15), 43, none, true⟩]
theorem ref3_told_r1_go {K : Env → Heap → Prop} {τ ρ : Env} {h : Heap} : vcOps Try.prog K ref3_told_r1 τ ρ h = vcOps Try.prog K [
  ⟨some (15, false), .buildSlice 43 0 #[], 43, none, false⟩,
  ⟨some (6, true), .assign (.tmp 15), 43, none, true⟩] τ ρ h := _root_.id rfl
def ref3_told_r2 : List Sop := [
  ⟨some (7, true), .assign (.const (.int .i64 0)), 27, none, true⟩]
theorem ref3_told_r2_go {K : Env → Heap → Prop} {τ ρ : Env} {h : Heap} : vcOps Try.prog K ref3_told_r2 τ ρ h = vcOps Try.prog K [
  ⟨some (7, true), .assign (.const (.int .i64 0)), 27, none, true⟩] τ ρ h := _root_.id rfl
def ref3_told_r3 : List Sop := [
  ⟨some (16, true), .move (.tmp 0), 24, none, true⟩,
  ⟨some (17, true), .call { callee := .builtin .len, args := #[.tmp 16], argTypes := #[24] }, 3, none, true⟩,
  ⟨some (18, true), .move (.const (.int .i64 0)), 3, none, true⟩]
theorem ref3_told_r3_go {K : Env → Heap → Prop} {τ ρ : Env} {h : Heap} : vcOps Try.prog K ref3_told_r3 τ ρ h = vcOps Try.prog K [
  ⟨some (16, true), .move (.tmp 0), 24, none, true⟩,
  ⟨some (17, true), .call { callee := .builtin .len, args := #[.tmp 16], argTypes := #[24] }, 3, none, true⟩,
  ⟨some (18, true), .move (.const (.int .i64 0)), 3, none, true⟩] τ ρ h := _root_.id rfl
def ref3_told_r4 : List Sop := [
  ⟨some (19, true), .binOp .lss 3 (.tmp 18) (.tmp 17) 3, 0, none, true⟩]
theorem ref3_told_r4_go {K : Env → Heap → Prop} {τ ρ : Env} {h : Heap} : vcOps Try.prog K ref3_told_r4 τ ρ h = vcOps Try.prog K [
  ⟨some (19, true), .binOp .lss 3 (.tmp 18) (.tmp 17) 3, 0, none, true⟩] τ ρ h := _root_.id rfl
def ref3_told_r5 : List Sop := [
  ⟨some (20, false), .indexAddr 24 (.tmp 16) (.tmp 18), 0, none, true⟩,
  ⟨some (21, false), .load 35 (.tmp 20), 35, none, true⟩,
  ⟨some (9, true), .alloc 35, 0, none, false⟩,
  ⟨none, .store 35 (.tmp 9) (.tmp 21), 0, none, false⟩]
theorem ref3_told_r5_go {K : Env → Heap → Prop} {τ ρ : Env} {h : Heap} : vcOps Try.prog K ref3_told_r5 τ ρ h = vcOps Try.prog K [
  ⟨some (20, false), .indexAddr 24 (.tmp 16) (.tmp 18), 0, none, true⟩,
  ⟨some (21, false), .load 35 (.tmp 20), 35, none, true⟩,
  ⟨some (9, true), .alloc 35, 0, none, false⟩,
  ⟨none, .store 35 (.tmp 9) (.tmp 21), 0, none, false⟩] τ ρ h := _root_.id rfl
def ref3_told_r6 : List Sop := [
  ⟨some (10, true), .assign (.const (.int .i64 0)), 27, none, true⟩]
theorem ref3_told_r6_go {K : Env → Heap → Prop} {τ ρ : Env} {h : Heap} : vcOps Try.prog K ref3_told_r6 τ ρ h = vcOps Try.prog K [
  ⟨some (10, true), .assign (.const (.int .i64 0)), 27, none, true⟩] τ ρ h := _root_.id rfl
def ref3_told_r7 : List Sop := [
  ⟨some (22, false), .move (.tmp 6), 43, none, true⟩,
  ⟨some (23, false), .fieldAddr 35 (.tmp 9) 0, 0, none, true⟩,
  ⟨some (24, false), .load 5 (.tmp 23), 5, none, true⟩,
  ⟨some (25, false), .buildSlice 43 1 #[(0, .tmp 24)], 43, none, false⟩,
  ⟨some (26, false), .call { callee := .builtin .append, args := #[.tmp 22, .tmp 25], argTypes := #[43, 43] }, 43, none, false⟩,
  ⟨some (6, true), .assign (.tmp 26), 43, none, true⟩]
theorem ref3_told_r7_go {K : Env → Heap → Prop} {τ ρ : Env} {h : Heap} : vcOps Try.prog K ref3_told_r7 τ ρ h = vcOps Try.prog K [
  ⟨some (22, false), .move (.tmp 6), 43, none, true⟩,
  ⟨some (23, false), .fieldAddr 35 (.tmp 9) 0, 0, none, true⟩,
  ⟨some (24, false), .load 5 (.tmp 23), 5, none, true⟩,
  ⟨some (25, false), .buildSlice 43 1 #[(0, .tmp 24)], 43, none, false⟩,
  ⟨some (26, false), .call { callee := .builtin .append, args := #[.tmp 22, .tmp 25], argTypes := #[43, 43] }, 43, none, false⟩,
  ⟨some (6, true), .assign (.tmp 26), 43, none, true⟩] τ ρ h := _root_.id rfl
def ref3_told_r8 : List Sop := [
  ⟨some (28, false), .fieldAddr 35 (.tmp 9) 0, 0, none, true⟩,
  ⟨some (29, false), .load 5 (.tmp 28), 5, none, true⟩,
  ⟨some (30, false), .binOp .gtr 5 (.tmp 29) (.const (.int .u8 8)) 5, 4, none, true⟩,
  ⟨some (27, true), .assign (.tmp 30), 4, none, true⟩]
theorem ref3_told_r8_go {K : Env → Heap → Prop} {τ ρ : Env} {h : Heap} : vcOps Try.prog K ref3_told_r8 τ ρ h = vcOps Try.prog K [
  ⟨some (28, false), .fieldAddr 35 (.tmp 9) 0, 0, none, true⟩,
  ⟨some (29, false), .load 5 (.tmp 28), 5, none, true⟩,
  ⟨some (30, false), .binOp .gtr 5 (.tmp 29) (.const (.int .u8 8)) 5, 4, none, true⟩,
  ⟨some (27, true), .assign (.tmp 30), 4, none, true⟩] τ ρ h := _root_.id rfl
def ref3_told_r9 : List Sop := [
  ⟨some (10, true), .assign (.const (.int .i64 17)), 27, none, true⟩]
theorem ref3_told_r9_go {K : Env → Heap → Prop} {τ ρ : Env} {h : Heap} : vcOps Try.prog K ref3_told_r9 τ ρ h = vcOps Try.prog K [
  ⟨some (10, true), .assign (.const (.int .i64 17)), 27, none, true⟩] τ ρ h := _root_.id rfl
def ref3_told_r10 : List Sop := [
  ⟨some (32, false), .fieldAddr 35 (.tmp 9) 0, 0, none, true⟩,
  ⟨some (33, false), .load 5 (.tmp 32), 5, none, true⟩,
  ⟨some (34, false), .binOp .eql 5 (.tmp 33) (.const (.int .u8 8)) 5, 4, none, true⟩,
  ⟨some (31, true), .assign (.tmp 34), 4, none, true⟩]
theorem ref3_told_r10_go {K : Env → Heap → Prop} {τ ρ : Env} {h : Heap} : vcOps Try.prog K ref3_told_r10 τ ρ h = vcOps Try.prog K [
  ⟨some (32, false), .fieldAddr 35 (.tmp 9) 0, 0, none, true⟩,
  ⟨some (33, false), .load 5 (.tmp 32), 5, none, true⟩,
  ⟨some (34, false), .binOp .eql 5 (.tmp 33) (.const (.int .u8 8)) 5, 4, none, true⟩,
  ⟨some (31, true), .assign (.tmp 34), 4, none, true⟩] τ ρ h := _root_.id rfl
def ref3_told_r11 : List Sop := [
  ⟨some (35, false), .fieldAddr 35 (.tmp 9) 2, 0, none, true⟩,
  ⟨some (36, false), .load 3 (.tmp 35), 3, none, true⟩,
  ⟨some (37, false), .binOp .lss 3 (.tmp 36) (.const (.int .i64 0)) 3, 4, none, true⟩,
  ⟨some (38, false), .move (.tmp 37), 4, none, true⟩,
  ⟨some (39, false), .fieldAddr 35 (.tmp 9) 2, 0, some (38, false), true⟩,
  ⟨some (40, false), .load 3 (.tmp 39), 3, some (38, false), true⟩,
  ⟨some (41, false), .binOp .gtr 3 (.tmp 40) (.const (.int .i64 65535)) 3, 4, some (38, false), true⟩,
  ⟨some (42, true), .pick (.tmp 38) (.const (.bool true)) (.tmp 41), 4, none, true⟩]
theorem ref3_told_r11_go {K : Env → Heap → Prop} {τ ρ : Env} {h : Heap} : vcOps Try.prog K ref3_told_r11 τ ρ h = vcOps Try.prog K [
  ⟨some (35, false), .fieldAddr 35 (.tmp 9) 2, 0, none, true⟩,
  ⟨some (36, false), .load 3 (.tmp 35), 3, none, true⟩,
  ⟨some (37, false), .binOp .lss 3 (.tmp 36) (.const (.int .i64 0)) 3, 4, none, true⟩,
  ⟨some (38, false), .move (.tmp 37), 4, none, true⟩,
  ⟨some (39, false), .fieldAddr 35 (.tmp 9) 2, 0, some (38, false), true⟩,
  ⟨some (40, false), .load 3 (.tmp 39), 3, some (38, false), true⟩,
  ⟨some (41, false), .binOp .gtr 3 (.tmp 40) (.const (.int .i64 65535)) 3, 4, some (38, false), true⟩,
  ⟨some (42, true), .pick (.tmp 38) (.const (.bool true)) (.tmp 41), 4, none, true⟩] τ ρ h := _root_.id rfl
def ref3_told_r12 : List Sop := [
  ⟨some (10, true), .assign (.const (.int .i64 17)), 27, none, true⟩]
theorem ref3_told_r12_go {K : Env → Heap → Prop} {τ ρ : Env} {h : Heap} : vcOps Try.prog K ref3_told_r12 τ ρ h = vcOps Try.prog K [
  ⟨some (10, true), .assign (.const (.int .i64 17)), 27, none, true⟩] τ ρ h := _root_.id rfl
def ref3_told_r13 : List Sop := [
  ⟨some (43, false), .move (.tmp 6), 43, none, true⟩,
  ⟨some (44, false), .fieldAddr 35 (.tmp 9) 2, 0, none, true⟩,
  ⟨some (45, false), .load 3 (.tmp 44), 3, none, true⟩,
  ⟨some (46, false), .convert 3 49 (.tmp 45), 49, none, true⟩,
  ⟨some (47, false), .call { callee := .value (.func 18), args := #[.tmp 46, .const (.int .i64 2)], argTypes := #[49, 3] }, 9, none, false⟩,
  ⟨some (48, false), .call { callee := .builtin .append, args := #[.tmp 43, .tmp 47], argTypes := #[43, 9] }, 43, none, false⟩,
  ⟨some (6, true), .assign (.tmp 48), 43, none, true⟩]
theorem ref3_told_r13_go {K : Env → Heap → Prop} {τ ρ : Env} {h : Heap} : vcOps Try.prog K ref3_told_r13 τ ρ h = vcOps Try.prog K [
  ⟨some (43, false), .move (.tmp 6), 43, none, true⟩,
  ⟨some (44, false), .fieldAddr 35 (.tmp 9) 2, 0, none, true⟩,
  ⟨some (45, false), .load 3 (.tmp 44), 3, none, true⟩,
  ⟨some (46, false), .convert 3 49 (.tmp 45), 49, none, true⟩,
  ⟨some (47, false), .call { callee := .value (.func 18), args := #[.tmp 46, .const (.int .i64 2)], argTypes := #[49, 3] }, 9, none, false⟩,
  ⟨some (48, false), .call { callee := .builtin .append, args := #[.tmp 43, .tmp 47], argTypes := #[43, 9] }, 43, none, false⟩,
  ⟨some (6, true), .assign (.tmp 48), 43, none, true⟩] τ ρ h := _root_.id rfl
def ref3_told_r14 : List Sop := [
  ⟨some (50, false), .fieldAddr 35 (.tmp 9) 0, 0, none, true⟩,
  ⟨some (51, false), .load 5 (.tmp 50), 5, none, true⟩,
  ⟨some (52, false), .binOp .eql 5 (.tmp 51) (.const (.int .u8 7)) 5, 4, none, true⟩,
  ⟨some (49, true), .assign (.tmp 52), 4, none, true⟩]
theorem ref3_told_r14_go {K : Env → Heap → Prop} {τ ρ : Env} {h : Heap} : vcOps Try.prog K ref3_told_r14 τ ρ h = vcOps Try.prog K [
  ⟨some (50, false), .fieldAddr 35 (.tmp 9) 0, 0, none, true⟩,
  ⟨some (51, false), .load 5 (.tmp 50), 5, none, true⟩,
  ⟨some (52, false), .binOp .eql 5 (.tmp 51) (.const (.int .u8 7)) 5, 4, none, true⟩,
  ⟨some (49, true), .assign (.tmp 52), 4, none, true⟩] τ ρ h := _root_.id rfl
def ref3_told_r15 : List Sop := [
  ⟨some (11, true), .assign (.const (.int .i64 0)), 3, none, true⟩]
theorem ref3_told_r15_go {K : Env → Heap → Prop} {τ ρ : Env} {h : Heap} : vcOps Try.prog K ref3_told_r15 τ ρ h = vcOps Try.prog K [
  ⟨some (11, true), .assign (.const (.int .i64 0)), 3, none, true⟩] τ ρ h := _root_.id rfl
def ref3_told_r16 : List Sop := [
  ⟨some (53, false), .move (.tmp 1), 23, none, true⟩,
  ⟨some (54, false), .call { callee := .builtin .len, args := #[.tmp 53], argTypes := #[23] }, 3, none, true⟩,
  ⟨some (55, false), .binOp .sub 3 (.tmp 54) (.const (.int .i64 1)) 3, 3, none, true⟩,
  ⟨some (12, true), .assign (.tmp 55), 3, none, true⟩]
theorem ref3_told_r16_go {K : Env → Heap → Prop} {τ ρ : Env} {h : Heap} : vcOps Try.prog K ref3_told_r16 τ ρ h = vcOps Try.prog K [
  ⟨some (53, false), .move (.tmp 1), 23, none, true⟩,
  ⟨some (54, false), .call { callee := .builtin .len, args := #[.tmp 53], argTypes := #[23] }, 3, none, true⟩,
  ⟨some (55, false), .binOp .sub 3 (.tmp 54) (.const (.int .i64 1)) 3, 3, none, true⟩,
  ⟨some (12, true), .assign (.tmp 55), 3, none, true⟩] τ ρ h := _root_.id rfl
def ref3_told_r17 : List Sop := [
  ⟨some (56, false), .move (.tmp 12), 3, none, true⟩,
  ⟨some (57, true), .binOp .gtr 3 (.tmp 56) (.const (.int .i64 0)) 3, 4, none, true⟩]
theorem ref3_told_r17_go {K : Env → Heap → Prop} {τ ρ : Env} {h : Heap} : vcOps Try.prog K ref3_told_r17 τ ρ h = vcOps Try.prog K [
  ⟨some (56, false), .move (.tmp 12), 3, none, true⟩,
  ⟨some (57, true), .binOp .gtr 3 (.tmp 56) (.const (.int .i64 0)) 3, 4, none, true⟩] τ ρ h := _root_.id rfl
def ref3_told_r18 : List Sop := [
  ⟨some (61, false), .move (.tmp 1), 23, none, true⟩,
  ⟨some (62, false), .move (.tmp 12), 3, none, true⟩,
  ⟨some (63, false), .call { callee := .value (.func 37), args := #[.tmp 61, .tmp 62], argTypes := #[23, 3] }, 71, none, false⟩,
  ⟨some (60, false), .move (.tmp 63), 71, none, true⟩,
  ⟨some (64, false), .extract (.tmp 60) 0, 9, none, true⟩,
  ⟨some (65, false), .extract (.tmp 60) 1, 4, none, true⟩,
  ⟨some (13, true), .assign (.tmp 64), 9, none, true⟩,
  ⟨some (14, true), .assign (.tmp 65), 4, none, true⟩]
theorem ref3_told_r18_go {K : Env → Heap → Prop} {τ ρ : Env} {h : Heap} : vcOps Try.prog K ref3_told_r18 τ ρ h = vcOps Try.prog K [
  ⟨some (61, false), .move (.tmp 1), 23, none, true⟩,
  ⟨some (62, false), .move (.tmp 12), 3, none, true⟩,
  ⟨some (63, false), .call { callee := .value (.func 37), args := #[.tmp 61, .tmp 62], argTypes := #[23, 3] }, 71, none, false⟩,
  ⟨some (60, false), .move (.tmp 63), 71, none, true⟩,
  ⟨some (64, false), .extract (.tmp 60) 0, 9, none, true⟩,
  ⟨some (65, false), .extract (.tmp 60) 1, 4, none, true⟩,
  ⟨some (13, true), .assign (.tmp 64), 9, none, true⟩,
  ⟨some (14, true), .assign (.tmp 65), 4, none, true⟩] τ ρ h := _root_.id rfl
def ref3_told_r19 : List Sop := [
  ⟨some (66, false), .move (.tmp 14), 4, none, true⟩,
  ⟨some (67, false), .move (.tmp 66), 4, none, true⟩,
  ⟨some (68, false), .move (.tmp 13), 9, some (67, true), true⟩,
  ⟨some (69, false), .fieldAddr 35 (.tmp 9) 1, 0, some (67, true), true⟩,
  ⟨some (70, false), .load 9 (.tmp 69), 9, some (67, true), true⟩,
  ⟨some (71, false), .binOp .eql 9 (.tmp 68) (.tmp 70) 9, 4, some (67, true), true⟩,
  ⟨some (72, true), .pick (.tmp 67) (.tmp 71) (.const (.bool false)), 4, none, true⟩]
theorem ref3_told_r19_go {K : Env → Heap → Prop} {τ ρ : Env} {h : Heap} : vcOps Try.prog K ref3_told_r19 τ ρ h = vcOps Try.prog K [
  ⟨some (66, false), .move (.tmp 14), 4, none, true⟩,
  ⟨some (67, false), .move (.tmp 66), 4, none, true⟩,
  ⟨some (68, false), .move (.tmp 13), 9, some (67, true), true⟩,
  ⟨some (69, false), .fieldAddr 35 (.tmp 9) 1, 0, some (67, true), true⟩,
  ⟨some (70, false), .load 9 (.tmp 69), 9, some (67, true), true⟩,
  ⟨some (71, false), .binOp .eql 9 (.tmp 68) (.tmp 70) 9, 4, some (67, true), true⟩,
  ⟨some (72, true), .pick (.tmp 67) (.tmp 71) (.const (.bool false)), 4, none, true⟩] τ ρ h := _root_.id rfl
def ref3_told_r20 : List Sop := [
  ⟨some (73, false), .move (.tmp 12), 3, none, true⟩,
  ⟨some (11, true), .assign (.tmp 73), 3, none, true⟩]
theorem ref3_told_r20_go {K : Env → Heap → Prop} {τ ρ : Env} {h : Heap} : vcOps Try.prog K ref3_told_r20 τ ρ h = vcOps Try.prog K [
  ⟨some (73, false), .move (.tmp 12), 3, none, true⟩,
  ⟨some (11, true), .assign (.tmp 73), 3, none, true⟩] τ ρ h := _root_.id rfl
def ref3_told_r21 : List Sop := [
  ⟨some (58, false), .move (.tmp 12), 3, none, true⟩,
  ⟨some (59, false), .binOp .sub 3 (.tmp 58) (.const (.int .i64 1)) 3, 3, none, true⟩,
  ⟨some (12, true), .assign (.tmp 59), 3, none, true⟩]
theorem ref3_told_r21_go {K : Env → Heap → Prop} {τ ρ : Env} {h : Heap} : vcOps Try.prog K ref3_told_r21 τ ρ h = vcOps Try.prog K [
  ⟨some (58, false), .move (.tmp 12), 3, none, true⟩,
  ⟨some (59, false), .binOp .sub 3 (.tmp 58) (.const (.int .i64 1)) 3, 3, none, true⟩,
  ⟨some (12, true), .assign (.tmp 59), 3, none, true⟩] τ ρ h := _root_.id rfl
def ref3_told_r22 : List Sop := [
  ⟨some (74, false), .move (.tmp 11), 3, none, true⟩,
  ⟨some (75, true), .binOp .eql 3 (.tmp 74) (.const (.int .i64 0)) 3, 4, none, true⟩]
theorem ref3_told_r22_go {K : Env → Heap → Prop} {τ ρ : Env} {h : Heap} : vcOps Try.prog K ref3_told_r22 τ ρ h = vcOps Try.prog K [
  ⟨some (74, false), .move (.tmp 11), 3, none, true⟩,
  ⟨some (75, true), .binOp .eql 3 (.tmp 74) (.const (.int .i64 0)) 3, 4, none, true⟩] τ ρ h := _root_.id rfl
def ref3_told_r23 : List Sop := [
  ⟨some (10, true), .assign (.const (.int .i64 7)), 27, none, true⟩]
theorem ref3_told_r23_go {K : Env → Heap → Prop} {τ ρ : Env} {h : Heap} : vcOps Try.prog K ref3_told_r23 τ ρ h = vcOps Try.prog K [
  ⟨some (10, true), .assign (.const (.int .i64 7)), 27, none, true⟩] τ ρ h := _root_.id rfl
def ref3_told_r24 : List Sop := [
  ⟨some (76, false), .move (.tmp 6), 43, none, true⟩,
  ⟨some (77, false), .move (.tmp 11), 3, none, true⟩,
  ⟨some (78, false), .convert 3 49 (.tmp 77), 49, none, true⟩,
  ⟨some (79, false), .call { callee := .value (.func 18), args := #[.tmp 78, .const (.int .i64 2)], argTypes := #[49, 3] }, 9, none, false⟩,
  ⟨some (80, false), .call { callee := .builtin .append, args := #[.tmp 76, .tmp 79], argTypes := #[43, 9] }, 43, none, false⟩,
  ⟨some (6, true), .assign (.tmp 80), 43, none, true⟩]
theorem ref3_told_r24_go {K : Env → Heap → Prop} {τ ρ : Env} {h : Heap} : vcOps Try.prog K ref3_told_r24 τ ρ h = vcOps Try.prog K [
  ⟨some (76, false), .move (.tmp 6), 43, none, true⟩,
  ⟨some (77, false), .move (.tmp 11), 3, none, true⟩,
  ⟨some (78, false), .convert 3 49 (.tmp 77), 49, none, true⟩,
  ⟨some (79, false), .call { callee := .value (.func 18), args := #[.tmp 78, .const (.int .i64 2)], argTypes := #[49, 3] }, 9, none, false⟩,
  ⟨some (80, false), .call { callee := .builtin .append, args := #[.tmp 76, .tmp 79], argTypes := #[43, 9] }, 43, none, false⟩,
  ⟨some (6, true), .assign (.tmp 80), 43, none, true⟩] τ ρ h := _root_.id rfl
def ref3_told_r25 : List Sop := [
  ⟨some (81, false), .move (.tmp 7), 27, none, true⟩,
  ⟨some (82, true), .binOp .eql 27 (.tmp 81) (.const (.int .i64 0)) 27, 4, none, true⟩]
theorem ref3_told_r25_go {K : Env → Heap → Prop} {τ ρ : Env} {h : Heap} : vcOps Try.prog K ref3_told_r25 τ ρ h = vcOps Try.prog K [
  ⟨some (81, false), .move (.tmp 7), 27, none, true⟩,
  ⟨some (82, true), .binOp .eql 27 (.tmp 81) (.const (.int .i64 0)) 27, 4, none, true⟩] τ ρ h := _root_.id rfl
def ref3_told_r26 : List Sop := [
  ⟨some (83, false), .move (.tmp 10), 27, none, true⟩,
  ⟨some (7, true), .assign (.tmp 83), 27, none, true⟩]
theorem ref3_told_r26_go {K : Env → Heap → Prop} {τ ρ : Env} {h : Heap} : vcOps Try.prog K ref3_told_r26 τ ρ h = vcOps Try.prog K [
  ⟨some (83, false), .move (.tmp 10), 27, none, true⟩,
  ⟨some (7, true), .assign (.tmp 83), 27, none, true⟩] τ ρ h := _root_.id rfl
def ref3_told_r27 : List Sop := [
  ⟨some (84, false), .binOp .add 3 (.tmp 18) (.const (.int .i64 1)) 3, 3, none, true⟩,
  ⟨some (18, true), .move (.tmp 84), 3, none, true⟩]
theorem ref3_told_r27_go {K : Env → Heap → Prop} {τ ρ : Env} {h : Heap} : vcOps Try.prog K ref3_told_r27 τ ρ h = vcOps Try.prog K [
  ⟨some (84, false), .binOp .add 3 (.tmp 18) (.const (.int .i64 1)) 3, 3, none, true⟩,
  ⟨some (18, true), .move (.tmp 84), 3, none, true⟩] τ ρ h := _root_.id rfl
def ref3_told_r28 : List Sop := [
  ⟨some (85, false), .move (.tmp 6), 43, none, true⟩,
  ⟨some (86, false), .convert 43 9 (.tmp 85), 9, none, true⟩,
  ⟨some (87, false), .move (.tmp 7), 27, none, true⟩,
  ⟨some (4, true), .assign (.tmp 86), 9, none, true⟩,
  ⟨some (5, true), .assign (.tmp 87), 27, none, true⟩]
theorem ref3_told_r28_go {K : Env → Heap → Prop} {τ ρ : Env} {h : Heap} : vcOps Try.prog K ref3_told_r28 τ ρ h = vcOps Try.prog K [
  ⟨some (85, false), .move (.tmp 6), 43, none, true⟩,
  ⟨some (86, false), .convert 43 9 (.tmp 85), 9, none, true⟩,
  ⟨some (87, false), .move (.tmp 7), 27, none, true⟩,
  ⟨some (4, true), .assign (.tmp 86), 9, none, true⟩,
  ⟨some (5, true), .assign (.tmp 87), 27, none, true⟩] τ ρ h := _root_.id rfl
def ref3_told_l0 : Cd := .seq (.seq (.region ref3_told_r17) (.cond (.tmp 57) (.skip) (.exit 3))) (.seq (.block 4 (.seq (.region ref3_told_r18) (.seq (.region ref3_told_r19) (.cond (.tmp 72) (.region ref3_told_r20) (.skip))))) (.region ref3_told_r21))
theorem ref3_told_l0_go {Q : Ex → Env → Heap → Prop} {ρ : Env} {h : Heap} : Cd.vc Try.prog ref3_told_l0 Q ρ h = Cd.vc Try.prog (.seq (.seq (.region ref3_told_r17) (.cond (.tmp 57) (.skip) (.exit 3))) (.seq (.block 4 (.seq (.region ref3_told_r18) (.seq (.region ref3_told_r19) (.cond (.tmp 72) (.region ref3_told_r20) (.skip))))) (.region ref3_told_r21))) Q ρ h := _root_.id rfl
def ref3_told_l1 : Cd := .seq (.region ref3_told_r4) (.seq (.cond (.tmp 19) (.skip) (.exit 0)) (.seq (.block 1 (.seq (.region ref3_told_r5) (.seq (.region ref3_told_r6) (.seq (.region ref3_told_r7) (.seq (.block 2 (.seq (.region ref3_told_r8) (.cond (.tmp 27) (.region ref3_told_r9) (.seq (.region ref3_told_r10) (.cond (.tmp 31) (.seq (.seq (.region ref3_told_r11) (.cond (.tmp 42) (.region ref3_told_r12) (.skip))) (.region ref3_told_r13)) (.seq (.region ref3_told_r14) (.cond (.tmp 49) (.seq (.region ref3_told_r15) (.seq (.seq (.region ref3_told_r16) (.block 3 (.loop ref3_told_l0))) (.seq (.seq (.region ref3_told_r22) (.cond (.tmp 75) (.region ref3_told_r23) (.skip))) (.region ref3_told_r24)))) (.skip)))))))) (.seq (.region ref3_told_r25) (.cond (.tmp 82) (.region ref3_told_r26) (.skip)))))))) (.region ref3_told_r27)))
theorem ref3_told_l1_go {Q : Ex → Env → Heap → Prop} {ρ : Env} {h : Heap} : Cd.vc Try.prog ref3_told_l1 Q ρ h = Cd.vc Try.prog (.seq (.region ref3_told_r4) (.seq (.cond (.tmp 19) (.skip) (.exit 0)) (.seq (.block 1 (.seq (.region ref3_told_r5) (.seq (.region ref3_told_r6) (.seq (.region ref3_told_r7) (.seq (.block 2 (.seq (.region ref3_told_r8) (.cond (.tmp 27) (.region ref3_told_r9) (.seq (.region ref3_told_r10) (.cond (.tmp 31) (.seq (.seq (.region ref3_told_r11) (.cond (.tmp 42) (.region ref3_told_r12) (.skip))) (.region ref3_told_r13)) (.seq (.region ref3_told_r14) (.cond (.tmp 49) (.seq (.region ref3_told_r15) (.seq (.seq (.region ref3_told_r16) (.block 3 (.loop ref3_told_l0))) (.seq (.seq (.region ref3_told_r22) (.cond (.tmp 75) (.region ref3_told_r23) (.skip))) (.region ref3_told_r24)))) (.skip)))))))) (.seq (.region ref3_told_r25) (.cond (.tmp 82) (.region ref3_told_r26) (.skip)))))))) (.region ref3_told_r27)))) Q ρ h := _root_.id rfl
def ref3_told : Cd := .seq (.region ref3_told_r0) (.seq (.region ref3_told_r1) (.seq (.region ref3_told_r2) (.seq (.seq (.region ref3_told_r3) (.block 0 (.loop ref3_told_l1))) (.seq (.region ref3_told_r28) (.ret)))))
theorem ref3_told_go {Q : Ex → Env → Heap → Prop} {ρ : Env} {h : Heap} : Cd.vc Try.prog ref3_told Q ρ h = Cd.vc Try.prog (.seq (.region ref3_told_r0) (.seq (.region ref3_told_r1) (.seq (.region ref3_told_r2) (.seq (.seq (.region ref3_told_r3) (.block 0 (.loop ref3_told_l1))) (.seq (.region ref3_told_r28) (.ret)))))) Q ρ h := _root_.id rfl
theorem ref3_told_calls {args : List Value} {h : Heap} {R : Value → Heap → Prop} (hl : args.length = 2) (hv : Cd.vc Try.prog ref3_told (retQ Try.prog [(4, none), (5, none)] R) (initEnv args [0, 1, 4, 5, 6, 7, 9, 10, 11, 12, 13, 14, 16, 17, 18, 19, 27, 31, 42, 49, 57, 72, 75, 82]) h) : HCalls Try.prog 19 args.toArray h R :=
  hcalls_of_vc (by kernel_rfl) Try.func19 (cd := ref3_told) (L := [0, 1, 4, 5, 6, 7, 9, 10, 11, 12, 13, 14, 16, 17, 18, 19, 27, 31, 42, 49, 57, 72, 75, 82]) (by kernel_rfl) (by kernel_rfl) ⟨by rw [hl, Try.ntmps19]; decide, by rw [Try.ntmps19]; decide⟩ hv
def ref3_told_gos := And.intro @ref3_told_go (And.intro @ref3_told_r0_go (And.intro @ref3_told_r1_go (And.intro @ref3_told_r2_go (And.intro @ref3_told_r3_go (And.intro @ref3_told_r4_go (And.intro @ref3_told_r5_go (And.intro @ref3_told_r6_go (And.intro @ref3_told_r7_go (And.intro @ref3_told_r8_go (And.intro @ref3_told_r9_go (And.intro @ref3_told_r10_go (And.intro @ref3_told_r11_go (And.intro @ref3_told_r12_go (And.intro @ref3_told_r13_go (And.intro @ref3_told_r14_go (And.intro @ref3_told_r15_go (And.intro @ref3_told_r16_go (And.intro @ref3_told_r17_go (And.intro @ref3_told_r18_go (And.intro @ref3_told_r19_go (And.intro @ref3_told_r20_go (And.intro @ref3_told_r21_go (And.intro @ref3_told_r22_go (And.intro @ref3_told_r23_go (And.intro @ref3_told_r24_go (And.intro @ref3_told_r25_go (And.intro @ref3_told_r26_go (And.intro @ref3_told_r27_go (And.intro @ref3_told_r28_go (And.intro @ref3_told_l0_go (@ref3_told_l1_go)))))))))))))))))))))))))))))))

/-! jvmcore/jvmcoreref3.same: function 20: slots [0, 1, 4, 5, 10, 12, 13, 14, 24] -/
def ref3_same_r0 : List Sop := [
  ⟨some (4, true), .assign (.const (.bool false)), 4, none, true⟩]
theorem ref3_same_r0_go {K : Env → Heap → Prop} {τ ρ : Env} {h : Heap} : vcOps Try.prog K ref3_same_r0 τ ρ h = vcOps Try.prog K [
  ⟨some (4, true), .assign (.const (.bool false)), 4, none, true⟩] τ ρ h := _root_.id rfl
def ref3_same_r1 : List Sop := [
  ⟨some (6, false), .move (.tmp 0), 24, none, true⟩,
  ⟨some (7, false), .call { callee := .builtin .len, args := #[.tmp 6], argTypes := #[24] }, 3, none, true⟩,
  ⟨some (8, false), .move (.tmp 1), 24, none, true⟩,
  ⟨some (9, false), .call { callee := .builtin .len, args := #[.tmp 8], argTypes := #[24] }, 3, none, true⟩,
  ⟨some (10, true), .binOp .neq 3 (.tmp 7) (.tmp 9) 3, 4, none, true⟩]
theorem ref3_same_r1_go {K : Env → Heap → Prop} {τ ρ : Env} {h : Heap} : vcOps Try.prog K ref3_same_r1 τ ρ h = vcOps Try.prog K [
  ⟨some (6, false), .move (.tmp 0), 24, none, true⟩,
  ⟨some (7, false), .call { callee := .builtin .len, args := #[.tmp 6], argTypes := #[24] }, 3, none, true⟩,
  ⟨some (8, false), .move (.tmp 1), 24, none, true⟩,
  ⟨some (9, false), .call { callee := .builtin .len, args := #[.tmp 8], argTypes := #[24] }, 3, none, true⟩,
  ⟨some (10, true), .binOp .neq 3 (.tmp 7) (.tmp 9) 3, 4, none, true⟩] τ ρ h := _root_.id rfl
def ref3_same_r2 : List Sop := [
  ⟨some (4, true), .assign (.const (.bool false)), 4, none, true⟩]
theorem ref3_same_r2_go {K : Env → Heap → Prop} {τ ρ : Env} {h : Heap} : vcOps Try.prog K ref3_same_r2 τ ρ h = vcOps Try.prog K [
  ⟨some (4, true), .assign (.const (.bool false)), 4, none, true⟩] τ ρ h := _root_.id rfl
def ref3_same_r3 : List Sop := [
  ⟨some (11, false), .move (.tmp 0), 24, none, true⟩,
  ⟨some (12, true), .call { callee := .builtin .len, args := #[.tmp 11], argTypes := #[24] }, 3, none, true⟩,
  ⟨some (13, true), .move (.const (.int .i64 0)), 3, none, true⟩]
theorem ref3_same_r3_go {K : Env → Heap → Prop} {τ ρ : Env} {h : Heap} : vcOps Try.prog K ref3_same_r3 τ ρ h = vcOps Try.prog K [
  ⟨some (11, false), .move (.tmp 0), 24, none, true⟩,
  ⟨some (12, true), .call { callee := .builtin .len, args := #[.tmp 11], argTypes := #[24] }, 3, none, true⟩,
  ⟨some (13, true), .move (.const (.int .i64 0)), 3, none, true⟩] τ ρ h := _root_.id rfl
def ref3_same_r4 : List Sop := [
  ⟨some (14, true), .binOp .lss 3 (.tmp 13) (.tmp 12) 3, 0, none, true⟩]
theorem ref3_same_r4_go {K : Env → Heap → Prop} {τ ρ : Env} {h : Heap} : vcOps Try.prog K ref3_same_r4 τ ρ h = vcOps Try.prog K [
  ⟨some (14, true), .binOp .lss 3 (.tmp 13) (.tmp 12) 3, 0, none, true⟩] τ ρ h := _root_.id rfl
def ref3_same_r5 : List Sop := [
  ⟨some (15, false), .move (.tmp 13), 3, none, true⟩,
  ⟨some (5, true), .assign (.tmp 15), 3, none, true⟩]
theorem ref3_same_r5_go {K : Env → Heap → Prop} {τ ρ : Env} {h : Heap} : vcOps Try.prog K ref3_same_r5 τ ρ h = vcOps Try.prog K [
  ⟨some (15, false), .move (.tmp 13), 3, none, true⟩,
  ⟨some (5, true), .assign (.tmp 15), 3, none, true⟩] τ ρ h := _root_.id rfl
def ref3_same_r6 : List (Sop × List Sop) := [
  (⟨some (16, false), .move (.tmp 0), 24, none, true⟩, []),
  (⟨some (17, false), .move (.tmp 5), 3, none, true⟩, []),
  (⟨some (18, false), .indexAddr 24 (.tmp 16) (.tmp 17), 0, none, true⟩, []),
  (⟨some (19, false), .load 35 (.tmp 18), 35, none, true⟩, []),
  (⟨some (20, false), .move (.tmp 1), 24, none, true⟩, []),
  (⟨some (21, false), .move (.tmp 5), 3, none, true⟩, []),
  (⟨some (22, false), .indexAddr 24 (.tmp 20) (.tmp 21), 0, none, true⟩, []),
  (⟨some (23, false), .load 35 (.tmp 22), 35, none, true⟩, []),
  (⟨some (24, true), .binOp .neq 35 (.tmp 19) (.tmp 23) 35, 4, none, true⟩, [])]
theorem ref3_same_r6_go {K : Env → Heap → Prop} {τ ρ : Env} {h : Heap} : vcDraw Try.prog K ref3_same_r6 τ ρ h = vcDraw Try.prog K [
  (⟨some (16, false), .move (.tmp 0), 24, none, true⟩, []),
  (⟨some (17, false), .move (.tmp 5), 3, none, true⟩, []),
  (⟨some (18, false), .indexAddr 24 (.tmp 16) (.tmp 17), 0, none, true⟩, []),
  (⟨some (19, false), .load 35 (.tmp 18), 35, none, true⟩, []),
  (⟨some (20, false), .move (.tmp 1), 24, none, true⟩, []),
  (⟨some (21, false), .move (.tmp 5), 3, none, true⟩, []),
  (⟨some (22, false), .indexAddr 24 (.tmp 20) (.tmp 21), 0, none, true⟩, []),
  (⟨some (23, false), .load 35 (.tmp 22), 35, none, true⟩, []),
  (⟨some (24, true), .binOp .neq 35 (.tmp 19) (.tmp 23) 35, 4, none, true⟩, [])] τ ρ h := _root_.id rfl
def ref3_same_r7 : List Sop := [
  ⟨some (4, true), .assign (.const (.bool false)), 4, none, true⟩]
theorem ref3_same_r7_go {K : Env → Heap → Prop} {τ ρ : Env} {h : Heap} : vcOps Try.prog K ref3_same_r7 τ ρ h = vcOps Try.prog K [
  ⟨some (4, true), .assign (.const (.bool false)), 4, none, true⟩] τ ρ h := _root_.id rfl
def ref3_same_r8 : List Sop := [
  ⟨some (25, false), .binOp .add 3 (.tmp 13) (.const (.int .i64 1)) 3, 3, none, true⟩,
  ⟨some (13, true), .move (.tmp 25), 3, none, true⟩]
theorem ref3_same_r8_go {K : Env → Heap → Prop} {τ ρ : Env} {h : Heap} : vcOps Try.prog K ref3_same_r8 τ ρ h = vcOps Try.prog K [
  ⟨some (25, false), .binOp .add 3 (.tmp 13) (.const (.int .i64 1)) 3, 3, none, true⟩,
  ⟨some (13, true), .move (.tmp 25), 3, none, true⟩] τ ρ h := _root_.id rfl
def ref3_same_r9 : List Sop := [
  ⟨some (4, true), .assign (.const (.bool true)), 4, none, true⟩]
theorem ref3_same_r9_go {K : Env → Heap → Prop} {τ ρ : Env} {h : Heap} : vcOps Try.prog K ref3_same_r9 τ ρ h = vcOps Try.prog K [
  ⟨some (4, true), .assign (.const (.bool true)), 4, none, true⟩] τ ρ h := _root_.id rfl
def ref3_same_l0 : Cd := .seq (.region ref3_same_r4) (.seq (.cond (.tmp 14) (.skip) (.exit 0)) (.seq (.block 1 (.seq (.region ref3_same_r5) (.seq (.draw ref3_same_r6) (.cond (.tmp 24) (.seq (.region ref3_same_r7) (.ret)) (.skip))))) (.region ref3_same_r8)))
theorem ref3_same_l0_go {Q : Ex → Env → Heap → Prop} {ρ : Env} {h : Heap} : Cd.vc Try.prog ref3_same_l0 Q ρ h = Cd.vc Try.prog (.seq (.region ref3_same_r4) (.seq (.cond (.tmp 14) (.skip) (.exit 0)) (.seq (.block 1 (.seq (.region ref3_same_r5) (.seq (.draw ref3_same_r6) (.cond (.tmp 24) (.seq (.region ref3_same_r7) (.ret)) (.skip))))) (.region ref3_same_r8)))) Q ρ h := _root_.id rfl
def ref3_same : Cd := .seq (.region ref3_same_r0) (.seq (.seq (.region ref3_same_r1) (.cond (.tmp 10) (.seq (.region ref3_same_r2) (.ret)) (.skip))) (.seq (.seq (.region ref3_same_r3) (.block 0 (.loop ref3_same_l0))) (.seq (.region ref3_same_r9) (.ret))))
theorem ref3_same_go {Q : Ex → Env → Heap → Prop} {ρ : Env} {h : Heap} : Cd.vc Try.prog ref3_same Q ρ h = Cd.vc Try.prog (.seq (.region ref3_same_r0) (.seq (.seq (.region ref3_same_r1) (.cond (.tmp 10) (.seq (.region ref3_same_r2) (.ret)) (.skip))) (.seq (.seq (.region ref3_same_r3) (.block 0 (.loop ref3_same_l0))) (.seq (.region ref3_same_r9) (.ret))))) Q ρ h := _root_.id rfl
theorem ref3_same_calls {args : List Value} {h : Heap} {R : Value → Heap → Prop} (hl : args.length = 2) (hv : Cd.vc Try.prog ref3_same (retQ Try.prog [(4, none)] R) (initEnv args [0, 1, 4, 5, 10, 12, 13, 14, 24]) h) : HCalls Try.prog 20 args.toArray h R :=
  hcalls_of_vc (by kernel_rfl) Try.func20 (cd := ref3_same) (L := [0, 1, 4, 5, 10, 12, 13, 14, 24]) (by kernel_rfl) (by kernel_rfl) ⟨by rw [hl, Try.ntmps20]; decide, by rw [Try.ntmps20]; decide⟩ hv
def ref3_same_gos := And.intro @ref3_same_go (And.intro @ref3_same_r0_go (And.intro @ref3_same_r1_go (And.intro @ref3_same_r2_go (And.intro @ref3_same_r3_go (And.intro @ref3_same_r4_go (And.intro @ref3_same_r5_go (And.intro @ref3_same_r6_go (And.intro @ref3_same_r7_go (And.intro @ref3_same_r8_go (And.intro @ref3_same_r9_go (@ref3_same_l0_go)))))))))))

/-! jvmcore/jvmcoreref1.ClassOf: function 37: slots [0, 1, 4, 5, 9] -/
def ref1_ClassOf_r0 : List Sop := [
  ⟨some (4, true), .assign (.const (.string { data := #[] })), 9, none, true⟩,
  ⟨some (5, true), .assign (.const (.bool false)), 4, none, true⟩]
theorem ref1_ClassOf_r0_go {K : Env → Heap → Prop} {τ ρ : Env} {h : Heap} : vcOps Try.prog K ref1_ClassOf_r0 τ ρ h = vcOps Try.prog K [
  ⟨some (4, true), .assign (.const (.string { data := #[] })), 9, none, true⟩,
  ⟨some (5, true), .assign (.const (.bool false)), 4, none, true⟩] τ ρ h := _root_.id rfl
def ref1_ClassOf_r1 : List Sop := [
  ⟨some (6, false), .move (.tmp 0), 23, none, true⟩,
  ⟨some (7, false), .move (.tmp 1), 3, none, true⟩,
  ⟨some (8, false), .call { callee := .value (.func 42), args := #[.tmp 6, .tmp 7, .const (.int .u8 7)], argTypes := #[23, 3, 5] }, 4, none, false⟩,
  ⟨some (9, true), .unOp .not 4 (.tmp 8), 4, none, true⟩]
theorem ref1_ClassOf_r1_go {K : Env → Heap → Prop} {τ ρ : Env} {h : Heap} : vcOps Try.prog K ref1_ClassOf_r1 τ ρ h = vcOps Try.prog K [
  ⟨some (6, false), .move (.tmp 0), 23, none, true⟩,
  ⟨some (7, false), .move (.tmp 1), 3, none, true⟩,
  ⟨some (8, false), .call { callee := .value (.func 42), args := #[.tmp 6, .tmp 7, .const (.int .u8 7)], argTypes := #[23, 3, 5] }, 4, none, false⟩,
  ⟨some (9, true), .unOp .not 4 (.tmp 8), 4, none, true⟩] τ ρ h := _root_.id rfl
def ref1_ClassOf_r2 : List Sop := [
  ⟨some (4, true), .assign (.const (.string { data := #[] })), 9, none, true⟩,
  ⟨some (5, true), .assign (.const (.bool false)), 4, none, true⟩]
theorem ref1_ClassOf_r2_go {K : Env → Heap → Prop} {τ ρ : Env} {h : Heap} : vcOps Try.prog K ref1_ClassOf_r2 τ ρ h = vcOps Try.prog K [
  ⟨some (4, true), .assign (.const (.string { data := #[] })), 9, none, true⟩,
  ⟨some (5, true), .assign (.const (.bool false)), 4, none, true⟩] τ ρ h := _root_.id rfl
def ref1_ClassOf_r3 : List Sop := [
  ⟨some (10, false), .move (.tmp 0), 23, none, true⟩,
  ⟨some (11, false), .move (.tmp 0), 23, none, true⟩,
  ⟨some (12, false), .move (.tmp 1), 3, none, true⟩,
  ⟨some (13, false), .indexAddr 23 (.tmp 11) (.tmp 12), 0, none, true⟩,
  ⟨some (14, false), .fieldAddr 54 (.tmp 13) 3, 0, none, true⟩,
  ⟨some (15, false), .load 52 (.tmp 14), 52, none, true⟩,
  ⟨some (16, false), .convert 52 3 (.tmp 15), 3, none, true⟩,
  ⟨some (17, false), .call { callee := .value (.func 48), args := #[.tmp 10, .tmp 16], argTypes := #[23, 3] }, 71, none, false⟩,
  ⟨some (18, false), .extract (.tmp 17) 0, 9, none, true⟩,
  ⟨some (19, false), .extract (.tmp 17) 1, 4, none, true⟩,
  ⟨some (4, true), .assign (.tmp 18), 9, none, true⟩,
  ⟨some (5, true), .assign (.tmp 19), 4, none, true⟩]
theorem ref1_ClassOf_r3_go {K : Env → Heap → Prop} {τ ρ : Env} {h : Heap} : vcOps Try.prog K ref1_ClassOf_r3 τ ρ h = vcOps Try.prog K [
  ⟨some (10, false), .move (.tmp 0), 23, none, true⟩,
  ⟨some (11, false), .move (.tmp 0), 23, none, true⟩,
  ⟨some (12, false), .move (.tmp 1), 3, none, true⟩,
  ⟨some (13, false), .indexAddr 23 (.tmp 11) (.tmp 12), 0, none, true⟩,
  ⟨some (14, false), .fieldAddr 54 (.tmp 13) 3, 0, none, true⟩,
  ⟨some (15, false), .load 52 (.tmp 14), 52, none, true⟩,
  ⟨some (16, false), .convert 52 3 (.tmp 15), 3, none, true⟩,
  ⟨some (17, false), .call { callee := .value (.func 48), args := #[.tmp 10, .tmp 16], argTypes := #[23, 3] }, 71, none, false⟩,
  ⟨some (18, false), .extract (.tmp 17) 0, 9, none, true⟩,
  ⟨some (19, false), .extract (.tmp 17) 1, 4, none, true⟩,
  ⟨some (4, true), .assign (.tmp 18), 9, none, true⟩,
  ⟨some (5, true), .assign (.tmp 19), 4, none, true⟩] τ ρ h := _root_.id rfl
def ref1_ClassOf : Cd := .seq (.region ref1_ClassOf_r0) (.seq (.seq (.region ref1_ClassOf_r1) (.cond (.tmp 9) (.seq (.region ref1_ClassOf_r2) (.ret)) (.skip))) (.seq (.region ref1_ClassOf_r3) (.ret)))
theorem ref1_ClassOf_go {Q : Ex → Env → Heap → Prop} {ρ : Env} {h : Heap} : Cd.vc Try.prog ref1_ClassOf Q ρ h = Cd.vc Try.prog (.seq (.region ref1_ClassOf_r0) (.seq (.seq (.region ref1_ClassOf_r1) (.cond (.tmp 9) (.seq (.region ref1_ClassOf_r2) (.ret)) (.skip))) (.seq (.region ref1_ClassOf_r3) (.ret)))) Q ρ h := _root_.id rfl
theorem ref1_ClassOf_calls {args : List Value} {h : Heap} {R : Value → Heap → Prop} (hl : args.length = 2) (hv : Cd.vc Try.prog ref1_ClassOf (retQ Try.prog [(4, none), (5, none)] R) (initEnv args [0, 1, 4, 5, 9]) h) : HCalls Try.prog 37 args.toArray h R :=
  hcalls_of_vc (by kernel_rfl) Try.func37 (cd := ref1_ClassOf) (L := [0, 1, 4, 5, 9]) (by kernel_rfl) (by kernel_rfl) ⟨by rw [hl, Try.ntmps37]; decide, by rw [Try.ntmps37]; decide⟩ hv
def ref1_ClassOf_gos := And.intro @ref1_ClassOf_go (And.intro @ref1_ClassOf_r0_go (And.intro @ref1_ClassOf_r1_go (And.intro @ref1_ClassOf_r2_go (@ref1_ClassOf_r3_go))))

/-! jvmcore/jvmcoreref1.Is: function 42: slots [0, 1, 2, 6] -/
def ref1_Is_r0 : List Sop := [
  ⟨some (6, true), .assign (.const (.bool false)), 4, none, true⟩]
theorem ref1_Is_r0_go {K : Env → Heap → Prop} {τ ρ : Env} {h : Heap} : vcOps Try.prog K ref1_Is_r0 τ ρ h = vcOps Try.prog K [
  ⟨some (6, true), .assign (.const (.bool false)), 4, none, true⟩] τ ρ h := _root_.id rfl
def ref1_Is_r1 : List Sop := [
  ⟨some (7, false), .move (.tmp 1), 3, none, true⟩,
  ⟨some (8, false), .binOp .gtr 3 (.tmp 7) (.const (.int .i64 0)) 3, 4, none, true⟩,
  ⟨some (9, false), .move (.tmp 8), 4, none, true⟩,
  ⟨some (10, false), .move (.tmp 1), 3, some (9, true), true⟩,
  ⟨some (11, false), .move (.tmp 0), 23, some (9, true), true⟩,
  ⟨some (12, false), .call { callee := .builtin .len, args := #[.tmp 11], argTypes := #[23] }, 3, some (9, true), true⟩,
  ⟨some (13, false), .binOp .lss 3 (.tmp 10) (.tmp 12) 3, 4, some (9, true), true⟩,
  ⟨some (14, false), .pick (.tmp 9) (.tmp 13) (.const (.bool false)), 4, none, true⟩,
  ⟨some (15, false), .move (.tmp 14), 4, none, true⟩,
  ⟨some (16, false), .move (.tmp 0), 23, some (15, true), true⟩,
  ⟨some (17, false), .move (.tmp 1), 3, some (15, true), true⟩,
  ⟨some (18, false), .indexAddr 23 (.tmp 16) (.tmp 17), 0, some (15, true), true⟩,
  ⟨some (19, false), .fieldAddr 54 (.tmp 18) 0, 0, some (15, true), true⟩,
  ⟨some (20, false), .load 5 (.tmp 19), 5, some (15, true), true⟩,
  ⟨some (21, false), .move (.tmp 2), 5, some (15, true), true⟩,
  ⟨some (22, false), .binOp .eql 5 (.tmp 20) (.tmp 21) 5, 4, some (15, true), true⟩,
  ⟨some (23, false), .pick (.tmp 15) (.tmp 22) (.const (.bool false)), 4, none, true⟩,
  ⟨some (6, true), .assign (.tmp 23), 4, none, true⟩]
theorem ref1_Is_r1_go {K : Env → Heap → Prop} {τ ρ : Env} {h : Heap} : vcOps Try.prog K ref1_Is_r1 τ ρ h = vcOps Try.prog K [
  ⟨some (7, false), .move (.tmp 1), 3, none, true⟩,
  ⟨some (8, false), .binOp .gtr 3 (.tmp 7) (.const (.int .i64 0)) 3, 4, none, true⟩,
  ⟨some (9, false), .move (.tmp 8), 4, none, true⟩,
  ⟨some (10, false), .move (.tmp 1), 3, some (9, true), true⟩,
  ⟨some (11, false), .move (.tmp 0), 23, some (9, true), true⟩,
  ⟨some (12, false), .call { callee := .builtin .len, args := #[.tmp 11], argTypes := #[23] }, 3, some (9, true), true⟩,
  ⟨some (13, false), .binOp .lss 3 (.tmp 10) (.tmp 12) 3, 4, some (9, true), true⟩,
  ⟨some (14, false), .pick (.tmp 9) (.tmp 13) (.const (.bool false)), 4, none, true⟩,
  ⟨some (15, false), .move (.tmp 14), 4, none, true⟩,
  ⟨some (16, false), .move (.tmp 0), 23, some (15, true), true⟩,
  ⟨some (17, false), .move (.tmp 1), 3, some (15, true), true⟩,
  ⟨some (18, false), .indexAddr 23 (.tmp 16) (.tmp 17), 0, some (15, true), true⟩,
  ⟨some (19, false), .fieldAddr 54 (.tmp 18) 0, 0, some (15, true), true⟩,
  ⟨some (20, false), .load 5 (.tmp 19), 5, some (15, true), true⟩,
  ⟨some (21, false), .move (.tmp 2), 5, some (15, true), true⟩,
  ⟨some (22, false), .binOp .eql 5 (.tmp 20) (.tmp 21) 5, 4, some (15, true), true⟩,
  ⟨some (23, false), .pick (.tmp 15) (.tmp 22) (.const (.bool false)), 4, none, true⟩,
  ⟨some (6, true), .assign (.tmp 23), 4, none, true⟩] τ ρ h := _root_.id rfl
def ref1_Is : Cd := .seq (.region ref1_Is_r0) (.seq (.region ref1_Is_r1) (.ret))
theorem ref1_Is_go {Q : Ex → Env → Heap → Prop} {ρ : Env} {h : Heap} : Cd.vc Try.prog ref1_Is Q ρ h = Cd.vc Try.prog (.seq (.region ref1_Is_r0) (.seq (.region ref1_Is_r1) (.ret))) Q ρ h := _root_.id rfl
theorem ref1_Is_calls {args : List Value} {h : Heap} {R : Value → Heap → Prop} (hl : args.length = 3) (hv : Cd.vc Try.prog ref1_Is (retQ Try.prog [(6, none)] R) (initEnv args [0, 1, 2, 6]) h) : HCalls Try.prog 42 args.toArray h R :=
  hcalls_of_vc (by kernel_rfl) Try.func42 (cd := ref1_Is) (L := [0, 1, 2, 6]) (by kernel_rfl) (by kernel_rfl) ⟨by rw [hl, Try.ntmps42]; decide, by rw [Try.ntmps42]; decide⟩ hv
def ref1_Is_gos := And.intro @ref1_Is_go (And.intro @ref1_Is_r0_go (@ref1_Is_r1_go))

/-! jvmcore/jvmcoreref1.String: function 48: slots [0, 1, 4, 5, 8] -/
def ref1_String_r0 : List Sop := [
  ⟨some (4, true), .assign (.const (.string { data := #[] })), 9, none, true⟩,
  ⟨some (5, true), .assign (.const (.bool false)), 4, none, true⟩]
theorem ref1_String_r0_go {K : Env → Heap → Prop} {τ ρ : Env} {h : Heap} : vcOps Try.prog K ref1_String_r0 τ ρ h = vcOps Try.prog K [
  ⟨some (4, true), .assign (.const (.string { data := #[] })), 9, none, true⟩,
  ⟨some (5, true), .assign (.const (.bool false)), 4, none, true⟩] τ ρ h := _root_.id rfl
def ref1_String_r1 : List Sop := [
  ⟨some (6, false), .move (.tmp 0), 23, none, true⟩,
  ⟨some (7, false), .move (.tmp 1), 3, none, true⟩,
  ⟨some (8, true), .call { callee := .value (.func 42), args := #[.tmp 6, .tmp 7, .const (.int .u8 1)], argTypes := #[23, 3, 5] }, 4, none, false⟩]
theorem ref1_String_r1_go {K : Env → Heap → Prop} {τ ρ : Env} {h : Heap} : vcOps Try.prog K ref1_String_r1 τ ρ h = vcOps Try.prog K [
  ⟨some (6, false), .move (.tmp 0), 23, none, true⟩,
  ⟨some (7, false), .move (.tmp 1), 3, none, true⟩,
  ⟨some (8, true), .call { callee := .value (.func 42), args := #[.tmp 6, .tmp 7, .const (.int .u8 1)], argTypes := #[23, 3, 5] }, 4, none, false⟩] τ ρ h := _root_.id rfl
def ref1_String_r2 : List Sop := [
  ⟨some (9, false), .move (.tmp 0), 23, none, true⟩,
  ⟨some (10, false), .move (.tmp 1), 3, none, true⟩,
  ⟨some (11, false), .indexAddr 23 (.tmp 9) (.tmp 10), 0, none, true⟩,
  ⟨some (12, false), .fieldAddr 54 (.tmp 11) 1, 0, none, true⟩,
  ⟨some (13, false), .load 9 (.tmp 12), 9, none, true⟩,
  ⟨some (4, true), .assign (.tmp 13), 9, none, true⟩,
  ⟨some (5, true), .assign (.const (.bool true)), 4, none, true⟩]
theorem ref1_String_r2_go {K : Env → Heap → Prop} {τ ρ : Env} {h : Heap} : vcOps Try.prog K ref1_String_r2 τ ρ h = vcOps Try.prog K [
  ⟨some (9, false), .move (.tmp 0), 23, none, true⟩,
  ⟨some (10, false), .move (.tmp 1), 3, none, true⟩,
  ⟨some (11, false), .indexAddr 23 (.tmp 9) (.tmp 10), 0, none, true⟩,
  ⟨some (12, false), .fieldAddr 54 (.tmp 11) 1, 0, none, true⟩,
  ⟨some (13, false), .load 9 (.tmp 12), 9, none, true⟩,
  ⟨some (4, true), .assign (.tmp 13), 9, none, true⟩,
  ⟨some (5, true), .assign (.const (.bool true)), 4, none, true⟩] τ ρ h := _root_.id rfl
def ref1_String_r3 : List Sop := [
  ⟨some (4, true), .assign (.const (.string { data := #[] })), 9, none, true⟩,
  ⟨some (5, true), .assign (.const (.bool false)), 4, none, true⟩]
theorem ref1_String_r3_go {K : Env → Heap → Prop} {τ ρ : Env} {h : Heap} : vcOps Try.prog K ref1_String_r3 τ ρ h = vcOps Try.prog K [
  ⟨some (4, true), .assign (.const (.string { data := #[] })), 9, none, true⟩,
  ⟨some (5, true), .assign (.const (.bool false)), 4, none, true⟩] τ ρ h := _root_.id rfl
def ref1_String : Cd := .seq (.region ref1_String_r0) (.seq (.seq (.region ref1_String_r1) (.cond (.tmp 8) (.seq (.region ref1_String_r2) (.ret)) (.skip))) (.seq (.region ref1_String_r3) (.ret)))
theorem ref1_String_go {Q : Ex → Env → Heap → Prop} {ρ : Env} {h : Heap} : Cd.vc Try.prog ref1_String Q ρ h = Cd.vc Try.prog (.seq (.region ref1_String_r0) (.seq (.seq (.region ref1_String_r1) (.cond (.tmp 8) (.seq (.region ref1_String_r2) (.ret)) (.skip))) (.seq (.region ref1_String_r3) (.ret)))) Q ρ h := _root_.id rfl
theorem ref1_String_calls {args : List Value} {h : Heap} {R : Value → Heap → Prop} (hl : args.length = 2) (hv : Cd.vc Try.prog ref1_String (retQ Try.prog [(4, none), (5, none)] R) (initEnv args [0, 1, 4, 5, 8]) h) : HCalls Try.prog 48 args.toArray h R :=
  hcalls_of_vc (by kernel_rfl) Try.func48 (cd := ref1_String) (L := [0, 1, 4, 5, 8]) (by kernel_rfl) (by kernel_rfl) ⟨by rw [hl, Try.ntmps48]; decide, by rw [Try.ntmps48]; decide⟩ hv
def ref1_String_gos := And.intro @ref1_String_go (And.intro @ref1_String_r0_go (And.intro @ref1_String_r1_go (And.intro @ref1_String_r2_go (@ref1_String_r3_go))))

end Go.Proofs.Ythhfbnkmhgadaaa.C
