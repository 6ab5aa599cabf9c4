/- The stripped code of some functions of this seat's program, printed by a program; that it is that code is proved by the kernel. No condition. -/

import Derived.Test.YtohkbpnblkkdgaaProg

import Derived.Test.YtohkbpnblkkdgaaVcH

set_option maxRecDepth 100000

set_option linter.defProp false

namespace Go.Proofs.Ytohkbpnblkkdgaa.C

open Go.Vc

/-! jvmcore/maps.Write: function 13: slots [0, 1, 2, 6, 7, 8, 9, 10, 11, 12, 13, 19, 25, 26, 27, 28, 52, 67] -/
def maps_Write_r0 : List Sop := [
  ⟨some (6, true), .assign (.const (.string { data := #[] })), 9, none, true⟩,
  ⟨some (7, true), .assign (.const (.int .i64 0)), 27, none, true⟩,
  ⟨some (8, true), .assign (.const (.int .i64 0)), 3, none, true⟩]
theorem maps_Write_r0_go {K : Env → Heap → Prop} {τ ρ : Env} {h : Heap} : vcOps Try.prog K maps_Write_r0 τ ρ h = vcOps Try.prog K [
  ⟨some (6, true), .assign (.const (.string { data := #[] })), 9, none, true⟩,
  ⟨some (7, true), .assign (.const (.int .i64 0)), 27, none, true⟩,
  ⟨some (8, true), .assign (.const (.int .i64 0)), 3, none, true⟩] τ ρ h := _root_.id rfl
def maps_Write_r1 : List Sop := [
  ⟨some (14, false), .move (.tmp 1), 22, none, true⟩,
  ⟨some (15, false), .build 71 #[(1, .tmp 14)], 71, none, true⟩,
  ⟨some (16, false), .box 71 (.tmp 15), 68, none, false⟩,
  ⟨some (9, true), .assign (.tmp 16), 68, none, true⟩]
theorem maps_Write_r1_go {K : Env → Heap → Prop} {τ ρ : Env} {h : Heap} : vcOps Try.prog K maps_Write_r1 τ ρ h = vcOps Try.prog K [
  ⟨some (14, false), .move (.tmp 1), 22, none, true⟩,
  ⟨some (15, false), .build 71 #[(1, .tmp 14)], 71, none, true⟩,
  ⟨some (16, false), .box 71 (.tmp 15), 68, none, false⟩,
  ⟨some (9, true), .assign (.tmp 16), 68, none, true⟩] τ ρ h := _root_.id rfl
def maps_Write_r2 : List Sop := [
  ⟨some (17, false), .move (.tmp 0), 26, none, true⟩,
  ⟨some (18, false), .call { callee := .builtin .len, args := #[.tmp 17], argTypes := #[26] }, 3, none, true⟩,
  ⟨some (19, true), .binOp .gtr 3 (.tmp 18) (.const (.int .i64 65535)) 3, 4, none, true⟩]
theorem maps_Write_r2_go {K : Env → Heap → Prop} {τ ρ : Env} {h : Heap} : vcOps Try.prog K maps_Write_r2 τ ρ h = vcOps Try.prog K [
  ⟨some (17, false), .move (.tmp 0), 26, none, true⟩,
  ⟨some (18, false), .call { callee := .builtin .len, args := #[.tmp 17], argTypes := #[26] }, 3, none, true⟩,
  ⟨some (19, true), .binOp .gtr 3 (.tmp 18) (.const (.int .i64 65535)) 3, 4, none, true⟩] τ ρ h := _root_.id rfl
def maps_Write_r3 : List Sop := [
  ⟨some (6, true), .assign (.const (.string { data := #[] })), 9, none, true⟩,
  ⟨some (7, true), .assign (.const (.int .i64 12)), 27, none, true⟩,
  ⟨some (8, true), .assign (.const (.int .i64 0)), 3, none, true⟩]
theorem maps_Write_r3_go {K : Env → Heap → Prop} {τ ρ : Env} {h : Heap} : vcOps Try.prog K maps_Write_r3 τ ρ h = vcOps Try.prog K [
  ⟨some (6, true), .assign (.const (.string { data := #[] })), 9, none, true⟩,
  ⟨some (7, true), .assign (.const (.int .i64 12)), 27, none, true⟩,
  ⟨some (8, true), .assign (.const (.int .i64 0)), 3, none, true⟩] τ ρ h := _root_.id rfl
def maps_Write_r4 : List Sop := [
  ⟨some (20, false), .move (.tmp 9), 68, none, true⟩,
  ⟨some (21, false), .move (.tmp 0), 26, none, true⟩,
  ⟨some (22, false), .call { callee := .builtin .len, args := #[.tmp 21], argTypes := #[26] }, 3, none, true⟩,
  ⟨some (23, false), .call { callee := .value (.func 35), args := #[.tmp 20, .tmp 22, .const (.int .i64 2)], argTypes := #[68, 3, 3] }, 0, none, false⟩]
theorem maps_Write_r4_go {K : Env → Heap → Prop} {τ ρ : Env} {h : Heap} : vcOps Try.prog K maps_Write_r4 τ ρ h = vcOps Try.prog K [
  ⟨some (20, false), .move (.tmp 9), 68, none, true⟩,
  ⟨some (21, false), .move (.tmp 0), 26, none, true⟩,
  ⟨some (22, false), .call { callee := .builtin .len, args := #[.tmp 21], argTypes := #[26] }, 3, none, true⟩,
  ⟨some (23, false), .call { callee := .value (.func 35), args := #[.tmp 20, .tmp 22, .const (.int .i64 2)], argTypes := #[68, 3, 3] }, 0, none, false⟩] τ ρ h := _root_.id rfl
def maps_Write_r5 : List Sop := [
  ⟨some (24, false), .move (.tmp 2), 23, none, true⟩,
  ⟨some (10, true), .assign (.tmp 24), 23, none, true⟩]
theorem maps_Write_r5_go {K : Env → Heap → Prop} {τ ρ : Env} {h : Heap} : vcOps Try.prog K maps_Write_r5 τ ρ h = vcOps Try.prog K [
  ⟨some (24, false), .move (.tmp 2), 23, none, true⟩,
  ⟨some (10, true), .assign (.tmp 24), 23, none, true⟩] τ ρ h := _root_.id rfl
def maps_Write_r6 : List Sop := [
  ⟨some (11, true), .assign (.const (.int .i64 (-1))), 3, none, true⟩]
theorem maps_Write_r6_go {K : Env → Heap → Prop} {τ ρ : Env} {h : Heap} : vcOps Try.prog K maps_Write_r6 τ ρ h = vcOps Try.prog K [
  ⟨some (11, true), .assign (.const (.int .i64 (-1))), 3, none, true⟩] τ ρ h := _root_.id rfl
def maps_Write_r7 : List Sop := [
  ⟨some (25, true), .move (.tmp 0), 26, none, true⟩,
  ⟨some (26, true), .call { callee := .builtin .len, args := #[.tmp 25], argTypes := #[26] }, 3, none, true⟩,
  ⟨some (27, true), .move (.const (.int .i64 0)), 3, none, true⟩]
theorem maps_Write_r7_go {K : Env → Heap → Prop} {τ ρ : Env} {h : Heap} : vcOps Try.prog K maps_Write_r7 τ ρ h = vcOps Try.prog K [
  ⟨some (25, true), .move (.tmp 0), 26, none, true⟩,
  ⟨some (26, true), .call { callee := .builtin .len, args := #[.tmp 25], argTypes := #[26] }, 3, none, true⟩,
  ⟨some (27, true), .move (.const (.int .i64 0)), 3, none, true⟩] τ ρ h := _root_.id rfl
def maps_Write_r8 : List Sop := [
  ⟨some (28, true), .binOp .lss 3 (.tmp 27) (.tmp 26) 3, 0, none, true⟩]
theorem maps_Write_r8_go {K : Env → Heap → Prop} {τ ρ : Env} {h : Heap} : vcOps Try.prog K maps_Write_r8 τ ρ h = vcOps Try.prog K [
  ⟨some (28, true), .binOp .lss 3 (.tmp 27) (.tmp 26) 3, 0, none, true⟩] τ ρ h := _root_.id rfl
def maps_Write_r9 : List Sop := [
  ⟨some (29, false), .move (.tmp 27), 3, none, true⟩,
  ⟨some (30, false), .indexAddr 26 (.tmp 25) (.tmp 27), 0, none, true⟩,
  ⟨some (31, false), .load 35 (.tmp 30), 35, none, true⟩,
  ⟨some (13, true), .alloc 35, 0, none, false⟩,
  ⟨some (12, true), .assign (.tmp 29), 3, none, true⟩,
  ⟨none, .store 35 (.tmp 13) (.tmp 31), 0, none, false⟩]
theorem maps_Write_r9_go {K : Env → Heap → Prop} {τ ρ : Env} {h : Heap} : vcOps Try.prog K maps_Write_r9 τ ρ h = vcOps Try.prog K [
  ⟨some (29, false), .move (.tmp 27), 3, none, true⟩,
  ⟨some (30, false), .indexAddr 26 (.tmp 25) (.tmp 27), 0, none, true⟩,
  ⟨some (31, false), .load 35 (.tmp 30), 35, none, true⟩,
  ⟨some (13, true), .alloc 35, 0, none, false⟩,
  ⟨some (12, true), .assign (.tmp 29), 3, none, true⟩,
  ⟨none, .store 35 (.tmp 13) (.tmp 31), 0, none, false⟩] τ ρ h := _root_.id rfl
def maps_Write_r10 : List Sop := [
  ⟨some (32, false), .fieldAddr 35 (.tmp 13) 0, 0, none, true⟩,
  ⟨some (33, false), .load 3 (.tmp 32), 3, none, true⟩,
  ⟨some (34, false), .move (.tmp 11), 3, none, true⟩,
  ⟨some (35, false), .binOp .leq 3 (.tmp 33) (.tmp 34) 3, 4, none, true⟩,
  ⟨some (36, false), .move (.tmp 35), 4, none, true⟩,
  ⟨some (37, false), .fieldAddr 35 (.tmp 13) 0, 0, some (36, false), true⟩,
  ⟨some (38, false), .load 3 (.tmp 37), 3, some (36, false), true⟩,
  ⟨some (39, false), .binOp .gtr 3 (.tmp 38) (.const (.int .i64 65535)) 3, 4, some (36, false), true⟩,
  ⟨some (40, false), .pick (.tmp 36) (.const (.bool true)) (.tmp 39), 4, none, true⟩,
  ⟨some (41, false), .move (.tmp 40), 4, none, true⟩,
  ⟨some (42, false), .fieldAddr 35 (.tmp 13) 1, 0, some (41, false), true⟩,
  ⟨some (43, false), .load 23 (.tmp 42), 23, some (41, false), true⟩,
  ⟨some (44, false), .call { callee := .builtin .len, args := #[.tmp 43], argTypes := #[23] }, 3, some (41, false), true⟩,
  ⟨some (45, false), .binOp .gtr 3 (.tmp 44) (.const (.int .i64 65535)) 3, 4, some (41, false), true⟩,
  ⟨some (46, false), .pick (.tmp 41) (.const (.bool true)) (.tmp 45), 4, none, true⟩,
  ⟨some (47, false), .move (.tmp 46), 4, none, true⟩,
  ⟨some (48, false), .fieldAddr 35 (.tmp 13) 2, 0, some (47, false), true⟩,
  ⟨some (49, false), .load 23 (.tmp 48), 23, some (47, false), true⟩,
  ⟨some (50, false), .call { callee := .builtin .len, args := #[.tmp 49], argTypes := #[23] }, 3, some (47, false), true⟩,
  ⟨some (51, false), .binOp .gtr 3 (.tmp 50) (.const (.int .i64 65535)) 3, 4, some (47, false), true⟩,
  ⟨some (52, true), .pick (.tmp 47) (.const (.bool true)) (.tmp 51), 4, none, true⟩]
theorem maps_Write_r10_go {K : Env → Heap → Prop} {τ ρ : Env} {h : Heap} : vcOps Try.prog K maps_Write_r10 τ ρ h = vcOps Try.prog K [
  ⟨some (32, false), .fieldAddr 35 (.tmp 13) 0, 0, none, true⟩,
  ⟨some (33, false), .load 3 (.tmp 32), 3, none, true⟩,
  ⟨some (34, false), .move (.tmp 11), 3, none, true⟩,
  ⟨some (35, false), .binOp .leq 3 (.tmp 33) (.tmp 34) 3, 4, none, true⟩,
  ⟨some (36, false), .move (.tmp 35), 4, none, true⟩,
  ⟨some (37, false), .fieldAddr 35 (.tmp 13) 0, 0, some (36, false), true⟩,
  ⟨some (38, false), .load 3 (.tmp 37), 3, some (36, false), true⟩,
  ⟨some (39, false), .binOp .gtr 3 (.tmp 38) (.const (.int .i64 65535)) 3, 4, some (36, false), true⟩,
  ⟨some (40, false), .pick (.tmp 36) (.const (.bool true)) (.tmp 39), 4, none, true⟩,
  ⟨some (41, false), .move (.tmp 40), 4, none, true⟩,
  ⟨some (42, false), .fieldAddr 35 (.tmp 13) 1, 0, some (41, false), true⟩,
  ⟨some (43, false), .load 23 (.tmp 42), 23, some (41, false), true⟩,
  ⟨some (44, false), .call { callee := .builtin .len, args := #[.tmp 43], argTypes := #[23] }, 3, some (41, false), true⟩,
  ⟨some (45, false), .binOp .gtr 3 (.tmp 44) (.const (.int .i64 65535)) 3, 4, some (41, false), true⟩,
  ⟨some (46, false), .pick (.tmp 41) (.const (.bool true)) (.tmp 45), 4, none, true⟩,
  ⟨some (47, false), .move (.tmp 46), 4, none, true⟩,
  ⟨some (48, false), .fieldAddr 35 (.tmp 13) 2, 0, some (47, false), true⟩,
  ⟨some (49, false), .load 23 (.tmp 48), 23, some (47, false), true⟩,
  ⟨some (50, false), .call { callee := .builtin .len, args := #[.tmp 49], argTypes := #[23] }, 3, some (47, false), true⟩,
  ⟨some (51, false), .binOp .gtr 3 (.tmp 50) (.const (.int .i64 65535)) 3, 4, some (47, false), true⟩,
  ⟨some (52, true), .pick (.tmp 47) (.const (.bool true)) (.tmp 51), 4, none, true⟩] τ ρ h := _root_.id rfl
def maps_Write_r11 : List Sop := [
  ⟨some (53, false), .move (.tmp 12), 3, none, true⟩,
  ⟨some (6, true), .assign (.const (.string { data := #[] })), 9, none, true⟩,
  ⟨some (7, true), .assign (.const (.int .i64 17)), 27, none, true⟩,
  ⟨some (8, true), .assign (.tmp 53), 3, none, true⟩]
theorem maps_Write_r11_go {K : Env → Heap → Prop} {τ ρ : Env} {h : Heap} : vcOps Try.prog K maps_Write_r11 τ ρ h = vcOps Try.prog K [
  ⟨some (53, false), .move (.tmp 12), 3, none, true⟩,
  ⟨some (6, true), .assign (.const (.string { data := #[] })), 9, none, true⟩,
  ⟨some (7, true), .assign (.const (.int .i64 17)), 27, none, true⟩,
  ⟨some (8, true), .assign (.tmp 53), 3, none, true⟩] τ ρ h := _root_.id rfl
def maps_Write_r12 : List Sop := [
  ⟨some (54, false), .move (.tmp 9), 68, none, true⟩,
  ⟨some (55, false), .load 35 (.tmp 13), 35, none, true⟩,
  ⟨some (56, false), .fieldAddr 35 (.tmp 13) 0, 0, none, true⟩,
  ⟨some (57, false), .load 3 (.tmp 56), 3, none, true⟩,
  ⟨some (58, false), .move (.tmp 11), 3, none, true⟩,
  ⟨some (59, false), .binOp .sub 3 (.tmp 57) (.tmp 58) 3, 3, none, true⟩,
  ⟨some (60, false), .binOp .sub 3 (.tmp 59) (.const (.int .i64 1)) 3, 3, none, true⟩,
  ⟨some (61, false), .move (.tmp 10), 23, none, true⟩,
  ⟨some (62, false), .call { callee := .value (.func 36), args := #[.tmp 54, .tmp 55, .tmp 60, .tmp 61], argTypes := #[68, 35, 3, 23] }, 0, none, false⟩]
theorem maps_Write_r12_go {K : Env → Heap → Prop} {τ ρ : Env} {h : Heap} : vcOps Try.prog K maps_Write_r12 τ ρ h = vcOps Try.prog K [
  ⟨some (54, false), .move (.tmp 9), 68, none, true⟩,
  ⟨some (55, false), .load 35 (.tmp 13), 35, none, true⟩,
  ⟨some (56, false), .fieldAddr 35 (.tmp 13) 0, 0, none, true⟩,
  ⟨some (57, false), .load 3 (.tmp 56), 3, none, true⟩,
  ⟨some (58, false), .move (.tmp 11), 3, none, true⟩,
  ⟨some (59, false), .binOp .sub 3 (.tmp 57) (.tmp 58) 3, 3, none, true⟩,
  ⟨some (60, false), .binOp .sub 3 (.tmp 59) (.const (.int .i64 1)) 3, 3, none, true⟩,
  ⟨some (61, false), .move (.tmp 10), 23, none, true⟩,
  ⟨some (62, false), .call { callee := .value (.func 36), args := #[.tmp 54, .tmp 55, .tmp 60, .tmp 61], argTypes := #[68, 35, 3, 23] }, 0, none, false⟩] τ ρ h := _root_.id rfl
def maps_Write_r13 : List Sop := [
  ⟨some (63, false), .move (.tmp 9), 68, none, true⟩,
  ⟨some (64, false), .nilCheck (.tmp 63), 0, none, true⟩,
  ⟨some (65, false), .fieldAddr 71 (.tmp 64) 2, 0, none, true⟩,
  ⟨some (66, false), .load 27 (.tmp 65), 27, none, true⟩,
  ⟨some (67, true), .binOp .neq 27 (.tmp 66) (.const (.int .i64 0)) 27, 4, none, true⟩]
theorem maps_Write_r13_go {K : Env → Heap → Prop} {τ ρ : Env} {h : Heap} : vcOps Try.prog K maps_Write_r13 τ ρ h = vcOps Try.prog K [
  ⟨some (63, false), .move (.tmp 9), 68, none, true⟩,
  ⟨some (64, false), .nilCheck (.tmp 63), 0, none, true⟩,
  ⟨some (65, false), .fieldAddr 71 (.tmp 64) 2, 0, none, true⟩,
  ⟨some (66, false), .load 27 (.tmp 65), 27, none, true⟩,
  ⟨some (67, true), .binOp .neq 27 (.tmp 66) (.const (.int .i64 0)) 27, 4, none, true⟩] τ ρ h := _root_.id rfl
def maps_Write_r14 : List (Sop × List Sop) := [
  (⟨some (68, false), .move (.tmp 9), 68, none, true⟩, []),
  (⟨some (69, false), .nilCheck (.tmp 68), 0, none, true⟩, []),
  (⟨some (70, false), .fieldAddr 71 (.tmp 69) 2, 0, none, true⟩, []),
  (⟨some (71, false), .load 27 (.tmp 70), 27, none, true⟩, []),
  (⟨some (72, false), .move (.tmp 12), 3, none, true⟩, []),
  (⟨some (6, true), .assign (.const (.string { data := #[] })), 9, none, true⟩, []),
  (⟨some (7, true), .assign (.tmp 71), 27, none, true⟩, []),
  (⟨some (8, true), .assign (.tmp 72), 3, none, true⟩, [])]
theorem maps_Write_r14_go {K : Env → Heap → Prop} {τ ρ : Env} {h : Heap} : vcDraw Try.prog K maps_Write_r14 τ ρ h = vcDraw Try.prog K [
  (⟨some (68, false), .move (.tmp 9), 68, none, true⟩, []),
  (⟨some (69, false), .nilCheck (.tmp 68), 0, none, true⟩, []),
  (⟨some (70, false), .fieldAddr 71 (.tmp 69) 2, 0, none, true⟩, []),
  (⟨some (71, false), .load 27 (.tmp 70), 27, none, true⟩, []),
  (⟨some (72, false), .move (.tmp 12), 3, none, true⟩, []),
  (⟨some (6, true), .assign (.const (.string { data := #[] })), 9, none, true⟩, []),
  (⟨some (7, true), .assign (.tmp 71), 27, none, true⟩, []),
  (⟨some (8, true), .assign (.tmp 72), 3, none, true⟩, [])] τ ρ h := _root_.id rfl
def maps_Write_r15 : List Sop := [
  ⟨some (73, false), .fieldAddr 35 (.tmp 13) 0, 0, none, true⟩,
  ⟨some (74, false), .load 3 (.tmp 73), 3, none, true⟩,
  ⟨some (11, true), .assign (.tmp 74), 3, none, true⟩]
theorem maps_Write_r15_go {K : Env → Heap → Prop} {τ ρ : Env} {h : Heap} : vcOps Try.prog K maps_Write_r15 τ ρ h = vcOps Try.prog K [
  ⟨some (73, false), .fieldAddr 35 (.tmp 13) 0, 0, none, true⟩,
  ⟨some (74, false), .load 3 (.tmp 73), 3, none, true⟩,
  ⟨some (11, true), .assign (.tmp 74), 3, none, true⟩] τ ρ h := _root_.id rfl
def maps_Write_r16 : List Sop := [
  ⟨some (75, false), .fieldAddr 35 (.tmp 13) 1, 0, none, true⟩,
  ⟨some (76, false), .load 23 (.tmp 75), 23, none, true⟩,
  ⟨some (10, true), .assign (.tmp 76), 23, none, true⟩]
theorem maps_Write_r16_go {K : Env → Heap → Prop} {τ ρ : Env} {h : Heap} : vcOps Try.prog K maps_Write_r16 τ ρ h = vcOps Try.prog K [
  ⟨some (75, false), .fieldAddr 35 (.tmp 13) 1, 0, none, true⟩,
  ⟨some (76, false), .load 23 (.tmp 75), 23, none, true⟩,
  ⟨some (10, true), .assign (.tmp 76), 23, none, true⟩] τ ρ h := _root_.id rfl
def maps_Write_r17 : List Sop := [
  ⟨some (77, false), .binOp .add 3 (.tmp 27) (.const (.int .i64 1)) 3, 3, none, true⟩,
  ⟨some (27, true), .move (.tmp 77), 3, none, true⟩]
theorem maps_Write_r17_go {K : Env → Heap → Prop} {τ ρ : Env} {h : Heap} : vcOps Try.prog K maps_Write_r17 τ ρ h = vcOps Try.prog K [
  ⟨some (77, false), .binOp .add 3 (.tmp 27) (.const (.int .i64 1)) 3, 3, none, true⟩,
  ⟨some (27, true), .move (.tmp 77), 3, none, true⟩] τ ρ h := _root_.id rfl
def maps_Write_r18 : List Sop := [
  ⟨some (78, false), .move (.tmp 9), 68, none, true⟩,
  ⟨some (79, false), .nilCheck (.tmp 78), 0, none, true⟩,
  ⟨some (80, false), .fieldAddr 71 (.tmp 79) 0, 0, none, true⟩,
  ⟨some (81, false), .load 69 (.tmp 80), 69, none, true⟩,
  ⟨some (82, false), .convert 69 9 (.tmp 81), 9, none, true⟩,
  ⟨some (6, true), .assign (.tmp 82), 9, none, true⟩,
  ⟨some (7, true), .assign (.const (.int .i64 0)), 27, none, true⟩,
  ⟨some (8, true), .assign (.const (.int .i64 0)), 3, none, true⟩]
theorem maps_Write_r18_go {K : Env → Heap → Prop} {τ ρ : Env} {h : Heap} : vcOps Try.prog K maps_Write_r18 τ ρ h = vcOps Try.prog K [
  ⟨some (78, false), .move (.tmp 9), 68, none, true⟩,
  ⟨some (79, false), .nilCheck (.tmp 78), 0, none, true⟩,
  ⟨some (80, false), .fieldAddr 71 (.tmp 79) 0, 0, none, true⟩,
  ⟨some (81, false), .load 69 (.tmp 80), 69, none, true⟩,
  ⟨some (82, false), .convert 69 9 (.tmp 81), 9, none, true⟩,
  ⟨some (6, true), .assign (.tmp 82), 9, none, true⟩,
  ⟨some (7, true), .assign (.const (.int .i64 0)), 27, none, true⟩,
  ⟨some (8, true), .assign (.const (.int .i64 0)), 3, none, true⟩] τ ρ h := _root_.id rfl
def maps_Write_l0 : Cd := .seq (.region maps_Write_r8) (.seq (.cond (.tmp 28) (.skip) (.exit 0)) (.seq (.block 1 (.seq (.region maps_Write_r9) (.seq (.seq (.region maps_Write_r10) (.cond (.tmp 52) (.seq (.region maps_Write_r11) (.ret)) (.skip))) (.seq (.region maps_Write_r12) (.seq (.seq (.region maps_Write_r13) (.cond (.tmp 67) (.seq (.draw maps_Write_r14) (.ret)) (.skip))) (.seq (.region maps_Write_r15) (.region maps_Write_r16))))))) (.region maps_Write_r17)))
theorem maps_Write_l0_go {Q : Ex → Env → Heap → Prop} {ρ : Env} {h : Heap} : Cd.vc Try.prog maps_Write_l0 Q ρ h = Cd.vc Try.prog (.seq (.region maps_Write_r8) (.seq (.cond (.tmp 28) (.skip) (.exit 0)) (.seq (.block 1 (.seq (.region maps_Write_r9) (.seq (.seq (.region maps_Write_r10) (.cond (.tmp 52) (.seq (.region maps_Write_r11) (.ret)) (.skip))) (.seq (.region maps_Write_r12) (.seq (.seq (.region maps_Write_r13) (.cond (.tmp 67) (.seq (.draw maps_Write_r14) (.ret)) (.skip))) (.seq (.region maps_Write_r15) (.region maps_Write_r16))))))) (.region maps_Write_r17)))) Q ρ h := _root_.id rfl
def maps_Write : Cd := .seq (.region maps_Write_r0) (.seq (.region maps_Write_r1) (.seq (.seq (.region maps_Write_r2) (.cond (.tmp 19) (.seq (.region maps_Write_r3) (.ret)) (.skip))) (.seq (.region maps_Write_r4) (.seq (.region maps_Write_r5) (.seq (.region maps_Write_r6) (.seq (.seq (.region maps_Write_r7) (.block 0 (.loop maps_Write_l0))) (.seq (.region maps_Write_r18) (.ret))))))))
theorem maps_Write_go {Q : Ex → Env → Heap → Prop} {ρ : Env} {h : Heap} : Cd.vc Try.prog maps_Write Q ρ h = Cd.vc Try.prog (.seq (.region maps_Write_r0) (.seq (.region maps_Write_r1) (.seq (.seq (.region maps_Write_r2) (.cond (.tmp 19) (.seq (.region maps_Write_r3) (.ret)) (.skip))) (.seq (.region maps_Write_r4) (.seq (.region maps_Write_r5) (.seq (.region maps_Write_r6) (.seq (.seq (.region maps_Write_r7) (.block 0 (.loop maps_Write_l0))) (.seq (.region maps_Write_r18) (.ret))))))))) Q ρ h := _root_.id rfl
theorem maps_Write_calls {args : List Value} {h : Heap} {R : Value → Heap → Prop} (hl : args.length = 3) (hv : Cd.vc Try.prog maps_Write (retQ Try.prog [(6, none), (7, none), (8, none)] R) (initEnv args [0, 1, 2, 6, 7, 8, 9, 10, 11, 12, 13, 19, 25, 26, 27, 28, 52, 67]) h) : HCalls Try.prog 13 args.toArray h R :=
  hcalls_of_vc (by kernel_rfl) Try.func13 (cd := maps_Write) (L := [0, 1, 2, 6, 7, 8, 9, 10, 11, 12, 13, 19, 25, 26, 27, 28, 52, 67]) (by kernel_rfl) (by kernel_rfl) ⟨by rw [hl, Try.ntmps13]; decide, by rw [Try.ntmps13]; decide⟩ hv
def maps_Write_gos := And.intro @maps_Write_go (And.intro @maps_Write_r0_go (And.intro @maps_Write_r1_go (And.intro @maps_Write_r2_go (And.intro @maps_Write_r3_go (And.intro @maps_Write_r4_go (And.intro @maps_Write_r5_go (And.intro @maps_Write_r6_go (And.intro @maps_Write_r7_go (And.intro @maps_Write_r8_go (And.intro @maps_Write_r9_go (And.intro @maps_Write_r10_go (And.intro @maps_Write_r11_go (And.intro @maps_Write_r12_go (And.intro @maps_Write_r13_go (And.intro @maps_Write_r14_go (And.intro @maps_Write_r15_go (And.intro @maps_Write_r16_go (And.intro @maps_Write_r17_go (And.intro @maps_Write_r18_go (@maps_Write_l0_go))))))))))))))))))))

/-! (*jvmcore/maps.writer).num: function 35: slots [0, 1, 2] -/
def maps_wnum_r0 : List (Sop × List Sop) := [
  (⟨some (6, false), .move (.tmp 0), 68, none, true⟩, []),
  (⟨some (7, false), .move (.tmp 0), 68, none, true⟩, []),
  (⟨some (8, false), .nilCheck (.tmp 7), 0, none, true⟩, []),
  (⟨some (9, false), .fieldAddr 71 (.tmp 8) 0, 0, none, true⟩, []),
  (⟨some (10, false), .load 69 (.tmp 9), 69, none, true⟩, []),
  (⟨some (11, false), .move (.tmp 1), 3, none, true⟩, []),
  (⟨some (12, false), .convert 3 74 (.tmp 11), 74, none, true⟩, []),
  (⟨some (13, false), .move (.tmp 2), 3, none, true⟩, []),
  (⟨some (14, false), .call { callee := .value (.func 70), args := #[.tmp 12, .tmp 13], argTypes := #[74, 3] }, 9, none, false⟩, [⟨some (8, false), .nilCheck (.tmp 7), 0, none, true⟩, ⟨some (9, false), .fieldAddr 71 (.tmp 8) 0, 0, none, true⟩, ⟨some (10, false), .load 69 (.tmp 9), 69, none, true⟩]),
  (⟨some (15, false), .call { callee := .builtin .append, args := #[.tmp 10, .tmp 14], argTypes := #[69, 9] }, 69, none, false⟩, []),
  (⟨some (16, false), .nilCheck (.tmp 6), 0, none, true⟩, []),
  (⟨some (17, false), .fieldAddr 71 (.tmp 16) 0, 0, none, true⟩, []),
  (⟨none, .store 69 (.tmp 17) (.tmp 15), 0, none, false⟩, [])]
theorem maps_wnum_r0_go {K : Env → Heap → Prop} {τ ρ : Env} {h : Heap} : vcDraw Try.prog K maps_wnum_r0 τ ρ h = vcDraw Try.prog K [
  (⟨some (6, false), .move (.tmp 0), 68, none, true⟩, []),
  (⟨some (7, false), .move (.tmp 0), 68, none, true⟩, []),
  (⟨some (8, false), .nilCheck (.tmp 7), 0, none, true⟩, []),
  (⟨some (9, false), .fieldAddr 71 (.tmp 8) 0, 0, none, true⟩, []),
  (⟨some (10, false), .load 69 (.tmp 9), 69, none, true⟩, []),
  (⟨some (11, false), .move (.tmp 1), 3, none, true⟩, []),
  (⟨some (12, false), .convert 3 74 (.tmp 11), 74, none, true⟩, []),
  (⟨some (13, false), .move (.tmp 2), 3, none, true⟩, []),
  (⟨some (14, false), .call { callee := .value (.func 70), args := #[.tmp 12, .tmp 13], argTypes := #[74, 3] }, 9, none, false⟩, [⟨some (8, false), .nilCheck (.tmp 7), 0, none, true⟩, ⟨some (9, false), .fieldAddr 71 (.tmp 8) 0, 0, none, true⟩, ⟨some (10, false), .load 69 (.tmp 9), 69, none, true⟩]),
  (⟨some (15, false), .call { callee := .builtin .append, args := #[.tmp 10, .tmp 14], argTypes := #[69, 9] }, 69, none, false⟩, []),
  (⟨some (16, false), .nilCheck (.tmp 6), 0, none, true⟩, []),
  (⟨some (17, false), .fieldAddr 71 (.tmp 16) 0, 0, none, true⟩, []),
  (⟨none, .store 69 (.tmp 17) (.tmp 15), 0, none, false⟩, [])] τ ρ h := _root_.id rfl
def maps_wnum : Cd := .draw maps_wnum_r0
theorem maps_wnum_go {Q : Ex → Env → Heap → Prop} {ρ : Env} {h : Heap} : Cd.vc Try.prog maps_wnum Q ρ h = Cd.vc Try.prog (.draw maps_wnum_r0) Q ρ h := _root_.id rfl
theorem maps_wnum_calls {args : List Value} {h : Heap} {R : Value → Heap → Prop} (hl : args.length = 3) (hv : Cd.vc Try.prog maps_wnum (retQ Try.prog [] R) (initEnv args [0, 1, 2]) h) : HCalls Try.prog 35 args.toArray h R :=
  hcalls_of_vc (by kernel_rfl) Try.func35 (cd := maps_wnum) (L := [0, 1, 2]) (by kernel_rfl) (by kernel_rfl) ⟨by rw [hl, Try.ntmps35]; decide, by rw [Try.ntmps35]; decide⟩ hv
def maps_wnum_gos := And.intro @maps_wnum_go (@maps_wnum_r0_go)

/-! (*jvmcore/maps.writer).one: function 36: slots [0, 1, 2, 3, 5, 8, 9, 10, 54, 73, 90, 114, 135, 158] -/
def maps_wone_r0 : List Sop := [
  ⟨some (5, true), .box 35 (.tmp 1), 0, none, false⟩]
theorem maps_wone_r0_go {K : Env → Heap → Prop} {τ ρ : Env} {h : Heap} : vcOps Try.prog K maps_wone_r0 τ ρ h = vcOps Try.prog K [
  ⟨some (5, true), .box 35 (.tmp 1), 0, none, false⟩] τ ρ h := _root_.id rfl
def maps_wone_r1 : List Sop := [
  ⟨some (11, false), .fieldAddr 35 (.tmp 5) 1, 0, none, true⟩,
  ⟨some (12, false), .load 23 (.tmp 11), 23, none, true⟩,
  ⟨some (13, false), .call { callee := .builtin .len, args := #[.tmp 12], argTypes := #[23] }, 3, none, true⟩,
  ⟨some (14, false), .move (.tmp 3), 23, none, true⟩,
  ⟨some (15, false), .call { callee := .builtin .len, args := #[.tmp 14], argTypes := #[23] }, 3, none, true⟩,
  ⟨some (16, false), .binOp .sub 3 (.tmp 13) (.tmp 15) 3, 3, none, true⟩,
  ⟨some (8, true), .assign (.tmp 16), 3, none, true⟩]
theorem maps_wone_r1_go {K : Env → Heap → Prop} {τ ρ : Env} {h : Heap} : vcOps Try.prog K maps_wone_r1 τ ρ h = vcOps Try.prog K [
  ⟨some (11, false), .fieldAddr 35 (.tmp 5) 1, 0, none, true⟩,
  ⟨some (12, false), .load 23 (.tmp 11), 23, none, true⟩,
  ⟨some (13, false), .call { callee := .builtin .len, args := #[.tmp 12], argTypes := #[23] }, 3, none, true⟩,
  ⟨some (14, false), .move (.tmp 3), 23, none, true⟩,
  ⟨some (15, false), .call { callee := .builtin .len, args := #[.tmp 14], argTypes := #[23] }, 3, none, true⟩,
  ⟨some (16, false), .binOp .sub 3 (.tmp 13) (.tmp 15) 3, 3, none, true⟩,
  ⟨some (8, true), .assign (.tmp 16), 3, none, true⟩] τ ρ h := _root_.id rfl
def maps_wone_r2 : List Sop := [
  ⟨some (17, false), .fieldAddr 35 (.tmp 5) 1, 0, none, true⟩,
  ⟨some (18, false), .load 23 (.tmp 17), 23, none, true⟩,
  ⟨some (19, false), .call { callee := .builtin .len, args := #[.tmp 18], argTypes := #[23] }, 3, none, true⟩,
  ⟨some (20, false), .move (.tmp 3), 23, none, true⟩,
  ⟨some (21, false), .call { callee := .builtin .len, args := #[.tmp 20], argTypes := #[23] }, 3, none, true⟩,
  ⟨some (22, false), .call { callee := .builtin .min, args := #[.tmp 19, .tmp 21], argTypes := #[3, 3] }, 3, none, true⟩,
  ⟨some (9, true), .assign (.tmp 22), 3, none, true⟩]
theorem maps_wone_r2_go {K : Env → Heap → Prop} {τ ρ : Env} {h : Heap} : vcOps Try.prog K maps_wone_r2 τ ρ h = vcOps Try.prog K [
  ⟨some (17, false), .fieldAddr 35 (.tmp 5) 1, 0, none, true⟩,
  ⟨some (18, false), .load 23 (.tmp 17), 23, none, true⟩,
  ⟨some (19, false), .call { callee := .builtin .len, args := #[.tmp 18], argTypes := #[23] }, 3, none, true⟩,
  ⟨some (20, false), .move (.tmp 3), 23, none, true⟩,
  ⟨some (21, false), .call { callee := .builtin .len, args := #[.tmp 20], argTypes := #[23] }, 3, none, true⟩,
  ⟨some (22, false), .call { callee := .builtin .min, args := #[.tmp 19, .tmp 21], argTypes := #[3, 3] }, 3, none, true⟩,
  ⟨some (9, true), .assign (.tmp 22), 3, none, true⟩] τ ρ h := _root_.id rfl
def maps_wone_r3 : List (Sop × List Sop) := [
  (⟨some (23, false), .fieldAddr 35 (.tmp 5) 1, 0, none, true⟩, []),
  (⟨some (24, false), .load 23 (.tmp 23), 23, none, true⟩, []),
  (⟨some (25, false), .move (.tmp 9), 3, none, true⟩, []),
  (⟨some (26, false), .slice 23 (.tmp 24) none (some (.tmp 25)) none, 23, none, true⟩, []),
  (⟨some (27, false), .move (.tmp 3), 23, none, true⟩, []),
  (⟨some (28, false), .move (.tmp 9), 3, none, true⟩, []),
  (⟨some (29, false), .slice 23 (.tmp 27) none (some (.tmp 28)) none, 23, none, true⟩, []),
  (⟨some (30, false), .call { callee := .value (.func 71), args := #[.tmp 26, .tmp 29], argTypes := #[23, 23] }, 4, none, false⟩, []),
  (⟨some (10, true), .assign (.tmp 30), 4, none, true⟩, [])]
theorem maps_wone_r3_go {K : Env → Heap → Prop} {τ ρ : Env} {h : Heap} : vcDraw Try.prog K maps_wone_r3 τ ρ h = vcDraw Try.prog K [
  (⟨some (23, false), .fieldAddr 35 (.tmp 5) 1, 0, none, true⟩, []),
  (⟨some (24, false), .load 23 (.tmp 23), 23, none, true⟩, []),
  (⟨some (25, false), .move (.tmp 9), 3, none, true⟩, []),
  (⟨some (26, false), .slice 23 (.tmp 24) none (some (.tmp 25)) none, 23, none, true⟩, []),
  (⟨some (27, false), .move (.tmp 3), 23, none, true⟩, []),
  (⟨some (28, false), .move (.tmp 9), 3, none, true⟩, []),
  (⟨some (29, false), .slice 23 (.tmp 27) none (some (.tmp 28)) none, 23, none, true⟩, []),
  (⟨some (30, false), .call { callee := .value (.func 71), args := #[.tmp 26, .tmp 29], argTypes := #[23, 23] }, 4, none, false⟩, []),
  (⟨some (10, true), .assign (.tmp 30), 4, none, true⟩, [])] τ ρ h := _root_.id rfl
def maps_wone_r4 : List Sop := [
  ⟨some (55, false), .move (.tmp 10), 4, none, true⟩,
  ⟨some (56, false), .move (.tmp 55), 4, none, true⟩,
  ⟨some (57, false), .move (.tmp 8), 3, some (56, true), true⟩,
  ⟨some (58, false), .binOp .eql 3 (.tmp 57) (.const (.int .i64 0)) 3, 4, some (56, true), true⟩,
  ⟨some (59, false), .pick (.tmp 56) (.tmp 58) (.const (.bool false)), 4, none, true⟩,
  ⟨some (60, false), .move (.tmp 59), 4, none, true⟩,
  ⟨some (61, false), .fieldAddr 35 (.tmp 5) 2, 0, some (60, true), true⟩,
  ⟨some (62, false), .load 23 (.tmp 61), 23, some (60, true), true⟩,
  ⟨some (63, false), .call { callee := .builtin .len, args := #[.tmp 62], argTypes := #[23] }, 3, some (60, true), true⟩,
  ⟨some (64, false), .binOp .eql 3 (.tmp 63) (.const (.int .i64 0)) 3, 4, some (60, true), true⟩,
  ⟨some (65, false), .pick (.tmp 60) (.tmp 64) (.const (.bool false)), 4, none, true⟩,
  ⟨some (66, false), .move (.tmp 65), 4, none, true⟩,
  ⟨some (67, false), .move (.tmp 2), 3, some (66, true), true⟩,
  ⟨some (68, false), .binOp .lss 3 (.tmp 67) (.const (.int .i64 64)) 3, 4, some (66, true), true⟩,
  ⟨some (69, false), .pick (.tmp 66) (.tmp 68) (.const (.bool false)), 4, none, true⟩,
  ⟨some (54, true), .assign (.tmp 69), 4, none, true⟩]
theorem maps_wone_r4_go {K : Env → Heap → Prop} {τ ρ : Env} {h : Heap} : vcOps Try.prog K maps_wone_r4 τ ρ h = vcOps Try.prog K [
  ⟨some (55, false), .move (.tmp 10), 4, none, true⟩,
  ⟨some (56, false), .move (.tmp 55), 4, none, true⟩,
  ⟨some (57, false), .move (.tmp 8), 3, some (56, true), true⟩,
  ⟨some (58, false), .binOp .eql 3 (.tmp 57) (.const (.int .i64 0)) 3, 4, some (56, true), true⟩,
  ⟨some (59, false), .pick (.tmp 56) (.tmp 58) (.const (.bool false)), 4, none, true⟩,
  ⟨some (60, false), .move (.tmp 59), 4, none, true⟩,
  ⟨some (61, false), .fieldAddr 35 (.tmp 5) 2, 0, some (60, true), true⟩,
  ⟨some (62, false), .load 23 (.tmp 61), 23, some (60, true), true⟩,
  ⟨some (63, false), .call { callee := .builtin .len, args := #[.tmp 62], argTypes := #[23] }, 3, some (60, true), true⟩,
  ⟨some (64, false), .binOp .eql 3 (.tmp 63) (.const (.int .i64 0)) 3, 4, some (60, true), true⟩,
  ⟨some (65, false), .pick (.tmp 60) (.tmp 64) (.const (.bool false)), 4, none, true⟩,
  ⟨some (66, false), .move (.tmp 65), 4, none, true⟩,
  ⟨some (67, false), .move (.tmp 2), 3, some (66, true), true⟩,
  ⟨some (68, false), .binOp .lss 3 (.tmp 67) (.const (.int .i64 64)) 3, 4, some (66, true), true⟩,
  ⟨some (69, false), .pick (.tmp 66) (.tmp 68) (.const (.bool false)), 4, none, true⟩,
  ⟨some (54, true), .assign (.tmp 69), 4, none, true⟩] τ ρ h := _root_.id rfl
def maps_wone_r5 : List Sop := [
  ⟨some (70, false), .move (.tmp 0), 68, none, true⟩,
  ⟨some (71, false), .move (.tmp 2), 3, none, true⟩,
  ⟨some (72, false), .call { callee := .value (.func 35), args := #[.tmp 70, .tmp 71, .const (.int .i64 1)], argTypes := #[68, 3, 3] }, 0, none, false⟩]
theorem maps_wone_r5_go {K : Env → Heap → Prop} {τ ρ : Env} {h : Heap} : vcOps Try.prog K maps_wone_r5 τ ρ h = vcOps Try.prog K [
  ⟨some (70, false), .move (.tmp 0), 68, none, true⟩,
  ⟨some (71, false), .move (.tmp 2), 3, none, true⟩,
  ⟨some (72, false), .call { callee := .value (.func 35), args := #[.tmp 70, .tmp 71, .const (.int .i64 1)], argTypes := #[68, 3, 3] }, 0, none, false⟩] τ ρ h := _root_.id rfl
def maps_wone_r6 : List Sop := [
  ⟨some (74, false), .move (.tmp 10), 4, none, true⟩,
  ⟨some (75, false), .move (.tmp 74), 4, none, true⟩,
  ⟨some (76, false), .move (.tmp 8), 3, some (75, true), true⟩,
  ⟨some (77, false), .binOp .eql 3 (.tmp 76) (.const (.int .i64 0)) 3, 4, some (75, true), true⟩,
  ⟨some (78, false), .pick (.tmp 75) (.tmp 77) (.const (.bool false)), 4, none, true⟩,
  ⟨some (79, false), .move (.tmp 78), 4, none, true⟩,
  ⟨some (80, false), .fieldAddr 35 (.tmp 5) 2, 0, some (79, true), true⟩,
  ⟨some (81, false), .load 23 (.tmp 80), 23, some (79, true), true⟩,
  ⟨some (82, false), .call { callee := .builtin .len, args := #[.tmp 81], argTypes := #[23] }, 3, some (79, true), true⟩,
  ⟨some (83, false), .binOp .eql 3 (.tmp 82) (.const (.int .i64 0)) 3, 4, some (79, true), true⟩,
  ⟨some (84, false), .pick (.tmp 79) (.tmp 83) (.const (.bool false)), 4, none, true⟩,
  ⟨some (73, true), .assign (.tmp 84), 4, none, true⟩]
theorem maps_wone_r6_go {K : Env → Heap → Prop} {τ ρ : Env} {h : Heap} : vcOps Try.prog K maps_wone_r6 τ ρ h = vcOps Try.prog K [
  ⟨some (74, false), .move (.tmp 10), 4, none, true⟩,
  ⟨some (75, false), .move (.tmp 74), 4, none, true⟩,
  ⟨some (76, false), .move (.tmp 8), 3, some (75, true), true⟩,
  ⟨some (77, false), .binOp .eql 3 (.tmp 76) (.const (.int .i64 0)) 3, 4, some (75, true), true⟩,
  ⟨some (78, false), .pick (.tmp 75) (.tmp 77) (.const (.bool false)), 4, none, true⟩,
  ⟨some (79, false), .move (.tmp 78), 4, none, true⟩,
  ⟨some (80, false), .fieldAddr 35 (.tmp 5) 2, 0, some (79, true), true⟩,
  ⟨some (81, false), .load 23 (.tmp 80), 23, some (79, true), true⟩,
  ⟨some (82, false), .call { callee := .builtin .len, args := #[.tmp 81], argTypes := #[23] }, 3, some (79, true), true⟩,
  ⟨some (83, false), .binOp .eql 3 (.tmp 82) (.const (.int .i64 0)) 3, 4, some (79, true), true⟩,
  ⟨some (84, false), .pick (.tmp 79) (.tmp 83) (.const (.bool false)), 4, none, true⟩,
  ⟨some (73, true), .assign (.tmp 84), 4, none, true⟩] τ ρ h := _root_.id rfl
def maps_wone_r7 : List Sop := [
  ⟨some (85, false), .move (.tmp 0), 68, none, true⟩,
  ⟨some (86, false), .call { callee := .value (.func 35), args := #[.tmp 85, .const (.int .i64 251), .const (.int .i64 1)], argTypes := #[68, 3, 3] }, 0, none, false⟩]
theorem maps_wone_r7_go {K : Env → Heap → Prop} {τ ρ : Env} {h : Heap} : vcOps Try.prog K maps_wone_r7 τ ρ h = vcOps Try.prog K [
  ⟨some (85, false), .move (.tmp 0), 68, none, true⟩,
  ⟨some (86, false), .call { callee := .value (.func 35), args := #[.tmp 85, .const (.int .i64 251), .const (.int .i64 1)], argTypes := #[68, 3, 3] }, 0, none, false⟩] τ ρ h := _root_.id rfl
def maps_wone_r8 : List Sop := [
  ⟨some (87, false), .move (.tmp 0), 68, none, true⟩,
  ⟨some (88, false), .move (.tmp 2), 3, none, true⟩,
  ⟨some (89, false), .call { callee := .value (.func 35), args := #[.tmp 87, .tmp 88, .const (.int .i64 2)], argTypes := #[68, 3, 3] }, 0, none, false⟩]
theorem maps_wone_r8_go {K : Env → Heap → Prop} {τ ρ : Env} {h : Heap} : vcOps Try.prog K maps_wone_r8 τ ρ h = vcOps Try.prog K [
  ⟨some (87, false), .move (.tmp 0), 68, none, true⟩,
  ⟨some (88, false), .move (.tmp 2), 3, none, true⟩,
  ⟨some (89, false), .call { callee := .value (.func 35), args := #[.tmp 87, .tmp 88, .const (.int .i64 2)], argTypes := #[68, 3, 3] }, 0, none, false⟩] τ ρ h := _root_.id rfl
def maps_wone_r9 : List Sop := [
  ⟨some (91, false), .move (.tmp 10), 4, none, true⟩,
  ⟨some (92, false), .move (.tmp 91), 4, none, true⟩,
  ⟨some (93, false), .move (.tmp 8), 3, some (92, true), true⟩,
  ⟨some (94, false), .binOp .eql 3 (.tmp 93) (.const (.int .i64 0)) 3, 4, some (92, true), true⟩,
  ⟨some (95, false), .pick (.tmp 92) (.tmp 94) (.const (.bool false)), 4, none, true⟩,
  ⟨some (96, false), .move (.tmp 95), 4, none, true⟩,
  ⟨some (97, false), .fieldAddr 35 (.tmp 5) 2, 0, some (96, true), true⟩,
  ⟨some (98, false), .load 23 (.tmp 97), 23, some (96, true), true⟩,
  ⟨some (99, false), .call { callee := .builtin .len, args := #[.tmp 98], argTypes := #[23] }, 3, some (96, true), true⟩,
  ⟨some (100, false), .binOp .eql 3 (.tmp 99) (.const (.int .i64 1)) 3, 4, some (96, true), true⟩,
  ⟨some (101, false), .pick (.tmp 96) (.tmp 100) (.const (.bool false)), 4, none, true⟩,
  ⟨some (102, false), .move (.tmp 101), 4, none, true⟩,
  ⟨some (103, false), .move (.tmp 2), 3, some (102, true), true⟩,
  ⟨some (104, false), .binOp .lss 3 (.tmp 103) (.const (.int .i64 64)) 3, 4, some (102, true), true⟩,
  ⟨some (105, false), .pick (.tmp 102) (.tmp 104) (.const (.bool false)), 4, none, true⟩,
  ⟨some (90, true), .assign (.tmp 105), 4, none, true⟩]
theorem maps_wone_r9_go {K : Env → Heap → Prop} {τ ρ : Env} {h : Heap} : vcOps Try.prog K maps_wone_r9 τ ρ h = vcOps Try.prog K [
  ⟨some (91, false), .move (.tmp 10), 4, none, true⟩,
  ⟨some (92, false), .move (.tmp 91), 4, none, true⟩,
  ⟨some (93, false), .move (.tmp 8), 3, some (92, true), true⟩,
  ⟨some (94, false), .binOp .eql 3 (.tmp 93) (.const (.int .i64 0)) 3, 4, some (92, true), true⟩,
  ⟨some (95, false), .pick (.tmp 92) (.tmp 94) (.const (.bool false)), 4, none, true⟩,
  ⟨some (96, false), .move (.tmp 95), 4, none, true⟩,
  ⟨some (97, false), .fieldAddr 35 (.tmp 5) 2, 0, some (96, true), true⟩,
  ⟨some (98, false), .load 23 (.tmp 97), 23, some (96, true), true⟩,
  ⟨some (99, false), .call { callee := .builtin .len, args := #[.tmp 98], argTypes := #[23] }, 3, some (96, true), true⟩,
  ⟨some (100, false), .binOp .eql 3 (.tmp 99) (.const (.int .i64 1)) 3, 4, some (96, true), true⟩,
  ⟨some (101, false), .pick (.tmp 96) (.tmp 100) (.const (.bool false)), 4, none, true⟩,
  ⟨some (102, false), .move (.tmp 101), 4, none, true⟩,
  ⟨some (103, false), .move (.tmp 2), 3, some (102, true), true⟩,
  ⟨some (104, false), .binOp .lss 3 (.tmp 103) (.const (.int .i64 64)) 3, 4, some (102, true), true⟩,
  ⟨some (105, false), .pick (.tmp 102) (.tmp 104) (.const (.bool false)), 4, none, true⟩,
  ⟨some (90, true), .assign (.tmp 105), 4, none, true⟩] τ ρ h := _root_.id rfl
def maps_wone_r10 : List Sop := [
  ⟨some (106, false), .move (.tmp 0), 68, none, true⟩,
  ⟨some (107, false), .move (.tmp 2), 3, none, true⟩,
  ⟨some (108, false), .binOp .add 3 (.const (.int .i64 64)) (.tmp 107) 3, 3, none, true⟩,
  ⟨some (109, false), .call { callee := .value (.func 35), args := #[.tmp 106, .tmp 108, .const (.int .i64 1)], argTypes := #[68, 3, 3] }, 0, none, false⟩]
theorem maps_wone_r10_go {K : Env → Heap → Prop} {τ ρ : Env} {h : Heap} : vcOps Try.prog K maps_wone_r10 τ ρ h = vcOps Try.prog K [
  ⟨some (106, false), .move (.tmp 0), 68, none, true⟩,
  ⟨some (107, false), .move (.tmp 2), 3, none, true⟩,
  ⟨some (108, false), .binOp .add 3 (.const (.int .i64 64)) (.tmp 107) 3, 3, none, true⟩,
  ⟨some (109, false), .call { callee := .value (.func 35), args := #[.tmp 106, .tmp 108, .const (.int .i64 1)], argTypes := #[68, 3, 3] }, 0, none, false⟩] τ ρ h := _root_.id rfl
def maps_wone_r11 : List Sop := [
  ⟨some (110, false), .move (.tmp 0), 68, none, true⟩,
  ⟨some (111, false), .fieldAddr 35 (.tmp 5) 2, 0, none, true⟩,
  ⟨some (112, false), .load 23 (.tmp 111), 23, none, true⟩,
  ⟨some (113, false), .call { callee := .value (.func 72), args := #[.tmp 110, .tmp 112], argTypes := #[68, 23] }, 0, none, false⟩]
theorem maps_wone_r11_go {K : Env → Heap → Prop} {τ ρ : Env} {h : Heap} : vcOps Try.prog K maps_wone_r11 τ ρ h = vcOps Try.prog K [
  ⟨some (110, false), .move (.tmp 0), 68, none, true⟩,
  ⟨some (111, false), .fieldAddr 35 (.tmp 5) 2, 0, none, true⟩,
  ⟨some (112, false), .load 23 (.tmp 111), 23, none, true⟩,
  ⟨some (113, false), .call { callee := .value (.func 72), args := #[.tmp 110, .tmp 112], argTypes := #[68, 23] }, 0, none, false⟩] τ ρ h := _root_.id rfl
def maps_wone_r12 : List Sop := [
  ⟨some (115, false), .move (.tmp 10), 4, none, true⟩,
  ⟨some (116, false), .move (.tmp 115), 4, none, true⟩,
  ⟨some (117, false), .move (.tmp 8), 3, some (116, true), true⟩,
  ⟨some (118, false), .binOp .eql 3 (.tmp 117) (.const (.int .i64 0)) 3, 4, some (116, true), true⟩,
  ⟨some (119, false), .pick (.tmp 116) (.tmp 118) (.const (.bool false)), 4, none, true⟩,
  ⟨some (120, false), .move (.tmp 119), 4, none, true⟩,
  ⟨some (121, false), .fieldAddr 35 (.tmp 5) 2, 0, some (120, true), true⟩,
  ⟨some (122, false), .load 23 (.tmp 121), 23, some (120, true), true⟩,
  ⟨some (123, false), .call { callee := .builtin .len, args := #[.tmp 122], argTypes := #[23] }, 3, some (120, true), true⟩,
  ⟨some (124, false), .binOp .eql 3 (.tmp 123) (.const (.int .i64 1)) 3, 4, some (120, true), true⟩,
  ⟨some (125, false), .pick (.tmp 120) (.tmp 124) (.const (.bool false)), 4, none, true⟩,
  ⟨some (114, true), .assign (.tmp 125), 4, none, true⟩]
theorem maps_wone_r12_go {K : Env → Heap → Prop} {τ ρ : Env} {h : Heap} : vcOps Try.prog K maps_wone_r12 τ ρ h = vcOps Try.prog K [
  ⟨some (115, false), .move (.tmp 10), 4, none, true⟩,
  ⟨some (116, false), .move (.tmp 115), 4, none, true⟩,
  ⟨some (117, false), .move (.tmp 8), 3, some (116, true), true⟩,
  ⟨some (118, false), .binOp .eql 3 (.tmp 117) (.const (.int .i64 0)) 3, 4, some (116, true), true⟩,
  ⟨some (119, false), .pick (.tmp 116) (.tmp 118) (.const (.bool false)), 4, none, true⟩,
  ⟨some (120, false), .move (.tmp 119), 4, none, true⟩,
  ⟨some (121, false), .fieldAddr 35 (.tmp 5) 2, 0, some (120, true), true⟩,
  ⟨some (122, false), .load 23 (.tmp 121), 23, some (120, true), true⟩,
  ⟨some (123, false), .call { callee := .builtin .len, args := #[.tmp 122], argTypes := #[23] }, 3, some (120, true), true⟩,
  ⟨some (124, false), .binOp .eql 3 (.tmp 123) (.const (.int .i64 1)) 3, 4, some (120, true), true⟩,
  ⟨some (125, false), .pick (.tmp 120) (.tmp 124) (.const (.bool false)), 4, none, true⟩,
  ⟨some (114, true), .assign (.tmp 125), 4, none, true⟩] τ ρ h := _root_.id rfl
def maps_wone_r13 : List Sop := [
  ⟨some (126, false), .move (.tmp 0), 68, none, true⟩,
  ⟨some (127, false), .call { callee := .value (.func 35), args := #[.tmp 126, .const (.int .i64 247), .const (.int .i64 1)], argTypes := #[68, 3, 3] }, 0, none, false⟩]
theorem maps_wone_r13_go {K : Env → Heap → Prop} {τ ρ : Env} {h : Heap} : vcOps Try.prog K maps_wone_r13 τ ρ h = vcOps Try.prog K [
  ⟨some (126, false), .move (.tmp 0), 68, none, true⟩,
  ⟨some (127, false), .call { callee := .value (.func 35), args := #[.tmp 126, .const (.int .i64 247), .const (.int .i64 1)], argTypes := #[68, 3, 3] }, 0, none, false⟩] τ ρ h := _root_.id rfl
def maps_wone_r14 : List Sop := [
  ⟨some (128, false), .move (.tmp 0), 68, none, true⟩,
  ⟨some (129, false), .move (.tmp 2), 3, none, true⟩,
  ⟨some (130, false), .call { callee := .value (.func 35), args := #[.tmp 128, .tmp 129, .const (.int .i64 2)], argTypes := #[68, 3, 3] }, 0, none, false⟩]
theorem maps_wone_r14_go {K : Env → Heap → Prop} {τ ρ : Env} {h : Heap} : vcOps Try.prog K maps_wone_r14 τ ρ h = vcOps Try.prog K [
  ⟨some (128, false), .move (.tmp 0), 68, none, true⟩,
  ⟨some (129, false), .move (.tmp 2), 3, none, true⟩,
  ⟨some (130, false), .call { callee := .value (.func 35), args := #[.tmp 128, .tmp 129, .const (.int .i64 2)], argTypes := #[68, 3, 3] }, 0, none, false⟩] τ ρ h := _root_.id rfl
def maps_wone_r15 : List Sop := [
  ⟨some (131, false), .move (.tmp 0), 68, none, true⟩,
  ⟨some (132, false), .fieldAddr 35 (.tmp 5) 2, 0, none, true⟩,
  ⟨some (133, false), .load 23 (.tmp 132), 23, none, true⟩,
  ⟨some (134, false), .call { callee := .value (.func 72), args := #[.tmp 131, .tmp 133], argTypes := #[68, 23] }, 0, none, false⟩]
theorem maps_wone_r15_go {K : Env → Heap → Prop} {τ ρ : Env} {h : Heap} : vcOps Try.prog K maps_wone_r15 τ ρ h = vcOps Try.prog K [
  ⟨some (131, false), .move (.tmp 0), 68, none, true⟩,
  ⟨some (132, false), .fieldAddr 35 (.tmp 5) 2, 0, none, true⟩,
  ⟨some (133, false), .load 23 (.tmp 132), 23, none, true⟩,
  ⟨some (134, false), .call { callee := .value (.func 72), args := #[.tmp 131, .tmp 133], argTypes := #[68, 23] }, 0, none, false⟩] τ ρ h := _root_.id rfl
def maps_wone_r16 : List Sop := [
  ⟨some (136, false), .move (.tmp 10), 4, none, true⟩,
  ⟨some (137, false), .move (.tmp 136), 4, none, true⟩,
  ⟨some (138, false), .move (.tmp 8), 3, some (137, true), true⟩,
  ⟨some (139, false), .binOp .lss 3 (.tmp 138) (.const (.int .i64 0)) 3, 4, some (137, true), true⟩,
  ⟨some (140, false), .pick (.tmp 137) (.tmp 139) (.const (.bool false)), 4, none, true⟩,
  ⟨some (141, false), .move (.tmp 140), 4, none, true⟩,
  ⟨some (142, false), .move (.tmp 8), 3, some (141, true), true⟩,
  ⟨some (143, false), .binOp .geq 3 (.tmp 142) (.const (.int .i64 (-3))) 3, 4, some (141, true), true⟩,
  ⟨some (144, false), .pick (.tmp 141) (.tmp 143) (.const (.bool false)), 4, none, true⟩,
  ⟨some (145, false), .move (.tmp 144), 4, none, true⟩,
  ⟨some (146, false), .fieldAddr 35 (.tmp 5) 2, 0, some (145, true), true⟩,
  ⟨some (147, false), .load 23 (.tmp 146), 23, some (145, true), true⟩,
  ⟨some (148, false), .call { callee := .builtin .len, args := #[.tmp 147], argTypes := #[23] }, 3, some (145, true), true⟩,
  ⟨some (149, false), .binOp .eql 3 (.tmp 148) (.const (.int .i64 0)) 3, 4, some (145, true), true⟩,
  ⟨some (150, false), .pick (.tmp 145) (.tmp 149) (.const (.bool false)), 4, none, true⟩,
  ⟨some (135, true), .assign (.tmp 150), 4, none, true⟩]
theorem maps_wone_r16_go {K : Env → Heap → Prop} {τ ρ : Env} {h : Heap} : vcOps Try.prog K maps_wone_r16 τ ρ h = vcOps Try.prog K [
  ⟨some (136, false), .move (.tmp 10), 4, none, true⟩,
  ⟨some (137, false), .move (.tmp 136), 4, none, true⟩,
  ⟨some (138, false), .move (.tmp 8), 3, some (137, true), true⟩,
  ⟨some (139, false), .binOp .lss 3 (.tmp 138) (.const (.int .i64 0)) 3, 4, some (137, true), true⟩,
  ⟨some (140, false), .pick (.tmp 137) (.tmp 139) (.const (.bool false)), 4, none, true⟩,
  ⟨some (141, false), .move (.tmp 140), 4, none, true⟩,
  ⟨some (142, false), .move (.tmp 8), 3, some (141, true), true⟩,
  ⟨some (143, false), .binOp .geq 3 (.tmp 142) (.const (.int .i64 (-3))) 3, 4, some (141, true), true⟩,
  ⟨some (144, false), .pick (.tmp 141) (.tmp 143) (.const (.bool false)), 4, none, true⟩,
  ⟨some (145, false), .move (.tmp 144), 4, none, true⟩,
  ⟨some (146, false), .fieldAddr 35 (.tmp 5) 2, 0, some (145, true), true⟩,
  ⟨some (147, false), .load 23 (.tmp 146), 23, some (145, true), true⟩,
  ⟨some (148, false), .call { callee := .builtin .len, args := #[.tmp 147], argTypes := #[23] }, 3, some (145, true), true⟩,
  ⟨some (149, false), .binOp .eql 3 (.tmp 148) (.const (.int .i64 0)) 3, 4, some (145, true), true⟩,
  ⟨some (150, false), .pick (.tmp 145) (.tmp 149) (.const (.bool false)), 4, none, true⟩,
  ⟨some (135, true), .assign (.tmp 150), 4, none, true⟩] τ ρ h := _root_.id rfl
def maps_wone_r17 : List Sop := [
  ⟨some (151, false), .move (.tmp 0), 68, none, true⟩,
  ⟨some (152, false), .move (.tmp 8), 3, none, true⟩,
  ⟨some (153, false), .binOp .add 3 (.const (.int .i64 251)) (.tmp 152) 3, 3, none, true⟩,
  ⟨some (154, false), .call { callee := .value (.func 35), args := #[.tmp 151, .tmp 153, .const (.int .i64 1)], argTypes := #[68, 3, 3] }, 0, none, false⟩]
theorem maps_wone_r17_go {K : Env → Heap → Prop} {τ ρ : Env} {h : Heap} : vcOps Try.prog K maps_wone_r17 τ ρ h = vcOps Try.prog K [
  ⟨some (151, false), .move (.tmp 0), 68, none, true⟩,
  ⟨some (152, false), .move (.tmp 8), 3, none, true⟩,
  ⟨some (153, false), .binOp .add 3 (.const (.int .i64 251)) (.tmp 152) 3, 3, none, true⟩,
  ⟨some (154, false), .call { callee := .value (.func 35), args := #[.tmp 151, .tmp 153, .const (.int .i64 1)], argTypes := #[68, 3, 3] }, 0, none, false⟩] τ ρ h := _root_.id rfl
def maps_wone_r18 : List Sop := [
  ⟨some (155, false), .move (.tmp 0), 68, none, true⟩,
  ⟨some (156, false), .move (.tmp 2), 3, none, true⟩,
  ⟨some (157, false), .call { callee := .value (.func 35), args := #[.tmp 155, .tmp 156, .const (.int .i64 2)], argTypes := #[68, 3, 3] }, 0, none, false⟩]
theorem maps_wone_r18_go {K : Env → Heap → Prop} {τ ρ : Env} {h : Heap} : vcOps Try.prog K maps_wone_r18 τ ρ h = vcOps Try.prog K [
  ⟨some (155, false), .move (.tmp 0), 68, none, true⟩,
  ⟨some (156, false), .move (.tmp 2), 3, none, true⟩,
  ⟨some (157, false), .call { callee := .value (.func 35), args := #[.tmp 155, .tmp 156, .const (.int .i64 2)], argTypes := #[68, 3, 3] }, 0, none, false⟩] τ ρ h := _root_.id rfl
def maps_wone_r19 : List Sop := [
  ⟨some (159, false), .move (.tmp 10), 4, none, true⟩,
  ⟨some (160, false), .move (.tmp 159), 4, none, true⟩,
  ⟨some (161, false), .move (.tmp 8), 3, some (160, true), true⟩,
  ⟨some (162, false), .binOp .gtr 3 (.tmp 161) (.const (.int .i64 0)) 3, 4, some (160, true), true⟩,
  ⟨some (163, false), .pick (.tmp 160) (.tmp 162) (.const (.bool false)), 4, none, true⟩,
  ⟨some (164, false), .move (.tmp 163), 4, none, true⟩,
  ⟨some (165, false), .move (.tmp 8), 3, some (164, true), true⟩,
  ⟨some (166, false), .binOp .leq 3 (.tmp 165) (.const (.int .i64 3)) 3, 4, some (164, true), true⟩,
  ⟨some (167, false), .pick (.tmp 164) (.tmp 166) (.const (.bool false)), 4, none, true⟩,
  ⟨some (168, false), .move (.tmp 167), 4, none, true⟩,
  ⟨some (169, false), .fieldAddr 35 (.tmp 5) 2, 0, some (168, true), true⟩,
  ⟨some (170, false), .load 23 (.tmp 169), 23, some (168, true), true⟩,
  ⟨some (171, false), .call { callee := .builtin .len, args := #[.tmp 170], argTypes := #[23] }, 3, some (168, true), true⟩,
  ⟨some (172, false), .binOp .eql 3 (.tmp 171) (.const (.int .i64 0)) 3, 4, some (168, true), true⟩,
  ⟨some (173, false), .pick (.tmp 168) (.tmp 172) (.const (.bool false)), 4, none, true⟩,
  ⟨some (158, true), .assign (.tmp 173), 4, none, true⟩]
theorem maps_wone_r19_go {K : Env → Heap → Prop} {τ ρ : Env} {h : Heap} : vcOps Try.prog K maps_wone_r19 τ ρ h = vcOps Try.prog K [
  ⟨some (159, false), .move (.tmp 10), 4, none, true⟩,
  ⟨some (160, false), .move (.tmp 159), 4, none, true⟩,
  ⟨some (161, false), .move (.tmp 8), 3, some (160, true), true⟩,
  ⟨some (162, false), .binOp .gtr 3 (.tmp 161) (.const (.int .i64 0)) 3, 4, some (160, true), true⟩,
  ⟨some (163, false), .pick (.tmp 160) (.tmp 162) (.const (.bool false)), 4, none, true⟩,
  ⟨some (164, false), .move (.tmp 163), 4, none, true⟩,
  ⟨some (165, false), .move (.tmp 8), 3, some (164, true), true⟩,
  ⟨some (166, false), .binOp .leq 3 (.tmp 165) (.const (.int .i64 3)) 3, 4, some (164, true), true⟩,
  ⟨some (167, false), .pick (.tmp 164) (.tmp 166) (.const (.bool false)), 4, none, true⟩,
  ⟨some (168, false), .move (.tmp 167), 4, none, true⟩,
  ⟨some (169, false), .fieldAddr 35 (.tmp 5) 2, 0, some (168, true), true⟩,
  ⟨some (170, false), .load 23 (.tmp 169), 23, some (168, true), true⟩,
  ⟨some (171, false), .call { callee := .builtin .len, args := #[.tmp 170], argTypes := #[23] }, 3, some (168, true), true⟩,
  ⟨some (172, false), .binOp .eql 3 (.tmp 171) (.const (.int .i64 0)) 3, 4, some (168, true), true⟩,
  ⟨some (173, false), .pick (.tmp 168) (.tmp 172) (.const (.bool false)), 4, none, true⟩,
  ⟨some (158, true), .assign (.tmp 173), 4, none, true⟩] τ ρ h := _root_.id rfl
def maps_wone_r20 : List Sop := [
  ⟨some (174, false), .move (.tmp 0), 68, none, true⟩,
  ⟨some (175, false), .move (.tmp 8), 3, none, true⟩,
  ⟨some (176, false), .binOp .add 3 (.const (.int .i64 251)) (.tmp 175) 3, 3, none, true⟩,
  ⟨some (177, false), .call { callee := .value (.func 35), args := #[.tmp 174, .tmp 176, .const (.int .i64 1)], argTypes := #[68, 3, 3] }, 0, none, false⟩]
theorem maps_wone_r20_go {K : Env → Heap → Prop} {τ ρ : Env} {h : Heap} : vcOps Try.prog K maps_wone_r20 τ ρ h = vcOps Try.prog K [
  ⟨some (174, false), .move (.tmp 0), 68, none, true⟩,
  ⟨some (175, false), .move (.tmp 8), 3, none, true⟩,
  ⟨some (176, false), .binOp .add 3 (.const (.int .i64 251)) (.tmp 175) 3, 3, none, true⟩,
  ⟨some (177, false), .call { callee := .value (.func 35), args := #[.tmp 174, .tmp 176, .const (.int .i64 1)], argTypes := #[68, 3, 3] }, 0, none, false⟩] τ ρ h := _root_.id rfl
def maps_wone_r21 : List Sop := [
  ⟨some (178, false), .move (.tmp 0), 68, none, true⟩,
  ⟨some (179, false), .move (.tmp 2), 3, none, true⟩,
  ⟨some (180, false), .call { callee := .value (.func 35), args := #[.tmp 178, .tmp 179, .const (.int .i64 2)], argTypes := #[68, 3, 3] }, 0, none, false⟩]
theorem maps_wone_r21_go {K : Env → Heap → Prop} {τ ρ : Env} {h : Heap} : vcOps Try.prog K maps_wone_r21 τ ρ h = vcOps Try.prog K [
  ⟨some (178, false), .move (.tmp 0), 68, none, true⟩,
  ⟨some (179, false), .move (.tmp 2), 3, none, true⟩,
  ⟨some (180, false), .call { callee := .value (.func 35), args := #[.tmp 178, .tmp 179, .const (.int .i64 2)], argTypes := #[68, 3, 3] }, 0, none, false⟩] τ ρ h := _root_.id rfl
def maps_wone_r22 : List Sop := [
  ⟨some (181, false), .move (.tmp 0), 68, none, true⟩,
  ⟨some (182, false), .fieldAddr 35 (.tmp 5) 1, 0, none, true⟩,
  ⟨some (183, false), .load 23 (.tmp 182), 23, none, true⟩,
  ⟨some (184, false), .move (.tmp 9), 3, none, true⟩,
  ⟨some (185, false), .slice 23 (.tmp 183) (some (.tmp 184)) none none, 23, none, true⟩,
  ⟨some (186, false), .call { callee := .value (.func 72), args := #[.tmp 181, .tmp 185], argTypes := #[68, 23] }, 0, none, false⟩]
theorem maps_wone_r22_go {K : Env → Heap → Prop} {τ ρ : Env} {h : Heap} : vcOps Try.prog K maps_wone_r22 τ ρ h = vcOps Try.prog K [
  ⟨some (181, false), .move (.tmp 0), 68, none, true⟩,
  ⟨some (182, false), .fieldAddr 35 (.tmp 5) 1, 0, none, true⟩,
  ⟨some (183, false), .load 23 (.tmp 182), 23, none, true⟩,
  ⟨some (184, false), .move (.tmp 9), 3, none, true⟩,
  ⟨some (185, false), .slice 23 (.tmp 183) (some (.tmp 184)) none none, 23, none, true⟩,
  ⟨some (186, false), .call { callee := .value (.func 72), args := #[.tmp 181, .tmp 185], argTypes := #[68, 23] }, 0, none, false⟩] τ ρ h := _root_.id rfl
def maps_wone_r23 : List Sop := [
  ⟨some (31, false), .move (.tmp 0), 68, none, true⟩,
  ⟨some (32, false), .call { callee := .value (.func 35), args := #[.tmp 31, .const (.int .i64 255), .const (.int .i64 1)], argTypes := #[68, 3, 3] }, 0, none, false⟩]
theorem maps_wone_r23_go {K : Env → Heap → Prop} {τ ρ : Env} {h : Heap} : vcOps Try.prog K maps_wone_r23 τ ρ h = vcOps Try.prog K [
  ⟨some (31, false), .move (.tmp 0), 68, none, true⟩,
  ⟨some (32, false), .call { callee := .value (.func 35), args := #[.tmp 31, .const (.int .i64 255), .const (.int .i64 1)], argTypes := #[68, 3, 3] }, 0, none, false⟩] τ ρ h := _root_.id rfl
def maps_wone_r24 : List Sop := [
  ⟨some (33, false), .move (.tmp 0), 68, none, true⟩,
  ⟨some (34, false), .move (.tmp 2), 3, none, true⟩,
  ⟨some (35, false), .call { callee := .value (.func 35), args := #[.tmp 33, .tmp 34, .const (.int .i64 2)], argTypes := #[68, 3, 3] }, 0, none, false⟩]
theorem maps_wone_r24_go {K : Env → Heap → Prop} {τ ρ : Env} {h : Heap} : vcOps Try.prog K maps_wone_r24 τ ρ h = vcOps Try.prog K [
  ⟨some (33, false), .move (.tmp 0), 68, none, true⟩,
  ⟨some (34, false), .move (.tmp 2), 3, none, true⟩,
  ⟨some (35, false), .call { callee := .value (.func 35), args := #[.tmp 33, .tmp 34, .const (.int .i64 2)], argTypes := #[68, 3, 3] }, 0, none, false⟩] τ ρ h := _root_.id rfl
def maps_wone_r25 : List Sop := [
  ⟨some (36, false), .move (.tmp 0), 68, none, true⟩,
  ⟨some (37, false), .fieldAddr 35 (.tmp 5) 1, 0, none, true⟩,
  ⟨some (38, false), .load 23 (.tmp 37), 23, none, true⟩,
  ⟨some (39, false), .call { callee := .builtin .len, args := #[.tmp 38], argTypes := #[23] }, 3, none, true⟩,
  ⟨some (40, false), .call { callee := .value (.func 35), args := #[.tmp 36, .tmp 39, .const (.int .i64 2)], argTypes := #[68, 3, 3] }, 0, none, false⟩]
theorem maps_wone_r25_go {K : Env → Heap → Prop} {τ ρ : Env} {h : Heap} : vcOps Try.prog K maps_wone_r25 τ ρ h = vcOps Try.prog K [
  ⟨some (36, false), .move (.tmp 0), 68, none, true⟩,
  ⟨some (37, false), .fieldAddr 35 (.tmp 5) 1, 0, none, true⟩,
  ⟨some (38, false), .load 23 (.tmp 37), 23, none, true⟩,
  ⟨some (39, false), .call { callee := .builtin .len, args := #[.tmp 38], argTypes := #[23] }, 3, none, true⟩,
  ⟨some (40, false), .call { callee := .value (.func 35), args := #[.tmp 36, .tmp 39, .const (.int .i64 2)], argTypes := #[68, 3, 3] }, 0, none, false⟩] τ ρ h := _root_.id rfl
def maps_wone_r26 : List Sop := [
  ⟨some (41, false), .move (.tmp 0), 68, none, true⟩,
  ⟨some (42, false), .fieldAddr 35 (.tmp 5) 1, 0, none, true⟩,
  ⟨some (43, false), .load 23 (.tmp 42), 23, none, true⟩,
  ⟨some (44, false), .call { callee := .value (.func 72), args := #[.tmp 41, .tmp 43], argTypes := #[68, 23] }, 0, none, false⟩]
theorem maps_wone_r26_go {K : Env → Heap → Prop} {τ ρ : Env} {h : Heap} : vcOps Try.prog K maps_wone_r26 τ ρ h = vcOps Try.prog K [
  ⟨some (41, false), .move (.tmp 0), 68, none, true⟩,
  ⟨some (42, false), .fieldAddr 35 (.tmp 5) 1, 0, none, true⟩,
  ⟨some (43, false), .load 23 (.tmp 42), 23, none, true⟩,
  ⟨some (44, false), .call { callee := .value (.func 72), args := #[.tmp 41, .tmp 43], argTypes := #[68, 23] }, 0, none, false⟩] τ ρ h := _root_.id rfl
def maps_wone_r27 : List Sop := [
  ⟨some (45, false), .move (.tmp 0), 68, none, true⟩,
  ⟨some (46, false), .fieldAddr 35 (.tmp 5) 2, 0, none, true⟩,
  ⟨some (47, false), .load 23 (.tmp 46), 23, none, true⟩,
  ⟨some (48, false), .call { callee := .builtin .len, args := #[.tmp 47], argTypes := #[23] }, 3, none, true⟩,
  ⟨some (49, false), .call { callee := .value (.func 35), args := #[.tmp 45, .tmp 48, .const (.int .i64 2)], argTypes := #[68, 3, 3] }, 0, none, false⟩]
theorem maps_wone_r27_go {K : Env → Heap → Prop} {τ ρ : Env} {h : Heap} : vcOps Try.prog K maps_wone_r27 τ ρ h = vcOps Try.prog K [
  ⟨some (45, false), .move (.tmp 0), 68, none, true⟩,
  ⟨some (46, false), .fieldAddr 35 (.tmp 5) 2, 0, none, true⟩,
  ⟨some (47, false), .load 23 (.tmp 46), 23, none, true⟩,
  ⟨some (48, false), .call { callee := .builtin .len, args := #[.tmp 47], argTypes := #[23] }, 3, none, true⟩,
  ⟨some (49, false), .call { callee := .value (.func 35), args := #[.tmp 45, .tmp 48, .const (.int .i64 2)], argTypes := #[68, 3, 3] }, 0, none, false⟩] τ ρ h := _root_.id rfl
def maps_wone_r28 : List Sop := [
  ⟨some (50, false), .move (.tmp 0), 68, none, true⟩,
  ⟨some (51, false), .fieldAddr 35 (.tmp 5) 2, 0, none, true⟩,
  ⟨some (52, false), .load 23 (.tmp 51), 23, none, true⟩,
  ⟨some (53, false), .call { callee := .value (.func 72), args := #[.tmp 50, .tmp 52], argTypes := #[68, 23] }, 0, none, false⟩]
theorem maps_wone_r28_go {K : Env → Heap → Prop} {τ ρ : Env} {h : Heap} : vcOps Try.prog K maps_wone_r28 τ ρ h = vcOps Try.prog K [
  ⟨some (50, false), .move (.tmp 0), 68, none, true⟩,
  ⟨some (51, false), .fieldAddr 35 (.tmp 5) 2, 0, none, true⟩,
  ⟨some (52, false), .load 23 (.tmp 51), 23, none, true⟩,
  ⟨some (53, false), .call { callee := .value (.func 72), args := #[.tmp 50, .tmp 52], argTypes := #[68, 23] }, 0, none, false⟩] τ ρ h := _root_.id rfl
def maps_wone : Cd := .seq (.region maps_wone_r0) (.seq (.region maps_wone_r1) (.seq (.region maps_wone_r2) (.seq (.draw maps_wone_r3) (.block 0 (.seq (.region maps_wone_r4) (.cond (.tmp 54) (.region maps_wone_r5) (.seq (.region maps_wone_r6) (.cond (.tmp 73) (.seq (.region maps_wone_r7) (.region maps_wone_r8)) (.seq (.region maps_wone_r9) (.cond (.tmp 90) (.seq (.region maps_wone_r10) (.region maps_wone_r11)) (.seq (.region maps_wone_r12) (.cond (.tmp 114) (.seq (.region maps_wone_r13) (.seq (.region maps_wone_r14) (.region maps_wone_r15))) (.seq (.region maps_wone_r16) (.cond (.tmp 135) (.seq (.region maps_wone_r17) (.region maps_wone_r18)) (.seq (.region maps_wone_r19) (.cond (.tmp 158) (.seq (.region maps_wone_r20) (.seq (.region maps_wone_r21) (.region maps_wone_r22))) (.seq (.region maps_wone_r23) (.seq (.region maps_wone_r24) (.seq (.region maps_wone_r25) (.seq (.region maps_wone_r26) (.seq (.region maps_wone_r27) (.region maps_wone_r28))))))))))))))))))))))
theorem maps_wone_go {Q : Ex → Env → Heap → Prop} {ρ : Env} {h : Heap} : Cd.vc Try.prog maps_wone Q ρ h = Cd.vc Try.prog (.seq (.region maps_wone_r0) (.seq (.region maps_wone_r1) (.seq (.region maps_wone_r2) (.seq (.draw maps_wone_r3) (.block 0 (.seq (.region maps_wone_r4) (.cond (.tmp 54) (.region maps_wone_r5) (.seq (.region maps_wone_r6) (.cond (.tmp 73) (.seq (.region maps_wone_r7) (.region maps_wone_r8)) (.seq (.region maps_wone_r9) (.cond (.tmp 90) (.seq (.region maps_wone_r10) (.region maps_wone_r11)) (.seq (.region maps_wone_r12) (.cond (.tmp 114) (.seq (.region maps_wone_r13) (.seq (.region maps_wone_r14) (.region maps_wone_r15))) (.seq (.region maps_wone_r16) (.cond (.tmp 135) (.seq (.region maps_wone_r17) (.region maps_wone_r18)) (.seq (.region maps_wone_r19) (.cond (.tmp 158) (.seq (.region maps_wone_r20) (.seq (.region maps_wone_r21) (.region maps_wone_r22))) (.seq (.region maps_wone_r23) (.seq (.region maps_wone_r24) (.seq (.region maps_wone_r25) (.seq (.region maps_wone_r26) (.seq (.region maps_wone_r27) (.region maps_wone_r28))))))))))))))))))))))) Q ρ h := _root_.id rfl
theorem maps_wone_calls {args : List Value} {h : Heap} {R : Value → Heap → Prop} (hl : args.length = 4) (hv : Cd.vc Try.prog maps_wone (retQ Try.prog [] R) (initEnv args [0, 1, 2, 3, 5, 8, 9, 10, 54, 73, 90, 114, 135, 158]) h) : HCalls Try.prog 36 args.toArray h R :=
  hcalls_of_vc (by kernel_rfl) Try.func36 (cd := maps_wone) (L := [0, 1, 2, 3, 5, 8, 9, 10, 54, 73, 90, 114, 135, 158]) (by kernel_rfl) (by kernel_rfl) ⟨by rw [hl, Try.ntmps36]; decide, by rw [Try.ntmps36]; decide⟩ hv
def maps_wone_gos := And.intro @maps_wone_go (And.intro @maps_wone_r0_go (And.intro @maps_wone_r1_go (And.intro @maps_wone_r2_go (And.intro @maps_wone_r3_go (And.intro @maps_wone_r4_go (And.intro @maps_wone_r5_go (And.intro @maps_wone_r6_go (And.intro @maps_wone_r7_go (And.intro @maps_wone_r8_go (And.intro @maps_wone_r9_go (And.intro @maps_wone_r10_go (And.intro @maps_wone_r11_go (And.intro @maps_wone_r12_go (And.intro @maps_wone_r13_go (And.intro @maps_wone_r14_go (And.intro @maps_wone_r15_go (And.intro @maps_wone_r16_go (And.intro @maps_wone_r17_go (And.intro @maps_wone_r18_go (And.intro @maps_wone_r19_go (And.intro @maps_wone_r20_go (And.intro @maps_wone_r21_go (And.intro @maps_wone_r22_go (And.intro @maps_wone_r23_go (And.intro @maps_wone_r24_go (And.intro @maps_wone_r25_go (And.intro @maps_wone_r26_go (And.intro @maps_wone_r27_go (@maps_wone_r28_go)))))))))))))))))))))))))))))

/-! (*jvmcore/maps.writer).values: function 72: slots [0, 1, 2, 5, 6, 7, 8, 9, 10, 18, 37, 43, 54, 61] -/
def maps_wvalues_r0 : List Sop := [
  ⟨some (2, true), .box 68 (.tmp 0), 0, none, false⟩]
theorem maps_wvalues_r0_go {K : Env → Heap → Prop} {τ ρ : Env} {h : Heap} : vcOps Try.prog K maps_wvalues_r0 τ ρ h = vcOps Try.prog K [
  ⟨some (2, true), .box 68 (.tmp 0), 0, none, false⟩] τ ρ h := _root_.id rfl
def maps_wvalues_r1 : List Sop := [
  ⟨some (7, true), .move (.tmp 1), 23, none, true⟩,
  ⟨some (8, true), .call { callee := .builtin .len, args := #[.tmp 7], argTypes := #[23] }, 3, none, true⟩,
  ⟨some (9, true), .move (.const (.int .i64 0)), 3, none, true⟩]
theorem maps_wvalues_r1_go {K : Env → Heap → Prop} {τ ρ : Env} {h : Heap} : vcOps Try.prog K maps_wvalues_r1 τ ρ h = vcOps Try.prog K [
  ⟨some (7, true), .move (.tmp 1), 23, none, true⟩,
  ⟨some (8, true), .call { callee := .builtin .len, args := #[.tmp 7], argTypes := #[23] }, 3, none, true⟩,
  ⟨some (9, true), .move (.const (.int .i64 0)), 3, none, true⟩] τ ρ h := _root_.id rfl
def maps_wvalues_r2 : List Sop := [
  ⟨some (10, true), .binOp .lss 3 (.tmp 9) (.tmp 8) 3, 0, none, true⟩]
theorem maps_wvalues_r2_go {K : Env → Heap → Prop} {τ ρ : Env} {h : Heap} : vcOps Try.prog K maps_wvalues_r2 τ ρ h = vcOps Try.prog K [
  ⟨some (10, true), .binOp .lss 3 (.tmp 9) (.tmp 8) 3, 0, none, true⟩] τ ρ h := _root_.id rfl
def maps_wvalues_r3 : List Sop := [
  ⟨some (11, false), .indexAddr 23 (.tmp 7) (.tmp 9), 0, none, true⟩,
  ⟨some (12, false), .load 25 (.tmp 11), 25, none, true⟩,
  ⟨some (5, true), .alloc 25, 0, none, false⟩,
  ⟨none, .store 25 (.tmp 5) (.tmp 12), 0, none, false⟩]
theorem maps_wvalues_r3_go {K : Env → Heap → Prop} {τ ρ : Env} {h : Heap} : vcOps Try.prog K maps_wvalues_r3 τ ρ h = vcOps Try.prog K [
  ⟨some (11, false), .indexAddr 23 (.tmp 7) (.tmp 9), 0, none, true⟩,
  ⟨some (12, false), .load 25 (.tmp 11), 25, none, true⟩,
  ⟨some (5, true), .alloc 25, 0, none, false⟩,
  ⟨none, .store 25 (.tmp 5) (.tmp 12), 0, none, false⟩] τ ρ h := _root_.id rfl
def maps_wvalues_r4 : List Sop := [
  ⟨some (13, false), .load 68 (.tmp 2), 68, none, true⟩,
  ⟨some (14, false), .fieldAddr 25 (.tmp 5) 0, 0, none, true⟩,
  ⟨some (15, false), .load 5 (.tmp 14), 5, none, true⟩,
  ⟨some (16, false), .convert 5 3 (.tmp 15), 3, none, true⟩,
  ⟨some (17, false), .call { callee := .value (.func 35), args := #[.tmp 13, .tmp 16, .const (.int .i64 1)], argTypes := #[68, 3, 3] }, 0, none, false⟩]
theorem maps_wvalues_r4_go {K : Env → Heap → Prop} {τ ρ : Env} {h : Heap} : vcOps Try.prog K maps_wvalues_r4 τ ρ h = vcOps Try.prog K [
  ⟨some (13, false), .load 68 (.tmp 2), 68, none, true⟩,
  ⟨some (14, false), .fieldAddr 25 (.tmp 5) 0, 0, none, true⟩,
  ⟨some (15, false), .load 5 (.tmp 14), 5, none, true⟩,
  ⟨some (16, false), .convert 5 3 (.tmp 15), 3, none, true⟩,
  ⟨some (17, false), .call { callee := .value (.func 35), args := #[.tmp 13, .tmp 16, .const (.int .i64 1)], argTypes := #[68, 3, 3] }, 0, none, false⟩] τ ρ h := _root_.id rfl
def maps_wvalues_r5 : List Sop := [
  ⟨some (19, false), .fieldAddr 25 (.tmp 5) 0, 0, none, true⟩,
  ⟨some (20, false), .load 5 (.tmp 19), 5, none, true⟩,
  ⟨some (21, false), .binOp .eql 5 (.tmp 20) (.const (.int .u8 7)) 5, 4, none, true⟩,
  ⟨some (18, true), .assign (.tmp 21), 4, none, true⟩]
theorem maps_wvalues_r5_go {K : Env → Heap → Prop} {τ ρ : Env} {h : Heap} : vcOps Try.prog K maps_wvalues_r5 τ ρ h = vcOps Try.prog K [
  ⟨some (19, false), .fieldAddr 25 (.tmp 5) 0, 0, none, true⟩,
  ⟨some (20, false), .load 5 (.tmp 19), 5, none, true⟩,
  ⟨some (21, false), .binOp .eql 5 (.tmp 20) (.const (.int .u8 7)) 5, 4, none, true⟩,
  ⟨some (18, true), .assign (.tmp 21), 4, none, true⟩] τ ρ h := _root_.id rfl
def maps_wvalues_r6 : List (Sop × List Sop) := [
  (⟨some (22, false), .load 68 (.tmp 2), 68, none, true⟩, []),
  (⟨some (23, false), .nilCheck (.tmp 22), 0, none, true⟩, []),
  (⟨some (24, false), .fieldAddr 71 (.tmp 23) 1, 0, none, true⟩, []),
  (⟨some (25, false), .load 22 (.tmp 24), 22, none, true⟩, []),
  (⟨some (26, false), .load 68 (.tmp 2), 68, none, true⟩, []),
  (⟨some (27, false), .nilCheck (.tmp 26), 0, none, true⟩, []),
  (⟨some (28, false), .fieldAddr 71 (.tmp 27) 1, 0, none, true⟩, []),
  (⟨some (29, false), .load 22 (.tmp 28), 22, none, true⟩, []),
  (⟨some (30, false), .call { callee := .builtin .len, args := #[.tmp 29], argTypes := #[22] }, 3, none, true⟩, []),
  (⟨some (31, false), .call { callee := .builtin .min, args := #[.const (.int .i64 1), .tmp 30], argTypes := #[3, 3] }, 3, none, true⟩, []),
  (⟨some (32, false), .slice 22 (.tmp 25) (some (.tmp 31)) none none, 22, none, true⟩, []),
  (⟨some (33, false), .makeFunc (.func 88) #[] #[.tmp 2, .tmp 5], 144, none, true⟩, []),
  (⟨some (34, false), .call { callee := .value (.func 87), args := #[.tmp 32, .tmp 33], argTypes := #[22, 144] }, 3, none, false⟩, []),
  (⟨some (35, false), .binOp .add 3 (.const (.int .i64 1)) (.tmp 34) 3, 3, none, true⟩, []),
  (⟨some (6, true), .assign (.tmp 35), 3, none, true⟩, [])]
theorem maps_wvalues_r6_go {K : Env → Heap → Prop} {τ ρ : Env} {h : Heap} : vcDraw Try.prog K maps_wvalues_r6 τ ρ h = vcDraw Try.prog K [
  (⟨some (22, false), .load 68 (.tmp 2), 68, none, true⟩, []),
  (⟨some (23, false), .nilCheck (.tmp 22), 0, none, true⟩, []),
  (⟨some (24, false), .fieldAddr 71 (.tmp 23) 1, 0, none, true⟩, []),
  (⟨some (25, false), .load 22 (.tmp 24), 22, none, true⟩, []),
  (⟨some (26, false), .load 68 (.tmp 2), 68, none, true⟩, []),
  (⟨some (27, false), .nilCheck (.tmp 26), 0, none, true⟩, []),
  (⟨some (28, false), .fieldAddr 71 (.tmp 27) 1, 0, none, true⟩, []),
  (⟨some (29, false), .load 22 (.tmp 28), 22, none, true⟩, []),
  (⟨some (30, false), .call { callee := .builtin .len, args := #[.tmp 29], argTypes := #[22] }, 3, none, true⟩, []),
  (⟨some (31, false), .call { callee := .builtin .min, args := #[.const (.int .i64 1), .tmp 30], argTypes := #[3, 3] }, 3, none, true⟩, []),
  (⟨some (32, false), .slice 22 (.tmp 25) (some (.tmp 31)) none none, 22, none, true⟩, []),
  (⟨some (33, false), .makeFunc (.func 88) #[] #[.tmp 2, .tmp 5], 144, none, true⟩, []),
  (⟨some (34, false), .call { callee := .value (.func 87), args := #[.tmp 32, .tmp 33], argTypes := #[22, 144] }, 3, none, false⟩, []),
  (⟨some (35, false), .binOp .add 3 (.const (.int .i64 1)) (.tmp 34) 3, 3, none, true⟩, []),
  (⟨some (6, true), .assign (.tmp 35), 3, none, true⟩, [])] τ ρ h := _root_.id rfl
def maps_wvalues_r7 : List Sop := [
  ⟨some (36, false), .move (.tmp 6), 3, none, true⟩,
  ⟨some (37, true), .binOp .eql 3 (.tmp 36) (.const (.int .i64 0)) 3, 4, none, true⟩]
theorem maps_wvalues_r7_go {K : Env → Heap → Prop} {τ ρ : Env} {h : Heap} : vcOps Try.prog K maps_wvalues_r7 τ ρ h = vcOps Try.prog K [
  ⟨some (36, false), .move (.tmp 6), 3, none, true⟩,
  ⟨some (37, true), .binOp .eql 3 (.tmp 36) (.const (.int .i64 0)) 3, 4, none, true⟩] τ ρ h := _root_.id rfl
def maps_wvalues_r8 : List Sop := [
  ⟨some (38, false), .load 68 (.tmp 2), 68, none, true⟩,
  ⟨some (39, false), .call { callee := .value (.func 89), args := #[.tmp 38, .const (.int .i64 7)], argTypes := #[68, 27] }, 0, none, false⟩]
theorem maps_wvalues_r8_go {K : Env → Heap → Prop} {τ ρ : Env} {h : Heap} : vcOps Try.prog K maps_wvalues_r8 τ ρ h = vcOps Try.prog K [
  ⟨some (38, false), .load 68 (.tmp 2), 68, none, true⟩,
  ⟨some (39, false), .call { callee := .value (.func 89), args := #[.tmp 38, .const (.int .i64 7)], argTypes := #[68, 27] }, 0, none, false⟩] τ ρ h := _root_.id rfl
def maps_wvalues_r9 : List Sop := [
  ⟨some (40, false), .load 68 (.tmp 2), 68, none, true⟩,
  ⟨some (41, false), .move (.tmp 6), 3, none, true⟩,
  ⟨some (42, false), .call { callee := .value (.func 35), args := #[.tmp 40, .tmp 41, .const (.int .i64 2)], argTypes := #[68, 3, 3] }, 0, none, false⟩]
theorem maps_wvalues_r9_go {K : Env → Heap → Prop} {τ ρ : Env} {h : Heap} : vcOps Try.prog K maps_wvalues_r9 τ ρ h = vcOps Try.prog K [
  ⟨some (40, false), .load 68 (.tmp 2), 68, none, true⟩,
  ⟨some (41, false), .move (.tmp 6), 3, none, true⟩,
  ⟨some (42, false), .call { callee := .value (.func 35), args := #[.tmp 40, .tmp 41, .const (.int .i64 2)], argTypes := #[68, 3, 3] }, 0, none, false⟩] τ ρ h := _root_.id rfl
def maps_wvalues_r10 : List Sop := [
  ⟨some (44, false), .fieldAddr 25 (.tmp 5) 0, 0, none, true⟩,
  ⟨some (45, false), .load 5 (.tmp 44), 5, none, true⟩,
  ⟨some (46, false), .binOp .eql 5 (.tmp 45) (.const (.int .u8 8)) 5, 4, none, true⟩,
  ⟨some (43, true), .assign (.tmp 46), 4, none, true⟩]
theorem maps_wvalues_r10_go {K : Env → Heap → Prop} {τ ρ : Env} {h : Heap} : vcOps Try.prog K maps_wvalues_r10 τ ρ h = vcOps Try.prog K [
  ⟨some (44, false), .fieldAddr 25 (.tmp 5) 0, 0, none, true⟩,
  ⟨some (45, false), .load 5 (.tmp 44), 5, none, true⟩,
  ⟨some (46, false), .binOp .eql 5 (.tmp 45) (.const (.int .u8 8)) 5, 4, none, true⟩,
  ⟨some (43, true), .assign (.tmp 46), 4, none, true⟩] τ ρ h := _root_.id rfl
def maps_wvalues_r11 : List Sop := [
  ⟨some (47, false), .fieldAddr 25 (.tmp 5) 2, 0, none, true⟩,
  ⟨some (48, false), .load 3 (.tmp 47), 3, none, true⟩,
  ⟨some (49, false), .binOp .lss 3 (.tmp 48) (.const (.int .i64 0)) 3, 4, none, true⟩,
  ⟨some (50, false), .move (.tmp 49), 4, none, true⟩,
  ⟨some (51, false), .fieldAddr 25 (.tmp 5) 2, 0, some (50, false), true⟩,
  ⟨some (52, false), .load 3 (.tmp 51), 3, some (50, false), true⟩,
  ⟨some (53, false), .binOp .gtr 3 (.tmp 52) (.const (.int .i64 65535)) 3, 4, some (50, false), true⟩,
  ⟨some (54, true), .pick (.tmp 50) (.const (.bool true)) (.tmp 53), 4, none, true⟩]
theorem maps_wvalues_r11_go {K : Env → Heap → Prop} {τ ρ : Env} {h : Heap} : vcOps Try.prog K maps_wvalues_r11 τ ρ h = vcOps Try.prog K [
  ⟨some (47, false), .fieldAddr 25 (.tmp 5) 2, 0, none, true⟩,
  ⟨some (48, false), .load 3 (.tmp 47), 3, none, true⟩,
  ⟨some (49, false), .binOp .lss 3 (.tmp 48) (.const (.int .i64 0)) 3, 4, none, true⟩,
  ⟨some (50, false), .move (.tmp 49), 4, none, true⟩,
  ⟨some (51, false), .fieldAddr 25 (.tmp 5) 2, 0, some (50, false), true⟩,
  ⟨some (52, false), .load 3 (.tmp 51), 3, some (50, false), true⟩,
  ⟨some (53, false), .binOp .gtr 3 (.tmp 52) (.const (.int .i64 65535)) 3, 4, some (50, false), true⟩,
  ⟨some (54, true), .pick (.tmp 50) (.const (.bool true)) (.tmp 53), 4, none, true⟩] τ ρ h := _root_.id rfl
def maps_wvalues_r12 : List Sop := [
  ⟨some (55, false), .load 68 (.tmp 2), 68, none, true⟩,
  ⟨some (56, false), .call { callee := .value (.func 89), args := #[.tmp 55, .const (.int .i64 17)], argTypes := #[68, 27] }, 0, none, false⟩]
theorem maps_wvalues_r12_go {K : Env → Heap → Prop} {τ ρ : Env} {h : Heap} : vcOps Try.prog K maps_wvalues_r12 τ ρ h = vcOps Try.prog K [
  ⟨some (55, false), .load 68 (.tmp 2), 68, none, true⟩,
  ⟨some (56, false), .call { callee := .value (.func 89), args := #[.tmp 55, .const (.int .i64 17)], argTypes := #[68, 27] }, 0, none, false⟩] τ ρ h := _root_.id rfl
def maps_wvalues_r13 : List Sop := [
  ⟨some (57, false), .load 68 (.tmp 2), 68, none, true⟩,
  ⟨some (58, false), .fieldAddr 25 (.tmp 5) 2, 0, none, true⟩,
  ⟨some (59, false), .load 3 (.tmp 58), 3, none, true⟩,
  ⟨some (60, false), .call { callee := .value (.func 35), args := #[.tmp 57, .tmp 59, .const (.int .i64 2)], argTypes := #[68, 3, 3] }, 0, none, false⟩]
theorem maps_wvalues_r13_go {K : Env → Heap → Prop} {τ ρ : Env} {h : Heap} : vcOps Try.prog K maps_wvalues_r13 τ ρ h = vcOps Try.prog K [
  ⟨some (57, false), .load 68 (.tmp 2), 68, none, true⟩,
  ⟨some (58, false), .fieldAddr 25 (.tmp 5) 2, 0, none, true⟩,
  ⟨some (59, false), .load 3 (.tmp 58), 3, none, true⟩,
  ⟨some (60, false), .call { callee := .value (.func 35), args := #[.tmp 57, .tmp 59, .const (.int .i64 2)], argTypes := #[68, 3, 3] }, 0, none, false⟩] τ ρ h := _root_.id rfl
def maps_wvalues_r14 : List Sop := [
  ⟨some (62, false), .fieldAddr 25 (.tmp 5) 0, 0, none, true⟩,
  ⟨some (63, false), .load 5 (.tmp 62), 5, none, true⟩,
  ⟨some (64, false), .binOp .gtr 5 (.tmp 63) (.const (.int .u8 8)) 5, 4, none, true⟩,
  ⟨some (61, true), .assign (.tmp 64), 4, none, true⟩]
theorem maps_wvalues_r14_go {K : Env → Heap → Prop} {τ ρ : Env} {h : Heap} : vcOps Try.prog K maps_wvalues_r14 τ ρ h = vcOps Try.prog K [
  ⟨some (62, false), .fieldAddr 25 (.tmp 5) 0, 0, none, true⟩,
  ⟨some (63, false), .load 5 (.tmp 62), 5, none, true⟩,
  ⟨some (64, false), .binOp .gtr 5 (.tmp 63) (.const (.int .u8 8)) 5, 4, none, true⟩,
  ⟨some (61, true), .assign (.tmp 64), 4, none, true⟩] τ ρ h := _root_.id rfl
def maps_wvalues_r15 : List Sop := [
  ⟨some (65, false), .load 68 (.tmp 2), 68, none, true⟩,
  ⟨some (66, false), .call { callee := .value (.func 89), args := #[.tmp 65, .const (.int .i64 17)], argTypes := #[68, 27] }, 0, none, false⟩]
theorem maps_wvalues_r15_go {K : Env → Heap → Prop} {τ ρ : Env} {h : Heap} : vcOps Try.prog K maps_wvalues_r15 τ ρ h = vcOps Try.prog K [
  ⟨some (65, false), .load 68 (.tmp 2), 68, none, true⟩,
  ⟨some (66, false), .call { callee := .value (.func 89), args := #[.tmp 65, .const (.int .i64 17)], argTypes := #[68, 27] }, 0, none, false⟩] τ ρ h := _root_.id rfl
def maps_wvalues_r16 : List Sop := [
  ⟨some (67, false), .binOp .add 3 (.tmp 9) (.const (.int .i64 1)) 3, 3, none, true⟩,
  ⟨some (9, true), .move (.tmp 67), 3, none, true⟩]
theorem maps_wvalues_r16_go {K : Env → Heap → Prop} {τ ρ : Env} {h : Heap} : vcOps Try.prog K maps_wvalues_r16 τ ρ h = vcOps Try.prog K [
  ⟨some (67, false), .binOp .add 3 (.tmp 9) (.const (.int .i64 1)) 3, 3, none, true⟩,
  ⟨some (9, true), .move (.tmp 67), 3, none, true⟩] τ ρ h := _root_.id rfl
def maps_wvalues_l0 : Cd := .seq (.region maps_wvalues_r2) (.seq (.cond (.tmp 10) (.skip) (.exit 0)) (.seq (.block 1 (.seq (.region maps_wvalues_r3) (.seq (.region maps_wvalues_r4) (.block 2 (.seq (.region maps_wvalues_r5) (.cond (.tmp 18) (.seq (.draw maps_wvalues_r6) (.seq (.seq (.region maps_wvalues_r7) (.cond (.tmp 37) (.region maps_wvalues_r8) (.skip))) (.region maps_wvalues_r9))) (.seq (.region maps_wvalues_r10) (.cond (.tmp 43) (.seq (.seq (.region maps_wvalues_r11) (.cond (.tmp 54) (.region maps_wvalues_r12) (.skip))) (.region maps_wvalues_r13)) (.seq (.region maps_wvalues_r14) (.cond (.tmp 61) (.region maps_wvalues_r15) (.skip))))))))))) (.region maps_wvalues_r16)))
theorem maps_wvalues_l0_go {Q : Ex → Env → Heap → Prop} {ρ : Env} {h : Heap} : Cd.vc Try.prog maps_wvalues_l0 Q ρ h = Cd.vc Try.prog (.seq (.region maps_wvalues_r2) (.seq (.cond (.tmp 10) (.skip) (.exit 0)) (.seq (.block 1 (.seq (.region maps_wvalues_r3) (.seq (.region maps_wvalues_r4) (.block 2 (.seq (.region maps_wvalues_r5) (.cond (.tmp 18) (.seq (.draw maps_wvalues_r6) (.seq (.seq (.region maps_wvalues_r7) (.cond (.tmp 37) (.region maps_wvalues_r8) (.skip))) (.region maps_wvalues_r9))) (.seq (.region maps_wvalues_r10) (.cond (.tmp 43) (.seq (.seq (.region maps_wvalues_r11) (.cond (.tmp 54) (.region maps_wvalues_r12) (.skip))) (.region maps_wvalues_r13)) (.seq (.region maps_wvalues_r14) (.cond (.tmp 61) (.region maps_wvalues_r15) (.skip))))))))))) (.region maps_wvalues_r16)))) Q ρ h := _root_.id rfl
def maps_wvalues : Cd := .seq (.region maps_wvalues_r0) (.seq (.region maps_wvalues_r1) (.block 0 (.loop maps_wvalues_l0)))
theorem maps_wvalues_go {Q : Ex → Env → Heap → Prop} {ρ : Env} {h : Heap} : Cd.vc Try.prog maps_wvalues Q ρ h = Cd.vc Try.prog (.seq (.region maps_wvalues_r0) (.seq (.region maps_wvalues_r1) (.block 0 (.loop maps_wvalues_l0)))) Q ρ h := _root_.id rfl
theorem maps_wvalues_calls {args : List Value} {h : Heap} {R : Value → Heap → Prop} (hl : args.length = 2) (hv : Cd.vc Try.prog maps_wvalues (retQ Try.prog [] R) (initEnv args [0, 1, 2, 5, 6, 7, 8, 9, 10, 18, 37, 43, 54, 61]) h) : HCalls Try.prog 72 args.toArray h R :=
  hcalls_of_vc (by kernel_rfl) Try.func72 (cd := maps_wvalues) (L := [0, 1, 2, 5, 6, 7, 8, 9, 10, 18, 37, 43, 54, 61]) (by kernel_rfl) (by kernel_rfl) ⟨by rw [hl, Try.ntmps72]; decide, by rw [Try.ntmps72]; decide⟩ hv
def maps_wvalues_gos := And.intro @maps_wvalues_go (And.intro @maps_wvalues_r0_go (And.intro @maps_wvalues_r1_go (And.intro @maps_wvalues_r2_go (And.intro @maps_wvalues_r3_go (And.intro @maps_wvalues_r4_go (And.intro @maps_wvalues_r5_go (And.intro @maps_wvalues_r6_go (And.intro @maps_wvalues_r7_go (And.intro @maps_wvalues_r8_go (And.intro @maps_wvalues_r9_go (And.intro @maps_wvalues_r10_go (And.intro @maps_wvalues_r11_go (And.intro @maps_wvalues_r12_go (And.intro @maps_wvalues_r13_go (And.intro @maps_wvalues_r14_go (And.intro @maps_wvalues_r15_go (And.intro @maps_wvalues_r16_go (@maps_wvalues_l0_go))))))))))))))))))

/-! (*jvmcore/maps.writer).values.1: function 88: slots [0, 1, 2, 3, 4] -/
def maps_wvalues_1_r0 : List Sop := [
  ⟨some (3, true), .box 76 (.tmp 0), 0, none, false⟩,
  ⟨some (4, true), .assign (.const (.bool false)), 4, none, true⟩]
theorem maps_wvalues_1_r0_go {K : Env → Heap → Prop} {τ ρ : Env} {h : Heap} : vcOps Try.prog K maps_wvalues_1_r0 τ ρ h = vcOps Try.prog K [
  ⟨some (3, true), .box 76 (.tmp 0), 0, none, false⟩,
  ⟨some (4, true), .assign (.const (.bool false)), 4, none, true⟩] τ ρ h := _root_.id rfl
def maps_wvalues_1_r1 : List (Sop × List Sop) := [
  (⟨some (5, false), .fieldAddr 76 (.tmp 3) 0, 0, none, true⟩, []),
  (⟨some (6, false), .load 5 (.tmp 5), 5, none, true⟩, []),
  (⟨some (7, false), .binOp .eql 5 (.tmp 6) (.const (.int .u8 7)) 5, 4, none, true⟩, []),
  (⟨some (8, false), .move (.tmp 7), 4, none, true⟩, []),
  (⟨some (9, false), .load 68 (.tmp 1), 68, some (8, true), true⟩, []),
  (⟨some (10, false), .nilCheck (.tmp 9), 0, some (8, true), true⟩, []),
  (⟨some (11, false), .fieldAddr 71 (.tmp 10) 1, 0, some (8, true), true⟩, []),
  (⟨some (12, false), .load 22 (.tmp 11), 22, some (8, true), true⟩, []),
  (⟨some (13, false), .fieldAddr 76 (.tmp 3) 3, 0, some (8, true), true⟩, []),
  (⟨some (14, false), .load 38 (.tmp 13), 38, some (8, true), true⟩, []),
  (⟨some (15, false), .call { callee := .value (.func 83), args := #[.tmp 12, .tmp 14, .const (.int .u8 1)], argTypes := #[22, 38, 5] }, 4, some (8, true), false⟩, []),
  (⟨some (16, false), .pick (.tmp 8) (.tmp 15) (.const (.bool false)), 4, none, true⟩, []),
  (⟨some (17, false), .move (.tmp 16), 4, none, true⟩, []),
  (⟨some (18, false), .load 68 (.tmp 1), 68, some (17, true), true⟩, []),
  (⟨some (19, false), .nilCheck (.tmp 18), 0, some (17, true), true⟩, []),
  (⟨some (20, false), .fieldAddr 71 (.tmp 19) 1, 0, some (17, true), true⟩, []),
  (⟨some (21, false), .load 22 (.tmp 20), 22, some (17, true), true⟩, []),
  (⟨some (22, false), .fieldAddr 76 (.tmp 3) 3, 0, some (17, true), true⟩, []),
  (⟨some (23, false), .load 38 (.tmp 22), 38, some (17, true), true⟩, []),
  (⟨some (25, false), .fieldAddr 25 (.tmp 2) 1, 0, some (17, true), true⟩, []),
  (⟨some (26, false), .load 9 (.tmp 25), 9, some (17, true), true⟩, []),
  (⟨some (24, false), .call { callee := .value (.func 84), args := #[.tmp 21, .tmp 23], argTypes := #[22, 38] }, 9, some (17, true), false⟩, [⟨some (25, false), .fieldAddr 25 (.tmp 2) 1, 0, some (17, true), true⟩, ⟨some (26, false), .load 9 (.tmp 25), 9, some (17, true), true⟩]),
  (⟨some (27, false), .binOp .eql 9 (.tmp 24) (.tmp 26) 9, 4, some (17, true), true⟩, []),
  (⟨some (28, false), .pick (.tmp 17) (.tmp 27) (.const (.bool false)), 4, none, true⟩, []),
  (⟨some (4, true), .assign (.tmp 28), 4, none, true⟩, [])]
theorem maps_wvalues_1_r1_go {K : Env → Heap → Prop} {τ ρ : Env} {h : Heap} : vcDraw Try.prog K maps_wvalues_1_r1 τ ρ h = vcDraw Try.prog K [
  (⟨some (5, false), .fieldAddr 76 (.tmp 3) 0, 0, none, true⟩, []),
  (⟨some (6, false), .load 5 (.tmp 5), 5, none, true⟩, []),
  (⟨some (7, false), .binOp .eql 5 (.tmp 6) (.const (.int .u8 7)) 5, 4, none, true⟩, []),
  (⟨some (8, false), .move (.tmp 7), 4, none, true⟩, []),
  (⟨some (9, false), .load 68 (.tmp 1), 68, some (8, true), true⟩, []),
  (⟨some (10, false), .nilCheck (.tmp 9), 0, some (8, true), true⟩, []),
  (⟨some (11, false), .fieldAddr 71 (.tmp 10) 1, 0, some (8, true), true⟩, []),
  (⟨some (12, false), .load 22 (.tmp 11), 22, some (8, true), true⟩, []),
  (⟨some (13, false), .fieldAddr 76 (.tmp 3) 3, 0, some (8, true), true⟩, []),
  (⟨some (14, false), .load 38 (.tmp 13), 38, some (8, true), true⟩, []),
  (⟨some (15, false), .call { callee := .value (.func 83), args := #[.tmp 12, .tmp 14, .const (.int .u8 1)], argTypes := #[22, 38, 5] }, 4, some (8, true), false⟩, []),
  (⟨some (16, false), .pick (.tmp 8) (.tmp 15) (.const (.bool false)), 4, none, true⟩, []),
  (⟨some (17, false), .move (.tmp 16), 4, none, true⟩, []),
  (⟨some (18, false), .load 68 (.tmp 1), 68, some (17, true), true⟩, []),
  (⟨some (19, false), .nilCheck (.tmp 18), 0, some (17, true), true⟩, []),
  (⟨some (20, false), .fieldAddr 71 (.tmp 19) 1, 0, some (17, true), true⟩, []),
  (⟨some (21, false), .load 22 (.tmp 20), 22, some (17, true), true⟩, []),
  (⟨some (22, false), .fieldAddr 76 (.tmp 3) 3, 0, some (17, true), true⟩, []),
  (⟨some (23, false), .load 38 (.tmp 22), 38, some (17, true), true⟩, []),
  (⟨some (25, false), .fieldAddr 25 (.tmp 2) 1, 0, some (17, true), true⟩, []),
  (⟨some (26, false), .load 9 (.tmp 25), 9, some (17, true), true⟩, []),
  (⟨some (24, false), .call { callee := .value (.func 84), args := #[.tmp 21, .tmp 23], argTypes := #[22, 38] }, 9, some (17, true), false⟩, [⟨some (25, false), .fieldAddr 25 (.tmp 2) 1, 0, some (17, true), true⟩, ⟨some (26, false), .load 9 (.tmp 25), 9, some (17, true), true⟩]),
  (⟨some (27, false), .binOp .eql 9 (.tmp 24) (.tmp 26) 9, 4, some (17, true), true⟩, []),
  (⟨some (28, false), .pick (.tmp 17) (.tmp 27) (.const (.bool false)), 4, none, true⟩, []),
  (⟨some (4, true), .assign (.tmp 28), 4, none, true⟩, [])] τ ρ h := _root_.id rfl
def maps_wvalues_1 : Cd := .seq (.region maps_wvalues_1_r0) (.seq (.draw maps_wvalues_1_r1) (.ret))
theorem maps_wvalues_1_go {Q : Ex → Env → Heap → Prop} {ρ : Env} {h : Heap} : Cd.vc Try.prog maps_wvalues_1 Q ρ h = Cd.vc Try.prog (.seq (.region maps_wvalues_1_r0) (.seq (.draw maps_wvalues_1_r1) (.ret))) Q ρ h := _root_.id rfl
theorem maps_wvalues_1_calls {args : List Value} {h : Heap} {R : Value → Heap → Prop} (hl : args.length = 3) (hv : Cd.vc Try.prog maps_wvalues_1 (retQ Try.prog [(4, none)] R) (initEnv args [0, 1, 2, 3, 4]) h) : HCalls Try.prog 88 args.toArray h R :=
  hcalls_of_vc (by kernel_rfl) Try.func88 (cd := maps_wvalues_1) (L := [0, 1, 2, 3, 4]) (by kernel_rfl) (by kernel_rfl) ⟨by rw [hl, Try.ntmps88]; decide, by rw [Try.ntmps88]; decide⟩ hv
def maps_wvalues_1_gos := And.intro @maps_wvalues_1_go (And.intro @maps_wvalues_1_r0_go (@maps_wvalues_1_r1_go))

/-! (*jvmcore/maps.writer).fail: function 89: slots [0, 1, 8] -/
def maps_wfail_r0 : List Sop := [
  ⟨some (4, false), .move (.tmp 0), 68, none, true⟩,
  ⟨some (5, false), .nilCheck (.tmp 4), 0, none, true⟩,
  ⟨some (6, false), .fieldAddr 71 (.tmp 5) 2, 0, none, true⟩,
  ⟨some (7, false), .load 27 (.tmp 6), 27, none, true⟩,
  ⟨some (8, true), .binOp .eql 27 (.tmp 7) (.const (.int .i64 0)) 27, 4, none, true⟩]
theorem maps_wfail_r0_go {K : Env → Heap → Prop} {τ ρ : Env} {h : Heap} : vcOps Try.prog K maps_wfail_r0 τ ρ h = vcOps Try.prog K [
  ⟨some (4, false), .move (.tmp 0), 68, none, true⟩,
  ⟨some (5, false), .nilCheck (.tmp 4), 0, none, true⟩,
  ⟨some (6, false), .fieldAddr 71 (.tmp 5) 2, 0, none, true⟩,
  ⟨some (7, false), .load 27 (.tmp 6), 27, none, true⟩,
  ⟨some (8, true), .binOp .eql 27 (.tmp 7) (.const (.int .i64 0)) 27, 4, none, true⟩] τ ρ h := _root_.id rfl
def maps_wfail_r1 : List Sop := [
  ⟨some (9, false), .move (.tmp 0), 68, none, true⟩,
  ⟨some (10, false), .move (.tmp 1), 27, none, true⟩,
  ⟨some (11, false), .nilCheck (.tmp 9), 0, none, true⟩,
  ⟨some (12, false), .fieldAddr 71 (.tmp 11) 2, 0, none, true⟩,
  ⟨none, .store 27 (.tmp 12) (.tmp 10), 0, none, false⟩]
theorem maps_wfail_r1_go {K : Env → Heap → Prop} {τ ρ : Env} {h : Heap} : vcOps Try.prog K maps_wfail_r1 τ ρ h = vcOps Try.prog K [
  ⟨some (9, false), .move (.tmp 0), 68, none, true⟩,
  ⟨some (10, false), .move (.tmp 1), 27, none, true⟩,
  ⟨some (11, false), .nilCheck (.tmp 9), 0, none, true⟩,
  ⟨some (12, false), .fieldAddr 71 (.tmp 11) 2, 0, none, true⟩,
  ⟨none, .store 27 (.tmp 12) (.tmp 10), 0, none, false⟩] τ ρ h := _root_.id rfl
def maps_wfail : Cd := .seq (.region maps_wfail_r0) (.cond (.tmp 8) (.region maps_wfail_r1) (.skip))
theorem maps_wfail_go {Q : Ex → Env → Heap → Prop} {ρ : Env} {h : Heap} : Cd.vc Try.prog maps_wfail Q ρ h = Cd.vc Try.prog (.seq (.region maps_wfail_r0) (.cond (.tmp 8) (.region maps_wfail_r1) (.skip))) Q ρ h := _root_.id rfl
theorem maps_wfail_calls {args : List Value} {h : Heap} {R : Value → Heap → Prop} (hl : args.length = 2) (hv : Cd.vc Try.prog maps_wfail (retQ Try.prog [] R) (initEnv args [0, 1, 8]) h) : HCalls Try.prog 89 args.toArray h R :=
  hcalls_of_vc (by kernel_rfl) Try.func89 (cd := maps_wfail) (L := [0, 1, 8]) (by kernel_rfl) (by kernel_rfl) ⟨by rw [hl, Try.ntmps89]; decide, by rw [Try.ntmps89]; decide⟩ hv
def maps_wfail_gos := And.intro @maps_wfail_go (And.intro @maps_wfail_r0_go (@maps_wfail_r1_go))

/-! slices.Equal[[]jvmcore/api.VType,jvmcore/api.VType]: function 71: slots [0, 1, 4, 5, 10, 12, 13, 14, 24] -/
def slices_Equal_r0 : List Sop := [
  ⟨some (4, true), .assign (.const (.bool false)), 4, none, true⟩]
theorem slices_Equal_r0_go {K : Env → Heap → Prop} {τ ρ : Env} {h : Heap} : vcOps Try.prog K slices_Equal_r0 τ ρ h = vcOps Try.prog K [
  ⟨some (4, true), .assign (.const (.bool false)), 4, none, true⟩] τ ρ h := _root_.id rfl
def slices_Equal_r1 : List Sop := [
  ⟨some (6, false), .move (.tmp 0), 23, none, true⟩,
  ⟨some (7, false), .call { callee := .builtin .len, args := #[.tmp 6], argTypes := #[23] }, 3, none, true⟩,
  ⟨some (8, false), .move (.tmp 1), 23, none, true⟩,
  ⟨some (9, false), .call { callee := .builtin .len, args := #[.tmp 8], argTypes := #[23] }, 3, none, true⟩,
  ⟨some (10, true), .binOp .neq 3 (.tmp 7) (.tmp 9) 3, 4, none, true⟩]
theorem slices_Equal_r1_go {K : Env → Heap → Prop} {τ ρ : Env} {h : Heap} : vcOps Try.prog K slices_Equal_r1 τ ρ h = vcOps Try.prog K [
  ⟨some (6, false), .move (.tmp 0), 23, none, true⟩,
  ⟨some (7, false), .call { callee := .builtin .len, args := #[.tmp 6], argTypes := #[23] }, 3, none, true⟩,
  ⟨some (8, false), .move (.tmp 1), 23, none, true⟩,
  ⟨some (9, false), .call { callee := .builtin .len, args := #[.tmp 8], argTypes := #[23] }, 3, none, true⟩,
  ⟨some (10, true), .binOp .neq 3 (.tmp 7) (.tmp 9) 3, 4, none, true⟩] τ ρ h := _root_.id rfl
def slices_Equal_r2 : List Sop := [
  ⟨some (4, true), .assign (.const (.bool false)), 4, none, true⟩]
theorem slices_Equal_r2_go {K : Env → Heap → Prop} {τ ρ : Env} {h : Heap} : vcOps Try.prog K slices_Equal_r2 τ ρ h = vcOps Try.prog K [
  ⟨some (4, true), .assign (.const (.bool false)), 4, none, true⟩] τ ρ h := _root_.id rfl
def slices_Equal_r3 : List Sop := [
  ⟨some (11, false), .move (.tmp 0), 23, none, true⟩,
  ⟨some (12, true), .call { callee := .builtin .len, args := #[.tmp 11], argTypes := #[23] }, 3, none, true⟩,
  ⟨some (13, true), .move (.const (.int .i64 0)), 3, none, true⟩]
theorem slices_Equal_r3_go {K : Env → Heap → Prop} {τ ρ : Env} {h : Heap} : vcOps Try.prog K slices_Equal_r3 τ ρ h = vcOps Try.prog K [
  ⟨some (11, false), .move (.tmp 0), 23, none, true⟩,
  ⟨some (12, true), .call { callee := .builtin .len, args := #[.tmp 11], argTypes := #[23] }, 3, none, true⟩,
  ⟨some (13, true), .move (.const (.int .i64 0)), 3, none, true⟩] τ ρ h := _root_.id rfl
def slices_Equal_r4 : List Sop := [
  ⟨some (14, true), .binOp .lss 3 (.tmp 13) (.tmp 12) 3, 0, none, true⟩]
theorem slices_Equal_r4_go {K : Env → Heap → Prop} {τ ρ : Env} {h : Heap} : vcOps Try.prog K slices_Equal_r4 τ ρ h = vcOps Try.prog K [
  ⟨some (14, true), .binOp .lss 3 (.tmp 13) (.tmp 12) 3, 0, none, true⟩] τ ρ h := _root_.id rfl
def slices_Equal_r5 : List Sop := [
  ⟨some (15, false), .move (.tmp 13), 3, none, true⟩,
  ⟨some (5, true), .assign (.tmp 15), 3, none, true⟩]
theorem slices_Equal_r5_go {K : Env → Heap → Prop} {τ ρ : Env} {h : Heap} : vcOps Try.prog K slices_Equal_r5 τ ρ h = vcOps Try.prog K [
  ⟨some (15, false), .move (.tmp 13), 3, none, true⟩,
  ⟨some (5, true), .assign (.tmp 15), 3, none, true⟩] τ ρ h := _root_.id rfl
def slices_Equal_r6 : List (Sop × List Sop) := [
  (⟨some (16, false), .move (.tmp 0), 23, none, true⟩, []),
  (⟨some (17, false), .move (.tmp 5), 3, none, true⟩, []),
  (⟨some (18, false), .indexAddr 23 (.tmp 16) (.tmp 17), 0, none, true⟩, []),
  (⟨some (19, false), .load 25 (.tmp 18), 25, none, true⟩, []),
  (⟨some (20, false), .move (.tmp 1), 23, none, true⟩, []),
  (⟨some (21, false), .move (.tmp 5), 3, none, true⟩, []),
  (⟨some (22, false), .indexAddr 23 (.tmp 20) (.tmp 21), 0, none, true⟩, []),
  (⟨some (23, false), .load 25 (.tmp 22), 25, none, true⟩, []),
  (⟨some (24, true), .binOp .neq 25 (.tmp 19) (.tmp 23) 25, 4, none, true⟩, [])]
theorem slices_Equal_r6_go {K : Env → Heap → Prop} {τ ρ : Env} {h : Heap} : vcDraw Try.prog K slices_Equal_r6 τ ρ h = vcDraw Try.prog K [
  (⟨some (16, false), .move (.tmp 0), 23, none, true⟩, []),
  (⟨some (17, false), .move (.tmp 5), 3, none, true⟩, []),
  (⟨some (18, false), .indexAddr 23 (.tmp 16) (.tmp 17), 0, none, true⟩, []),
  (⟨some (19, false), .load 25 (.tmp 18), 25, none, true⟩, []),
  (⟨some (20, false), .move (.tmp 1), 23, none, true⟩, []),
  (⟨some (21, false), .move (.tmp 5), 3, none, true⟩, []),
  (⟨some (22, false), .indexAddr 23 (.tmp 20) (.tmp 21), 0, none, true⟩, []),
  (⟨some (23, false), .load 25 (.tmp 22), 25, none, true⟩, []),
  (⟨some (24, true), .binOp .neq 25 (.tmp 19) (.tmp 23) 25, 4, none, true⟩, [])] τ ρ h := _root_.id rfl
def slices_Equal_r7 : List Sop := [
  ⟨some (4, true), .assign (.const (.bool false)), 4, none, true⟩]
theorem slices_Equal_r7_go {K : Env → Heap → Prop} {τ ρ : Env} {h : Heap} : vcOps Try.prog K slices_Equal_r7 τ ρ h = vcOps Try.prog K [
  ⟨some (4, true), .assign (.const (.bool false)), 4, none, true⟩] τ ρ h := _root_.id rfl
def slices_Equal_r8 : List Sop := [
  ⟨some (25, false), .binOp .add 3 (.tmp 13) (.const (.int .i64 1)) 3, 3, none, true⟩,
  ⟨some (13, true), .move (.tmp 25), 3, none, true⟩]
theorem slices_Equal_r8_go {K : Env → Heap → Prop} {τ ρ : Env} {h : Heap} : vcOps Try.prog K slices_Equal_r8 τ ρ h = vcOps Try.prog K [
  ⟨some (25, false), .binOp .add 3 (.tmp 13) (.const (.int .i64 1)) 3, 3, none, true⟩,
  ⟨some (13, true), .move (.tmp 25), 3, none, true⟩] τ ρ h := _root_.id rfl
def slices_Equal_r9 : List Sop := [
  ⟨some (4, true), .assign (.const (.bool true)), 4, none, true⟩]
theorem slices_Equal_r9_go {K : Env → Heap → Prop} {τ ρ : Env} {h : Heap} : vcOps Try.prog K slices_Equal_r9 τ ρ h = vcOps Try.prog K [
  ⟨some (4, true), .assign (.const (.bool true)), 4, none, true⟩] τ ρ h := _root_.id rfl
def slices_Equal_l0 : Cd := .seq (.region slices_Equal_r4) (.seq (.cond (.tmp 14) (.skip) (.exit 0)) (.seq (.block 1 (.seq (.region slices_Equal_r5) (.seq (.draw slices_Equal_r6) (.cond (.tmp 24) (.seq (.region slices_Equal_r7) (.ret)) (.skip))))) (.region slices_Equal_r8)))
theorem slices_Equal_l0_go {Q : Ex → Env → Heap → Prop} {ρ : Env} {h : Heap} : Cd.vc Try.prog slices_Equal_l0 Q ρ h = Cd.vc Try.prog (.seq (.region slices_Equal_r4) (.seq (.cond (.tmp 14) (.skip) (.exit 0)) (.seq (.block 1 (.seq (.region slices_Equal_r5) (.seq (.draw slices_Equal_r6) (.cond (.tmp 24) (.seq (.region slices_Equal_r7) (.ret)) (.skip))))) (.region slices_Equal_r8)))) Q ρ h := _root_.id rfl
def slices_Equal : Cd := .seq (.region slices_Equal_r0) (.seq (.seq (.region slices_Equal_r1) (.cond (.tmp 10) (.seq (.region slices_Equal_r2) (.ret)) (.skip))) (.seq (.seq (.region slices_Equal_r3) (.block 0 (.loop slices_Equal_l0))) (.seq (.region slices_Equal_r9) (.ret))))
theorem slices_Equal_go {Q : Ex → Env → Heap → Prop} {ρ : Env} {h : Heap} : Cd.vc Try.prog slices_Equal Q ρ h = Cd.vc Try.prog (.seq (.region slices_Equal_r0) (.seq (.seq (.region slices_Equal_r1) (.cond (.tmp 10) (.seq (.region slices_Equal_r2) (.ret)) (.skip))) (.seq (.seq (.region slices_Equal_r3) (.block 0 (.loop slices_Equal_l0))) (.seq (.region slices_Equal_r9) (.ret))))) Q ρ h := _root_.id rfl
theorem slices_Equal_calls {args : List Value} {h : Heap} {R : Value → Heap → Prop} (hl : args.length = 2) (hv : Cd.vc Try.prog slices_Equal (retQ Try.prog [(4, none)] R) (initEnv args [0, 1, 4, 5, 10, 12, 13, 14, 24]) h) : HCalls Try.prog 71 args.toArray h R :=
  hcalls_of_vc (by kernel_rfl) Try.func71 (cd := slices_Equal) (L := [0, 1, 4, 5, 10, 12, 13, 14, 24]) (by kernel_rfl) (by kernel_rfl) ⟨by rw [hl, Try.ntmps71]; decide, by rw [Try.ntmps71]; decide⟩ hv
def slices_Equal_gos := And.intro @slices_Equal_go (And.intro @slices_Equal_r0_go (And.intro @slices_Equal_r1_go (And.intro @slices_Equal_r2_go (And.intro @slices_Equal_r3_go (And.intro @slices_Equal_r4_go (And.intro @slices_Equal_r5_go (And.intro @slices_Equal_r6_go (And.intro @slices_Equal_r7_go (And.intro @slices_Equal_r8_go (And.intro @slices_Equal_r9_go (@slices_Equal_l0_go)))))))))))

/-! slices.IndexFunc[[]jvmcore/api.Const,jvmcore/api.Const]: function 87: slots [0, 1, 4, 5, 7, 8, 9, 16] -/
def slices_IndexFunc_r0 : List Sop := [
  ⟨some (4, true), .assign (.const (.int .i64 0)), 3, none, true⟩]
theorem slices_IndexFunc_r0_go {K : Env → Heap → Prop} {τ ρ : Env} {h : Heap} : vcOps Try.prog K slices_IndexFunc_r0 τ ρ h = vcOps Try.prog K [
  ⟨some (4, true), .assign (.const (.int .i64 0)), 3, none, true⟩] τ ρ h := _root_.id rfl
def slices_IndexFunc_r1 : List Sop := [
  ⟨some (6, false), .move (.tmp 0), 22, none, true⟩,
  ⟨some (7, true), .call { callee := .builtin .len, args := #[.tmp 6], argTypes := #[22] }, 3, none, true⟩,
  ⟨some (8, true), .move (.const (.int .i64 0)), 3, none, true⟩]
theorem slices_IndexFunc_r1_go {K : Env → Heap → Prop} {τ ρ : Env} {h : Heap} : vcOps Try.prog K slices_IndexFunc_r1 τ ρ h = vcOps Try.prog K [
  ⟨some (6, false), .move (.tmp 0), 22, none, true⟩,
  ⟨some (7, true), .call { callee := .builtin .len, args := #[.tmp 6], argTypes := #[22] }, 3, none, true⟩,
  ⟨some (8, true), .move (.const (.int .i64 0)), 3, none, true⟩] τ ρ h := _root_.id rfl
def slices_IndexFunc_r2 : List Sop := [
  ⟨some (9, true), .binOp .lss 3 (.tmp 8) (.tmp 7) 3, 0, none, true⟩]
theorem slices_IndexFunc_r2_go {K : Env → Heap → Prop} {τ ρ : Env} {h : Heap} : vcOps Try.prog K slices_IndexFunc_r2 τ ρ h = vcOps Try.prog K [
  ⟨some (9, true), .binOp .lss 3 (.tmp 8) (.tmp 7) 3, 0, none, true⟩] τ ρ h := _root_.id rfl
def slices_IndexFunc_r3 : List Sop := [
  ⟨some (10, false), .move (.tmp 8), 3, none, true⟩,
  ⟨some (5, true), .assign (.tmp 10), 3, none, true⟩]
theorem slices_IndexFunc_r3_go {K : Env → Heap → Prop} {τ ρ : Env} {h : Heap} : vcOps Try.prog K slices_IndexFunc_r3 τ ρ h = vcOps Try.prog K [
  ⟨some (10, false), .move (.tmp 8), 3, none, true⟩,
  ⟨some (5, true), .assign (.tmp 10), 3, none, true⟩] τ ρ h := _root_.id rfl
def slices_IndexFunc_r4 : List Sop := [
  ⟨some (11, false), .move (.tmp 1), 144, none, true⟩,
  ⟨some (12, false), .move (.tmp 0), 22, none, true⟩,
  ⟨some (13, false), .move (.tmp 5), 3, none, true⟩,
  ⟨some (14, false), .indexAddr 22 (.tmp 12) (.tmp 13), 0, none, true⟩,
  ⟨some (15, false), .load 76 (.tmp 14), 76, none, true⟩,
  ⟨some (16, true), .call { callee := .value (.tmp 11), args := #[.tmp 15], argTypes := #[76] }, 4, none, false⟩]
theorem slices_IndexFunc_r4_go {K : Env → Heap → Prop} {τ ρ : Env} {h : Heap} : vcOps Try.prog K slices_IndexFunc_r4 τ ρ h = vcOps Try.prog K [
  ⟨some (11, false), .move (.tmp 1), 144, none, true⟩,
  ⟨some (12, false), .move (.tmp 0), 22, none, true⟩,
  ⟨some (13, false), .move (.tmp 5), 3, none, true⟩,
  ⟨some (14, false), .indexAddr 22 (.tmp 12) (.tmp 13), 0, none, true⟩,
  ⟨some (15, false), .load 76 (.tmp 14), 76, none, true⟩,
  ⟨some (16, true), .call { callee := .value (.tmp 11), args := #[.tmp 15], argTypes := #[76] }, 4, none, false⟩] τ ρ h := _root_.id rfl
def slices_IndexFunc_r5 : List Sop := [
  ⟨some (17, false), .move (.tmp 5), 3, none, true⟩,
  ⟨some (4, true), .assign (.tmp 17), 3, none, true⟩]
theorem slices_IndexFunc_r5_go {K : Env → Heap → Prop} {τ ρ : Env} {h : Heap} : vcOps Try.prog K slices_IndexFunc_r5 τ ρ h = vcOps Try.prog K [
  ⟨some (17, false), .move (.tmp 5), 3, none, true⟩,
  ⟨some (4, true), .assign (.tmp 17), 3, none, true⟩] τ ρ h := _root_.id rfl
def slices_IndexFunc_r6 : List Sop := [
  ⟨some (18, false), .binOp .add 3 (.tmp 8) (.const (.int .i64 1)) 3, 3, none, true⟩,
  ⟨some (8, true), .move (.tmp 18), 3, none, true⟩]
theorem slices_IndexFunc_r6_go {K : Env → Heap → Prop} {τ ρ : Env} {h : Heap} : vcOps Try.prog K slices_IndexFunc_r6 τ ρ h = vcOps Try.prog K [
  ⟨some (18, false), .binOp .add 3 (.tmp 8) (.const (.int .i64 1)) 3, 3, none, true⟩,
  ⟨some (8, true), .move (.tmp 18), 3, none, true⟩] τ ρ h := _root_.id rfl
def slices_IndexFunc_r7 : List Sop := [
  ⟨some (4, true), .assign (.const (.int .i64 (-1))), 3, none, true⟩]
theorem slices_IndexFunc_r7_go {K : Env → Heap → Prop} {τ ρ : Env} {h : Heap} : vcOps Try.prog K slices_IndexFunc_r7 τ ρ h = vcOps Try.prog K [
  ⟨some (4, true), .assign (.const (.int .i64 (-1))), 3, none, true⟩] τ ρ h := _root_.id rfl
def slices_IndexFunc_l0 : Cd := .seq (.region slices_IndexFunc_r2) (.seq (.cond (.tmp 9) (.skip) (.exit 0)) (.seq (.block 1 (.seq (.region slices_IndexFunc_r3) (.seq (.region slices_IndexFunc_r4) (.cond (.tmp 16) (.seq (.region slices_IndexFunc_r5) (.ret)) (.skip))))) (.region slices_IndexFunc_r6)))
theorem slices_IndexFunc_l0_go {Q : Ex → Env → Heap → Prop} {ρ : Env} {h : Heap} : Cd.vc Try.prog slices_IndexFunc_l0 Q ρ h = Cd.vc Try.prog (.seq (.region slices_IndexFunc_r2) (.seq (.cond (.tmp 9) (.skip) (.exit 0)) (.seq (.block 1 (.seq (.region slices_IndexFunc_r3) (.seq (.region slices_IndexFunc_r4) (.cond (.tmp 16) (.seq (.region slices_IndexFunc_r5) (.ret)) (.skip))))) (.region slices_IndexFunc_r6)))) Q ρ h := _root_.id rfl
def slices_IndexFunc : Cd := .seq (.region slices_IndexFunc_r0) (.seq (.seq (.region slices_IndexFunc_r1) (.block 0 (.loop slices_IndexFunc_l0))) (.seq (.region slices_IndexFunc_r7) (.ret)))
theorem slices_IndexFunc_go {Q : Ex → Env → Heap → Prop} {ρ : Env} {h : Heap} : Cd.vc Try.prog slices_IndexFunc Q ρ h = Cd.vc Try.prog (.seq (.region slices_IndexFunc_r0) (.seq (.seq (.region slices_IndexFunc_r1) (.block 0 (.loop slices_IndexFunc_l0))) (.seq (.region slices_IndexFunc_r7) (.ret)))) Q ρ h := _root_.id rfl
theorem slices_IndexFunc_calls {args : List Value} {h : Heap} {R : Value → Heap → Prop} (hl : args.length = 2) (hv : Cd.vc Try.prog slices_IndexFunc (retQ Try.prog [(4, none)] R) (initEnv args [0, 1, 4, 5, 7, 8, 9, 16]) h) : HCalls Try.prog 87 args.toArray h R :=
  hcalls_of_vc (by kernel_rfl) Try.func87 (cd := slices_IndexFunc) (L := [0, 1, 4, 5, 7, 8, 9, 16]) (by kernel_rfl) (by kernel_rfl) ⟨by rw [hl, Try.ntmps87]; decide, by rw [Try.ntmps87]; decide⟩ hv
def slices_IndexFunc_gos := And.intro @slices_IndexFunc_go (And.intro @slices_IndexFunc_r0_go (And.intro @slices_IndexFunc_r1_go (And.intro @slices_IndexFunc_r2_go (And.intro @slices_IndexFunc_r3_go (And.intro @slices_IndexFunc_r4_go (And.intro @slices_IndexFunc_r5_go (And.intro @slices_IndexFunc_r6_go (And.intro @slices_IndexFunc_r7_go (@slices_IndexFunc_l0_go)))))))))

end Go.Proofs.Ytohkbpnblkkdgaa.C
