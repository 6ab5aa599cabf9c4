/- The stripped code of some functions of this seat's program, printed by a program; that it is that code is proved by the kernel. No condition. -/

import Derived.Test.YtohkbpnblkkdgaaProg

import Derived.Test.YtohkbpnblkkdgaaVcH

set_option maxRecDepth 100000

set_option linter.defProp false

namespace Go.Proofs.Ytohkbpnblkkdgaa.C

open Go.Vc

/-! jvmcore/jvmcoreref1.Write: function 46: slots [0, 2, 3, 4, 5, 6, 7, 8, 9, 10, 12, 13, 21, 26, 27, 28, 29, 62, 74, 77, 83, 90, 99, 104, 114, 119, 124, 151] -/
def ref1_Write_r0 : List Sop := [
  ⟨some (2, true), .assign (.const (.string { data := #[] })), 9, none, true⟩,
  ⟨some (3, true), .assign (.const (.int .i64 0)), 27, none, true⟩,
  ⟨some (4, true), .assign (.const (.int .i64 0)), 3, none, true⟩]
theorem ref1_Write_r0_go {K : Env → Heap → Prop} {τ ρ : Env} {h : Heap} : vcOps Try.prog K ref1_Write_r0 τ ρ h = vcOps Try.prog K [
  ⟨some (2, true), .assign (.const (.string { data := #[] })), 9, none, true⟩,
  ⟨some (3, true), .assign (.const (.int .i64 0)), 27, none, true⟩,
  ⟨some (4, true), .assign (.const (.int .i64 0)), 3, none, true⟩] τ ρ h := _root_.id rfl
def ref1_Write_r1 : List Sop := [
  ⟨some (14, false), .move (.tmp 0), 22, none, true⟩,
  ⟨some (15, false), .call { callee := .builtin .len, args := #[.tmp 14], argTypes := #[22] }, 3, none, true⟩,
  ⟨some (16, false), .binOp .lss 3 (.tmp 15) (.const (.int .i64 1)) 3, 4, none, true⟩,
  ⟨some (17, false), .move (.tmp 16), 4, none, true⟩,
  ⟨some (18, false), .move (.tmp 0), 22, some (17, false), true⟩,
  ⟨some (19, false), .call { callee := .builtin .len, args := #[.tmp 18], argTypes := #[22] }, 3, some (17, false), true⟩,
  ⟨some (20, false), .binOp .gtr 3 (.tmp 19) (.const (.int .i64 65535)) 3, 4, some (17, false), true⟩,
  ⟨some (21, true), .pick (.tmp 17) (.const (.bool true)) (.tmp 20), 4, none, true⟩]
theorem ref1_Write_r1_go {K : Env → Heap → Prop} {τ ρ : Env} {h : Heap} : vcOps Try.prog K ref1_Write_r1 τ ρ h = vcOps Try.prog K [
  ⟨some (14, false), .move (.tmp 0), 22, none, true⟩,
  ⟨some (15, false), .call { callee := .builtin .len, args := #[.tmp 14], argTypes := #[22] }, 3, none, true⟩,
  ⟨some (16, false), .binOp .lss 3 (.tmp 15) (.const (.int .i64 1)) 3, 4, none, true⟩,
  ⟨some (17, false), .move (.tmp 16), 4, none, true⟩,
  ⟨some (18, false), .move (.tmp 0), 22, some (17, false), true⟩,
  ⟨some (19, false), .call { callee := .builtin .len, args := #[.tmp 18], argTypes := #[22] }, 3, some (17, false), true⟩,
  ⟨some (20, false), .binOp .gtr 3 (.tmp 19) (.const (.int .i64 65535)) 3, 4, some (17, false), true⟩,
  ⟨some (21, true), .pick (.tmp 17) (.const (.bool true)) (.tmp 20), 4, none, true⟩] τ ρ h := _root_.id rfl
def ref1_Write_r2 : List Sop := [
  ⟨some (2, true), .assign (.const (.string { data := #[] })), 9, none, true⟩,
  ⟨some (3, true), .assign (.const (.int .i64 12)), 27, none, true⟩,
  ⟨some (4, true), .assign (.const (.int .i64 0)), 3, none, true⟩]
theorem ref1_Write_r2_go {K : Env → Heap → Prop} {τ ρ : Env} {h : Heap} : vcOps Try.prog K ref1_Write_r2 τ ρ h = vcOps Try.prog K [
  ⟨some (2, true), .assign (.const (.string { data := #[] })), 9, none, true⟩,
  ⟨some (3, true), .assign (.const (.int .i64 12)), 27, none, true⟩,
  ⟨some (4, true), .assign (.const (.int .i64 0)), 3, none, true⟩] τ ρ h := _root_.id rfl
def ref1_Write_r3 : List Sop := [
  ⟨some (22, false), .move (.tmp 0), 22, none, true⟩,
  ⟨some (23, false), .call { callee := .builtin .len, args := #[.tmp 22], argTypes := #[22] }, 3, none, true⟩,
  ⟨some (24, false), .convert 3 74 (.tmp 23), 74, none, true⟩,
  ⟨some (25, false), .call { callee := .value (.func 75), args := #[.tmp 24, .const (.int .i64 2)], argTypes := #[74, 3] }, 9, none, false⟩,
  ⟨some (5, true), .assign (.tmp 25), 9, none, true⟩]
theorem ref1_Write_r3_go {K : Env → Heap → Prop} {τ ρ : Env} {h : Heap} : vcOps Try.prog K ref1_Write_r3 τ ρ h = vcOps Try.prog K [
  ⟨some (22, false), .move (.tmp 0), 22, none, true⟩,
  ⟨some (23, false), .call { callee := .builtin .len, args := #[.tmp 22], argTypes := #[22] }, 3, none, true⟩,
  ⟨some (24, false), .convert 3 74 (.tmp 23), 74, none, true⟩,
  ⟨some (25, false), .call { callee := .value (.func 75), args := #[.tmp 24, .const (.int .i64 2)], argTypes := #[74, 3] }, 9, none, false⟩,
  ⟨some (5, true), .assign (.tmp 25), 9, none, true⟩] τ ρ h := _root_.id rfl
def ref1_Write_r4 : List Sop := [
  ⟨some (26, true), .move (.tmp 0), 22, none, true⟩,
  ⟨some (27, true), .call { callee := .builtin .len, args := #[.tmp 26], argTypes := #[22] }, 3, none, true⟩,
  ⟨some (28, true), .move (.const (.int .i64 0)), 3, none, true⟩]
theorem ref1_Write_r4_go {K : Env → Heap → Prop} {τ ρ : Env} {h : Heap} : vcOps Try.prog K ref1_Write_r4 τ ρ h = vcOps Try.prog K [
  ⟨some (26, true), .move (.tmp 0), 22, none, true⟩,
  ⟨some (27, true), .call { callee := .builtin .len, args := #[.tmp 26], argTypes := #[22] }, 3, none, true⟩,
  ⟨some (28, true), .move (.const (.int .i64 0)), 3, none, true⟩] τ ρ h := _root_.id rfl
def ref1_Write_r5 : List Sop := [
  ⟨some (29, true), .binOp .lss 3 (.tmp 28) (.tmp 27) 3, 0, none, true⟩]
theorem ref1_Write_r5_go {K : Env → Heap → Prop} {τ ρ : Env} {h : Heap} : vcOps Try.prog K ref1_Write_r5 τ ρ h = vcOps Try.prog K [
  ⟨some (29, true), .binOp .lss 3 (.tmp 28) (.tmp 27) 3, 0, none, true⟩] τ ρ h := _root_.id rfl
def ref1_Write_r6 : List Sop := [
  ⟨some (30, false), .move (.tmp 28), 3, none, true⟩,
  ⟨some (31, false), .indexAddr 22 (.tmp 26) (.tmp 28), 0, none, true⟩,
  ⟨some (32, false), .load 76 (.tmp 31), 76, none, true⟩,
  ⟨some (7, true), .alloc 76, 0, none, false⟩,
  ⟨some (6, true), .assign (.tmp 30), 3, none, true⟩,
  ⟨none, .store 76 (.tmp 7) (.tmp 32), 0, none, false⟩]
theorem ref1_Write_r6_go {K : Env → Heap → Prop} {τ ρ : Env} {h : Heap} : vcOps Try.prog K ref1_Write_r6 τ ρ h = vcOps Try.prog K [
  ⟨some (30, false), .move (.tmp 28), 3, none, true⟩,
  ⟨some (31, false), .indexAddr 22 (.tmp 26) (.tmp 28), 0, none, true⟩,
  ⟨some (32, false), .load 76 (.tmp 31), 76, none, true⟩,
  ⟨some (7, true), .alloc 76, 0, none, false⟩,
  ⟨some (6, true), .assign (.tmp 30), 3, none, true⟩,
  ⟨none, .store 76 (.tmp 7) (.tmp 32), 0, none, false⟩] τ ρ h := _root_.id rfl
def ref1_Write_r7 : List Sop := [
  ⟨some (33, false), .move (.tmp 6), 3, none, true⟩,
  ⟨some (34, false), .binOp .gtr 3 (.tmp 33) (.const (.int .i64 0)) 3, 4, none, true⟩,
  ⟨some (35, false), .move (.tmp 34), 4, none, true⟩,
  ⟨some (36, false), .move (.tmp 0), 22, some (35, true), true⟩,
  ⟨some (37, false), .move (.tmp 6), 3, some (35, true), true⟩,
  ⟨some (38, false), .binOp .sub 3 (.tmp 37) (.const (.int .i64 1)) 3, 3, some (35, true), true⟩,
  ⟨some (39, false), .indexAddr 22 (.tmp 36) (.tmp 38), 0, some (35, true), true⟩,
  ⟨some (40, false), .fieldAddr 76 (.tmp 39) 0, 0, some (35, true), true⟩,
  ⟨some (41, false), .load 5 (.tmp 40), 5, some (35, true), true⟩,
  ⟨some (42, false), .binOp .eql 5 (.tmp 41) (.const (.int .u8 5)) 5, 4, some (35, true), true⟩,
  ⟨some (43, false), .move (.tmp 42), 4, some (35, true), true⟩,
  ⟨some (44, false), .move (.tmp 0), 22, some (43, false), true⟩,
  ⟨some (45, false), .move (.tmp 6), 3, some (43, false), true⟩,
  ⟨some (46, false), .binOp .sub 3 (.tmp 45) (.const (.int .i64 1)) 3, 3, some (43, false), true⟩,
  ⟨some (47, false), .indexAddr 22 (.tmp 44) (.tmp 46), 0, some (43, false), true⟩,
  ⟨some (48, false), .fieldAddr 76 (.tmp 47) 0, 0, some (43, false), true⟩,
  ⟨some (49, false), .load 5 (.tmp 48), 5, some (43, false), true⟩,
  ⟨some (50, false), .binOp .eql 5 (.tmp 49) (.const (.int .u8 6)) 5, 4, some (43, false), true⟩,
  ⟨some (51, false), .pick (.tmp 43) (.const (.bool true)) (.tmp 50), 4, some (35, true), true⟩,
  ⟨some (52, false), .pick (.tmp 35) (.tmp 51) (.const (.bool false)), 4, none, true⟩,
  ⟨some (8, true), .assign (.tmp 52), 4, none, true⟩]
theorem ref1_Write_r7_go {K : Env → Heap → Prop} {τ ρ : Env} {h : Heap} : vcOps Try.prog K ref1_Write_r7 τ ρ h = vcOps Try.prog K [
  ⟨some (33, false), .move (.tmp 6), 3, none, true⟩,
  ⟨some (34, false), .binOp .gtr 3 (.tmp 33) (.const (.int .i64 0)) 3, 4, none, true⟩,
  ⟨some (35, false), .move (.tmp 34), 4, none, true⟩,
  ⟨some (36, false), .move (.tmp 0), 22, some (35, true), true⟩,
  ⟨some (37, false), .move (.tmp 6), 3, some (35, true), true⟩,
  ⟨some (38, false), .binOp .sub 3 (.tmp 37) (.const (.int .i64 1)) 3, 3, some (35, true), true⟩,
  ⟨some (39, false), .indexAddr 22 (.tmp 36) (.tmp 38), 0, some (35, true), true⟩,
  ⟨some (40, false), .fieldAddr 76 (.tmp 39) 0, 0, some (35, true), true⟩,
  ⟨some (41, false), .load 5 (.tmp 40), 5, some (35, true), true⟩,
  ⟨some (42, false), .binOp .eql 5 (.tmp 41) (.const (.int .u8 5)) 5, 4, some (35, true), true⟩,
  ⟨some (43, false), .move (.tmp 42), 4, some (35, true), true⟩,
  ⟨some (44, false), .move (.tmp 0), 22, some (43, false), true⟩,
  ⟨some (45, false), .move (.tmp 6), 3, some (43, false), true⟩,
  ⟨some (46, false), .binOp .sub 3 (.tmp 45) (.const (.int .i64 1)) 3, 3, some (43, false), true⟩,
  ⟨some (47, false), .indexAddr 22 (.tmp 44) (.tmp 46), 0, some (43, false), true⟩,
  ⟨some (48, false), .fieldAddr 76 (.tmp 47) 0, 0, some (43, false), true⟩,
  ⟨some (49, false), .load 5 (.tmp 48), 5, some (43, false), true⟩,
  ⟨some (50, false), .binOp .eql 5 (.tmp 49) (.const (.int .u8 6)) 5, 4, some (43, false), true⟩,
  ⟨some (51, false), .pick (.tmp 43) (.const (.bool true)) (.tmp 50), 4, some (35, true), true⟩,
  ⟨some (52, false), .pick (.tmp 35) (.tmp 51) (.const (.bool false)), 4, none, true⟩,
  ⟨some (8, true), .assign (.tmp 52), 4, none, true⟩] τ ρ h := _root_.id rfl
def ref1_Write_r8 : List Sop := [
  ⟨some (53, false), .fieldAddr 76 (.tmp 7) 0, 0, none, true⟩,
  ⟨some (54, false), .load 5 (.tmp 53), 5, none, true⟩,
  ⟨some (55, false), .binOp .eql 5 (.tmp 54) (.const (.int .u8 0)) 5, 4, none, true⟩,
  ⟨some (56, false), .move (.tmp 55), 4, none, true⟩,
  ⟨some (57, false), .move (.tmp 6), 3, some (56, true), true⟩,
  ⟨some (58, false), .binOp .eql 3 (.tmp 57) (.const (.int .i64 0)) 3, 4, some (56, true), true⟩,
  ⟨some (59, false), .move (.tmp 58), 4, some (56, true), true⟩,
  ⟨some (60, false), .move (.tmp 8), 4, some (59, false), true⟩,
  ⟨some (61, false), .pick (.tmp 59) (.const (.bool true)) (.tmp 60), 4, some (56, true), true⟩,
  ⟨some (62, true), .pick (.tmp 56) (.tmp 61) (.const (.bool false)), 4, none, true⟩]
theorem ref1_Write_r8_go {K : Env → Heap → Prop} {τ ρ : Env} {h : Heap} : vcOps Try.prog K ref1_Write_r8 τ ρ h = vcOps Try.prog K [
  ⟨some (53, false), .fieldAddr 76 (.tmp 7) 0, 0, none, true⟩,
  ⟨some (54, false), .load 5 (.tmp 53), 5, none, true⟩,
  ⟨some (55, false), .binOp .eql 5 (.tmp 54) (.const (.int .u8 0)) 5, 4, none, true⟩,
  ⟨some (56, false), .move (.tmp 55), 4, none, true⟩,
  ⟨some (57, false), .move (.tmp 6), 3, some (56, true), true⟩,
  ⟨some (58, false), .binOp .eql 3 (.tmp 57) (.const (.int .i64 0)) 3, 4, some (56, true), true⟩,
  ⟨some (59, false), .move (.tmp 58), 4, some (56, true), true⟩,
  ⟨some (60, false), .move (.tmp 8), 4, some (59, false), true⟩,
  ⟨some (61, false), .pick (.tmp 59) (.const (.bool true)) (.tmp 60), 4, some (56, true), true⟩,
  ⟨some (62, true), .pick (.tmp 56) (.tmp 61) (.const (.bool false)), 4, none, true⟩] τ ρ h := _root_.id rfl
def ref1_Write_r9 : List Sop := [
  ⟨some (63, false), .fieldAddr 76 (.tmp 7) 0, 0, none, true⟩,
  ⟨some (64, false), .load 5 (.tmp 63), 5, none, true⟩,
  ⟨some (65, false), .call { callee := .value (.func 76), args := #[.tmp 64], argTypes := #[5] }, 3, none, false⟩,
  ⟨some (9, true), .assign (.tmp 65), 3, none, true⟩]
theorem ref1_Write_r9_go {K : Env → Heap → Prop} {τ ρ : Env} {h : Heap} : vcOps Try.prog K ref1_Write_r9 τ ρ h = vcOps Try.prog K [
  ⟨some (63, false), .fieldAddr 76 (.tmp 7) 0, 0, none, true⟩,
  ⟨some (64, false), .load 5 (.tmp 63), 5, none, true⟩,
  ⟨some (65, false), .call { callee := .value (.func 76), args := #[.tmp 64], argTypes := #[5] }, 3, none, false⟩,
  ⟨some (9, true), .assign (.tmp 65), 3, none, true⟩] τ ρ h := _root_.id rfl
def ref1_Write_r10 : List Sop := [
  ⟨some (66, false), .move (.tmp 6), 3, none, true⟩,
  ⟨some (67, false), .binOp .eql 3 (.tmp 66) (.const (.int .i64 0)) 3, 4, none, true⟩,
  ⟨some (68, false), .move (.tmp 67), 4, none, true⟩,
  ⟨some (69, false), .move (.tmp 8), 4, some (68, false), true⟩,
  ⟨some (70, false), .pick (.tmp 68) (.const (.bool true)) (.tmp 69), 4, none, true⟩,
  ⟨some (71, false), .move (.tmp 70), 4, none, true⟩,
  ⟨some (72, false), .move (.tmp 9), 3, some (71, false), true⟩,
  ⟨some (73, false), .binOp .lss 3 (.tmp 72) (.const (.int .i64 0)) 3, 4, some (71, false), true⟩,
  ⟨some (74, true), .pick (.tmp 71) (.const (.bool true)) (.tmp 73), 4, none, true⟩]
theorem ref1_Write_r10_go {K : Env → Heap → Prop} {τ ρ : Env} {h : Heap} : vcOps Try.prog K ref1_Write_r10 τ ρ h = vcOps Try.prog K [
  ⟨some (66, false), .move (.tmp 6), 3, none, true⟩,
  ⟨some (67, false), .binOp .eql 3 (.tmp 66) (.const (.int .i64 0)) 3, 4, none, true⟩,
  ⟨some (68, false), .move (.tmp 67), 4, none, true⟩,
  ⟨some (69, false), .move (.tmp 8), 4, some (68, false), true⟩,
  ⟨some (70, false), .pick (.tmp 68) (.const (.bool true)) (.tmp 69), 4, none, true⟩,
  ⟨some (71, false), .move (.tmp 70), 4, none, true⟩,
  ⟨some (72, false), .move (.tmp 9), 3, some (71, false), true⟩,
  ⟨some (73, false), .binOp .lss 3 (.tmp 72) (.const (.int .i64 0)) 3, 4, some (71, false), true⟩,
  ⟨some (74, true), .pick (.tmp 71) (.const (.bool true)) (.tmp 73), 4, none, true⟩] τ ρ h := _root_.id rfl
def ref1_Write_r11 : List Sop := [
  ⟨some (75, false), .move (.tmp 6), 3, none, true⟩,
  ⟨some (2, true), .assign (.const (.string { data := #[] })), 9, none, true⟩,
  ⟨some (3, true), .assign (.const (.int .i64 5)), 27, none, true⟩,
  ⟨some (4, true), .assign (.tmp 75), 3, none, true⟩]
theorem ref1_Write_r11_go {K : Env → Heap → Prop} {τ ρ : Env} {h : Heap} : vcOps Try.prog K ref1_Write_r11 τ ρ h = vcOps Try.prog K [
  ⟨some (75, false), .move (.tmp 6), 3, none, true⟩,
  ⟨some (2, true), .assign (.const (.string { data := #[] })), 9, none, true⟩,
  ⟨some (3, true), .assign (.const (.int .i64 5)), 27, none, true⟩,
  ⟨some (4, true), .assign (.tmp 75), 3, none, true⟩] τ ρ h := _root_.id rfl
def ref1_Write_r12 : List Sop := [
  ⟨some (10, true), .assign (.const (.string { data := #[] })), 9, none, true⟩]
theorem ref1_Write_r12_go {K : Env → Heap → Prop} {τ ρ : Env} {h : Heap} : vcOps Try.prog K ref1_Write_r12 τ ρ h = vcOps Try.prog K [
  ⟨some (10, true), .assign (.const (.string { data := #[] })), 9, none, true⟩] τ ρ h := _root_.id rfl
def ref1_Write_r13 : List Sop := [
  ⟨some (76, false), .fieldAddr 76 (.tmp 7) 0, 0, none, true⟩,
  ⟨some (77, true), .load 5 (.tmp 76), 5, none, true⟩]
theorem ref1_Write_r13_go {K : Env → Heap → Prop} {τ ρ : Env} {h : Heap} : vcOps Try.prog K ref1_Write_r13 τ ρ h = vcOps Try.prog K [
  ⟨some (76, false), .fieldAddr 76 (.tmp 7) 0, 0, none, true⟩,
  ⟨some (77, true), .load 5 (.tmp 76), 5, none, true⟩] τ ρ h := _root_.id rfl
def ref1_Write_r14 : List Sop := [
  ⟨some (91, false), .binOp .eql 5 (.tmp 77) (.const (.int .u8 1)) 5, 4, none, true⟩,
  ⟨some (90, true), .assign (.tmp 91), 4, none, true⟩]
theorem ref1_Write_r14_go {K : Env → Heap → Prop} {τ ρ : Env} {h : Heap} : vcOps Try.prog K ref1_Write_r14 τ ρ h = vcOps Try.prog K [
  ⟨some (91, false), .binOp .eql 5 (.tmp 77) (.const (.int .u8 1)) 5, 4, none, true⟩,
  ⟨some (90, true), .assign (.tmp 91), 4, none, true⟩] τ ρ h := _root_.id rfl
def ref1_Write_r15 : List Sop := [
  ⟨some (93, false), .fieldAddr 76 (.tmp 7) 1, 0, none, true⟩,
  ⟨some (94, false), .load 9 (.tmp 93), 9, none, true⟩,
  ⟨some (95, false), .call { callee := .value (.func 77), args := #[.tmp 94], argTypes := #[9] }, 135, none, false⟩,
  ⟨some (92, false), .move (.tmp 95), 135, none, true⟩,
  ⟨some (96, false), .extract (.tmp 92) 0, 134, none, true⟩,
  ⟨some (97, false), .extract (.tmp 92) 1, 4, none, true⟩,
  ⟨some (11, false), .assign (.tmp 96), 134, none, true⟩,
  ⟨some (12, true), .assign (.tmp 97), 4, none, true⟩]
theorem ref1_Write_r15_go {K : Env → Heap → Prop} {τ ρ : Env} {h : Heap} : vcOps Try.prog K ref1_Write_r15 τ ρ h = vcOps Try.prog K [
  ⟨some (93, false), .fieldAddr 76 (.tmp 7) 1, 0, none, true⟩,
  ⟨some (94, false), .load 9 (.tmp 93), 9, none, true⟩,
  ⟨some (95, false), .call { callee := .value (.func 77), args := #[.tmp 94], argTypes := #[9] }, 135, none, false⟩,
  ⟨some (92, false), .move (.tmp 95), 135, none, true⟩,
  ⟨some (96, false), .extract (.tmp 92) 0, 134, none, true⟩,
  ⟨some (97, false), .extract (.tmp 92) 1, 4, none, true⟩,
  ⟨some (11, false), .assign (.tmp 96), 134, none, true⟩,
  ⟨some (12, true), .assign (.tmp 97), 4, none, true⟩] τ ρ h := _root_.id rfl
def ref1_Write_r16 : List Sop := [
  ⟨some (98, false), .move (.tmp 12), 4, none, true⟩,
  ⟨some (99, true), .unOp .not 4 (.tmp 98), 4, none, true⟩]
theorem ref1_Write_r16_go {K : Env → Heap → Prop} {τ ρ : Env} {h : Heap} : vcOps Try.prog K ref1_Write_r16 τ ρ h = vcOps Try.prog K [
  ⟨some (98, false), .move (.tmp 12), 4, none, true⟩,
  ⟨some (99, true), .unOp .not 4 (.tmp 98), 4, none, true⟩] τ ρ h := _root_.id rfl
def ref1_Write_r17 : List Sop := [
  ⟨some (100, false), .move (.tmp 6), 3, none, true⟩,
  ⟨some (2, true), .assign (.const (.string { data := #[] })), 9, none, true⟩,
  ⟨some (3, true), .assign (.const (.int .i64 6)), 27, none, true⟩,
  ⟨some (4, true), .assign (.tmp 100), 3, none, true⟩]
theorem ref1_Write_r17_go {K : Env → Heap → Prop} {τ ρ : Env} {h : Heap} : vcOps Try.prog K ref1_Write_r17 τ ρ h = vcOps Try.prog K [
  ⟨some (100, false), .move (.tmp 6), 3, none, true⟩,
  ⟨some (2, true), .assign (.const (.string { data := #[] })), 9, none, true⟩,
  ⟨some (3, true), .assign (.const (.int .i64 6)), 27, none, true⟩,
  ⟨some (4, true), .assign (.tmp 100), 3, none, true⟩] τ ρ h := _root_.id rfl
def ref1_Write_r18 : List Sop := [
  ⟨some (101, false), .fieldAddr 76 (.tmp 7) 1, 0, none, true⟩,
  ⟨some (102, false), .load 9 (.tmp 101), 9, none, true⟩,
  ⟨some (103, false), .call { callee := .builtin .len, args := #[.tmp 102], argTypes := #[9] }, 3, none, true⟩,
  ⟨some (104, true), .binOp .gtr 3 (.tmp 103) (.const (.int .i64 65535)) 3, 4, none, true⟩]
theorem ref1_Write_r18_go {K : Env → Heap → Prop} {τ ρ : Env} {h : Heap} : vcOps Try.prog K ref1_Write_r18 τ ρ h = vcOps Try.prog K [
  ⟨some (101, false), .fieldAddr 76 (.tmp 7) 1, 0, none, true⟩,
  ⟨some (102, false), .load 9 (.tmp 101), 9, none, true⟩,
  ⟨some (103, false), .call { callee := .builtin .len, args := #[.tmp 102], argTypes := #[9] }, 3, none, true⟩,
  ⟨some (104, true), .binOp .gtr 3 (.tmp 103) (.const (.int .i64 65535)) 3, 4, none, true⟩] τ ρ h := _root_.id rfl
def ref1_Write_r19 : List Sop := [
  ⟨some (105, false), .move (.tmp 6), 3, none, true⟩,
  ⟨some (2, true), .assign (.const (.string { data := #[] })), 9, none, true⟩,
  ⟨some (3, true), .assign (.const (.int .i64 12)), 27, none, true⟩,
  ⟨some (4, true), .assign (.tmp 105), 3, none, true⟩]
theorem ref1_Write_r19_go {K : Env → Heap → Prop} {τ ρ : Env} {h : Heap} : vcOps Try.prog K ref1_Write_r19 τ ρ h = vcOps Try.prog K [
  ⟨some (105, false), .move (.tmp 6), 3, none, true⟩,
  ⟨some (2, true), .assign (.const (.string { data := #[] })), 9, none, true⟩,
  ⟨some (3, true), .assign (.const (.int .i64 12)), 27, none, true⟩,
  ⟨some (4, true), .assign (.tmp 105), 3, none, true⟩] τ ρ h := _root_.id rfl
def ref1_Write_r20 : List (Sop × List Sop) := [
  (⟨some (106, false), .fieldAddr 76 (.tmp 7) 1, 0, none, true⟩, []),
  (⟨some (107, false), .load 9 (.tmp 106), 9, none, true⟩, []),
  (⟨some (108, false), .call { callee := .builtin .len, args := #[.tmp 107], argTypes := #[9] }, 3, none, true⟩, []),
  (⟨some (109, false), .convert 3 74 (.tmp 108), 74, none, true⟩, []),
  (⟨some (111, false), .fieldAddr 76 (.tmp 7) 1, 0, none, true⟩, []),
  (⟨some (112, false), .load 9 (.tmp 111), 9, none, true⟩, []),
  (⟨some (110, false), .call { callee := .value (.func 75), args := #[.tmp 109, .const (.int .i64 2)], argTypes := #[74, 3] }, 9, none, false⟩, [⟨some (111, false), .fieldAddr 76 (.tmp 7) 1, 0, none, true⟩, ⟨some (112, false), .load 9 (.tmp 111), 9, none, true⟩]),
  (⟨some (113, false), .binOp .add 9 (.tmp 110) (.tmp 112) 9, 9, none, true⟩, []),
  (⟨some (10, true), .assign (.tmp 113), 9, none, true⟩, [])]
theorem ref1_Write_r20_go {K : Env → Heap → Prop} {τ ρ : Env} {h : Heap} : vcDraw Try.prog K ref1_Write_r20 τ ρ h = vcDraw Try.prog K [
  (⟨some (106, false), .fieldAddr 76 (.tmp 7) 1, 0, none, true⟩, []),
  (⟨some (107, false), .load 9 (.tmp 106), 9, none, true⟩, []),
  (⟨some (108, false), .call { callee := .builtin .len, args := #[.tmp 107], argTypes := #[9] }, 3, none, true⟩, []),
  (⟨some (109, false), .convert 3 74 (.tmp 108), 74, none, true⟩, []),
  (⟨some (111, false), .fieldAddr 76 (.tmp 7) 1, 0, none, true⟩, []),
  (⟨some (112, false), .load 9 (.tmp 111), 9, none, true⟩, []),
  (⟨some (110, false), .call { callee := .value (.func 75), args := #[.tmp 109, .const (.int .i64 2)], argTypes := #[74, 3] }, 9, none, false⟩, [⟨some (111, false), .fieldAddr 76 (.tmp 7) 1, 0, none, true⟩, ⟨some (112, false), .load 9 (.tmp 111), 9, none, true⟩]),
  (⟨some (113, false), .binOp .add 9 (.tmp 110) (.tmp 112) 9, 9, none, true⟩, []),
  (⟨some (10, true), .assign (.tmp 113), 9, none, true⟩, [])] τ ρ h := _root_.id rfl
def ref1_Write_r21 : List Sop := [
  ⟨some (115, false), .binOp .eql 5 (.tmp 77) (.const (.int .u8 3)) 5, 4, none, true⟩,
  ⟨some (114, true), .assign (.tmp 115), 4, none, true⟩]
theorem ref1_Write_r21_go {K : Env → Heap → Prop} {τ ρ : Env} {h : Heap} : vcOps Try.prog K ref1_Write_r21 τ ρ h = vcOps Try.prog K [
  ⟨some (115, false), .binOp .eql 5 (.tmp 77) (.const (.int .u8 3)) 5, 4, none, true⟩,
  ⟨some (114, true), .assign (.tmp 115), 4, none, true⟩] τ ρ h := _root_.id rfl
def ref1_Write_r22 : List Sop := [
  ⟨some (116, false), .binOp .eql 5 (.tmp 77) (.const (.int .u8 4)) 5, 4, none, true⟩,
  ⟨some (114, true), .assign (.tmp 116), 4, none, true⟩]
theorem ref1_Write_r22_go {K : Env → Heap → Prop} {τ ρ : Env} {h : Heap} : vcOps Try.prog K ref1_Write_r22 τ ρ h = vcOps Try.prog K [
  ⟨some (116, false), .binOp .eql 5 (.tmp 77) (.const (.int .u8 4)) 5, 4, none, true⟩,
  ⟨some (114, true), .assign (.tmp 116), 4, none, true⟩] τ ρ h := _root_.id rfl
def ref1_Write_r23 : List Sop := [
  ⟨some (117, false), .fieldAddr 76 (.tmp 7) 2, 0, none, true⟩,
  ⟨some (118, false), .load 74 (.tmp 117), 74, none, true⟩,
  ⟨some (119, true), .binOp .geq 74 (.tmp 118) (.const (.int .u64 4294967296)) 74, 4, none, true⟩]
theorem ref1_Write_r23_go {K : Env → Heap → Prop} {τ ρ : Env} {h : Heap} : vcOps Try.prog K ref1_Write_r23 τ ρ h = vcOps Try.prog K [
  ⟨some (117, false), .fieldAddr 76 (.tmp 7) 2, 0, none, true⟩,
  ⟨some (118, false), .load 74 (.tmp 117), 74, none, true⟩,
  ⟨some (119, true), .binOp .geq 74 (.tmp 118) (.const (.int .u64 4294967296)) 74, 4, none, true⟩] τ ρ h := _root_.id rfl
def ref1_Write_r24 : List Sop := [
  ⟨some (120, false), .move (.tmp 6), 3, none, true⟩,
  ⟨some (2, true), .assign (.const (.string { data := #[] })), 9, none, true⟩,
  ⟨some (3, true), .assign (.const (.int .i64 12)), 27, none, true⟩,
  ⟨some (4, true), .assign (.tmp 120), 3, none, true⟩]
theorem ref1_Write_r24_go {K : Env → Heap → Prop} {τ ρ : Env} {h : Heap} : vcOps Try.prog K ref1_Write_r24 τ ρ h = vcOps Try.prog K [
  ⟨some (120, false), .move (.tmp 6), 3, none, true⟩,
  ⟨some (2, true), .assign (.const (.string { data := #[] })), 9, none, true⟩,
  ⟨some (3, true), .assign (.const (.int .i64 12)), 27, none, true⟩,
  ⟨some (4, true), .assign (.tmp 120), 3, none, true⟩] τ ρ h := _root_.id rfl
def ref1_Write_r25 : List Sop := [
  ⟨some (121, false), .fieldAddr 76 (.tmp 7) 2, 0, none, true⟩,
  ⟨some (122, false), .load 74 (.tmp 121), 74, none, true⟩,
  ⟨some (123, false), .call { callee := .value (.func 75), args := #[.tmp 122, .const (.int .i64 4)], argTypes := #[74, 3] }, 9, none, false⟩,
  ⟨some (10, true), .assign (.tmp 123), 9, none, true⟩]
theorem ref1_Write_r25_go {K : Env → Heap → Prop} {τ ρ : Env} {h : Heap} : vcOps Try.prog K ref1_Write_r25 τ ρ h = vcOps Try.prog K [
  ⟨some (121, false), .fieldAddr 76 (.tmp 7) 2, 0, none, true⟩,
  ⟨some (122, false), .load 74 (.tmp 121), 74, none, true⟩,
  ⟨some (123, false), .call { callee := .value (.func 75), args := #[.tmp 122, .const (.int .i64 4)], argTypes := #[74, 3] }, 9, none, false⟩,
  ⟨some (10, true), .assign (.tmp 123), 9, none, true⟩] τ ρ h := _root_.id rfl
def ref1_Write_r26 : List Sop := [
  ⟨some (125, false), .binOp .eql 5 (.tmp 77) (.const (.int .u8 5)) 5, 4, none, true⟩,
  ⟨some (124, true), .assign (.tmp 125), 4, none, true⟩]
theorem ref1_Write_r26_go {K : Env → Heap → Prop} {τ ρ : Env} {h : Heap} : vcOps Try.prog K ref1_Write_r26 τ ρ h = vcOps Try.prog K [
  ⟨some (125, false), .binOp .eql 5 (.tmp 77) (.const (.int .u8 5)) 5, 4, none, true⟩,
  ⟨some (124, true), .assign (.tmp 125), 4, none, true⟩] τ ρ h := _root_.id rfl
def ref1_Write_r27 : List Sop := [
  ⟨some (126, false), .binOp .eql 5 (.tmp 77) (.const (.int .u8 6)) 5, 4, none, true⟩,
  ⟨some (124, true), .assign (.tmp 126), 4, none, true⟩]
theorem ref1_Write_r27_go {K : Env → Heap → Prop} {τ ρ : Env} {h : Heap} : vcOps Try.prog K ref1_Write_r27 τ ρ h = vcOps Try.prog K [
  ⟨some (126, false), .binOp .eql 5 (.tmp 77) (.const (.int .u8 6)) 5, 4, none, true⟩,
  ⟨some (124, true), .assign (.tmp 126), 4, none, true⟩] τ ρ h := _root_.id rfl
def ref1_Write_r28 : List Sop := [
  ⟨some (127, false), .fieldAddr 76 (.tmp 7) 2, 0, none, true⟩,
  ⟨some (128, false), .load 74 (.tmp 127), 74, none, true⟩,
  ⟨some (129, false), .call { callee := .value (.func 75), args := #[.tmp 128, .const (.int .i64 8)], argTypes := #[74, 3] }, 9, none, false⟩,
  ⟨some (10, true), .assign (.tmp 129), 9, none, true⟩]
theorem ref1_Write_r28_go {K : Env → Heap → Prop} {τ ρ : Env} {h : Heap} : vcOps Try.prog K ref1_Write_r28 τ ρ h = vcOps Try.prog K [
  ⟨some (127, false), .fieldAddr 76 (.tmp 7) 2, 0, none, true⟩,
  ⟨some (128, false), .load 74 (.tmp 127), 74, none, true⟩,
  ⟨some (129, false), .call { callee := .value (.func 75), args := #[.tmp 128, .const (.int .i64 8)], argTypes := #[74, 3] }, 9, none, false⟩,
  ⟨some (10, true), .assign (.tmp 129), 9, none, true⟩] τ ρ h := _root_.id rfl
def ref1_Write_r29 : List Sop := [
  ⟨some (78, false), .fieldAddr 76 (.tmp 7) 3, 0, none, true⟩,
  ⟨some (79, false), .load 38 (.tmp 78), 38, none, true⟩,
  ⟨some (80, false), .convert 38 74 (.tmp 79), 74, none, true⟩,
  ⟨some (81, false), .call { callee := .value (.func 75), args := #[.tmp 80, .const (.int .i64 2)], argTypes := #[74, 3] }, 9, none, false⟩,
  ⟨some (10, true), .assign (.tmp 81), 9, none, true⟩]
theorem ref1_Write_r29_go {K : Env → Heap → Prop} {τ ρ : Env} {h : Heap} : vcOps Try.prog K ref1_Write_r29 τ ρ h = vcOps Try.prog K [
  ⟨some (78, false), .fieldAddr 76 (.tmp 7) 3, 0, none, true⟩,
  ⟨some (79, false), .load 38 (.tmp 78), 38, none, true⟩,
  ⟨some (80, false), .convert 38 74 (.tmp 79), 74, none, true⟩,
  ⟨some (81, false), .call { callee := .value (.func 75), args := #[.tmp 80, .const (.int .i64 2)], argTypes := #[74, 3] }, 9, none, false⟩,
  ⟨some (10, true), .assign (.tmp 81), 9, none, true⟩] τ ρ h := _root_.id rfl
def ref1_Write_r30 : List Sop := [
  ⟨some (82, false), .move (.tmp 9), 3, none, true⟩,
  ⟨some (83, true), .binOp .eql 3 (.tmp 82) (.const (.int .i64 4)) 3, 4, none, true⟩]
theorem ref1_Write_r30_go {K : Env → Heap → Prop} {τ ρ : Env} {h : Heap} : vcOps Try.prog K ref1_Write_r30 τ ρ h = vcOps Try.prog K [
  ⟨some (82, false), .move (.tmp 9), 3, none, true⟩,
  ⟨some (83, true), .binOp .eql 3 (.tmp 82) (.const (.int .i64 4)) 3, 4, none, true⟩] τ ρ h := _root_.id rfl
def ref1_Write_r31 : List Sop := [
  ⟨some (84, false), .move (.tmp 10), 9, none, true⟩,
  ⟨some (85, false), .fieldAddr 76 (.tmp 7) 4, 0, none, true⟩,
  ⟨some (86, false), .load 38 (.tmp 85), 38, none, true⟩,
  ⟨some (87, false), .convert 38 74 (.tmp 86), 74, none, true⟩,
  ⟨some (88, false), .call { callee := .value (.func 75), args := #[.tmp 87, .const (.int .i64 2)], argTypes := #[74, 3] }, 9, none, false⟩,
  ⟨some (89, false), .binOp .add 9 (.tmp 84) (.tmp 88) 9, 9, none, true⟩,
  ⟨some (10, true), .assign (.tmp 89), 9, none, true⟩]
theorem ref1_Write_r31_go {K : Env → Heap → Prop} {τ ρ : Env} {h : Heap} : vcOps Try.prog K ref1_Write_r31 τ ρ h = vcOps Try.prog K [
  ⟨some (84, false), .move (.tmp 10), 9, none, true⟩,
  ⟨some (85, false), .fieldAddr 76 (.tmp 7) 4, 0, none, true⟩,
  ⟨some (86, false), .load 38 (.tmp 85), 38, none, true⟩,
  ⟨some (87, false), .convert 38 74 (.tmp 86), 74, none, true⟩,
  ⟨some (88, false), .call { callee := .value (.func 75), args := #[.tmp 87, .const (.int .i64 2)], argTypes := #[74, 3] }, 9, none, false⟩,
  ⟨some (89, false), .binOp .add 9 (.tmp 84) (.tmp 88) 9, 9, none, true⟩,
  ⟨some (10, true), .assign (.tmp 89), 9, none, true⟩] τ ρ h := _root_.id rfl
def ref1_Write_r32 : List Sop := [
  ⟨some (130, false), .move (.tmp 5), 9, none, true⟩,
  ⟨some (131, false), .fieldAddr 76 (.tmp 7) 0, 0, none, true⟩,
  ⟨some (132, false), .load 5 (.tmp 131), 5, none, true⟩,
  ⟨some (133, false), .buildSlice 69 1 #[(0, .tmp 132)], 69, none, false⟩,
  ⟨some (134, false), .convert 69 9 (.tmp 133), 9, none, true⟩,
  ⟨some (135, false), .move (.tmp 10), 9, none, true⟩,
  ⟨some (136, false), .binOp .add 9 (.tmp 134) (.tmp 135) 9, 9, none, true⟩,
  ⟨some (137, false), .binOp .add 9 (.tmp 130) (.tmp 136) 9, 9, none, true⟩,
  ⟨some (5, true), .assign (.tmp 137), 9, none, true⟩]
theorem ref1_Write_r32_go {K : Env → Heap → Prop} {τ ρ : Env} {h : Heap} : vcOps Try.prog K ref1_Write_r32 τ ρ h = vcOps Try.prog K [
  ⟨some (130, false), .move (.tmp 5), 9, none, true⟩,
  ⟨some (131, false), .fieldAddr 76 (.tmp 7) 0, 0, none, true⟩,
  ⟨some (132, false), .load 5 (.tmp 131), 5, none, true⟩,
  ⟨some (133, false), .buildSlice 69 1 #[(0, .tmp 132)], 69, none, false⟩,
  ⟨some (134, false), .convert 69 9 (.tmp 133), 9, none, true⟩,
  ⟨some (135, false), .move (.tmp 10), 9, none, true⟩,
  ⟨some (136, false), .binOp .add 9 (.tmp 134) (.tmp 135) 9, 9, none, true⟩,
  ⟨some (137, false), .binOp .add 9 (.tmp 130) (.tmp 136) 9, 9, none, true⟩,
  ⟨some (5, true), .assign (.tmp 137), 9, none, true⟩] τ ρ h := _root_.id rfl
def ref1_Write_r33 : List Sop := [
  ⟨some (138, false), .binOp .add 3 (.tmp 28) (.const (.int .i64 1)) 3, 3, none, true⟩,
  ⟨some (28, true), .move (.tmp 138), 3, none, true⟩]
theorem ref1_Write_r33_go {K : Env → Heap → Prop} {τ ρ : Env} {h : Heap} : vcOps Try.prog K ref1_Write_r33 τ ρ h = vcOps Try.prog K [
  ⟨some (138, false), .binOp .add 3 (.tmp 28) (.const (.int .i64 1)) 3, 3, none, true⟩,
  ⟨some (28, true), .move (.tmp 138), 3, none, true⟩] τ ρ h := _root_.id rfl
def ref1_Write_r34 : List Sop := [
  ⟨some (139, false), .move (.tmp 0), 22, none, true⟩,
  ⟨some (140, false), .move (.tmp 0), 22, none, true⟩,
  ⟨some (141, false), .call { callee := .builtin .len, args := #[.tmp 140], argTypes := #[22] }, 3, none, true⟩,
  ⟨some (142, false), .binOp .sub 3 (.tmp 141) (.const (.int .i64 1)) 3, 3, none, true⟩,
  ⟨some (143, false), .indexAddr 22 (.tmp 139) (.tmp 142), 0, none, true⟩,
  ⟨some (144, false), .fieldAddr 76 (.tmp 143) 0, 0, none, true⟩,
  ⟨some (145, false), .load 5 (.tmp 144), 5, none, true⟩,
  ⟨some (13, true), .assign (.tmp 145), 5, none, true⟩]
theorem ref1_Write_r34_go {K : Env → Heap → Prop} {τ ρ : Env} {h : Heap} : vcOps Try.prog K ref1_Write_r34 τ ρ h = vcOps Try.prog K [
  ⟨some (139, false), .move (.tmp 0), 22, none, true⟩,
  ⟨some (140, false), .move (.tmp 0), 22, none, true⟩,
  ⟨some (141, false), .call { callee := .builtin .len, args := #[.tmp 140], argTypes := #[22] }, 3, none, true⟩,
  ⟨some (142, false), .binOp .sub 3 (.tmp 141) (.const (.int .i64 1)) 3, 3, none, true⟩,
  ⟨some (143, false), .indexAddr 22 (.tmp 139) (.tmp 142), 0, none, true⟩,
  ⟨some (144, false), .fieldAddr 76 (.tmp 143) 0, 0, none, true⟩,
  ⟨some (145, false), .load 5 (.tmp 144), 5, none, true⟩,
  ⟨some (13, true), .assign (.tmp 145), 5, none, true⟩] τ ρ h := _root_.id rfl
def ref1_Write_r35 : List Sop := [
  ⟨some (146, false), .move (.tmp 13), 5, none, true⟩,
  ⟨some (147, false), .binOp .eql 5 (.tmp 146) (.const (.int .u8 5)) 5, 4, none, true⟩,
  ⟨some (148, false), .move (.tmp 147), 4, none, true⟩,
  ⟨some (149, false), .move (.tmp 13), 5, some (148, false), true⟩,
  ⟨some (150, false), .binOp .eql 5 (.tmp 149) (.const (.int .u8 6)) 5, 4, some (148, false), true⟩,
  ⟨some (151, true), .pick (.tmp 148) (.const (.bool true)) (.tmp 150), 4, none, true⟩]
theorem ref1_Write_r35_go {K : Env → Heap → Prop} {τ ρ : Env} {h : Heap} : vcOps Try.prog K ref1_Write_r35 τ ρ h = vcOps Try.prog K [
  ⟨some (146, false), .move (.tmp 13), 5, none, true⟩,
  ⟨some (147, false), .binOp .eql 5 (.tmp 146) (.const (.int .u8 5)) 5, 4, none, true⟩,
  ⟨some (148, false), .move (.tmp 147), 4, none, true⟩,
  ⟨some (149, false), .move (.tmp 13), 5, some (148, false), true⟩,
  ⟨some (150, false), .binOp .eql 5 (.tmp 149) (.const (.int .u8 6)) 5, 4, some (148, false), true⟩,
  ⟨some (151, true), .pick (.tmp 148) (.const (.bool true)) (.tmp 150), 4, none, true⟩] τ ρ h := _root_.id rfl
def ref1_Write_r36 : List Sop := [
  ⟨some (152, false), .move (.tmp 0), 22, none, true⟩,
  ⟨some (153, false), .call { callee := .builtin .len, args := #[.tmp 152], argTypes := #[22] }, 3, none, true⟩,
  ⟨some (2, true), .assign (.const (.string { data := #[] })), 9, none, true⟩,
  ⟨some (3, true), .assign (.const (.int .i64 5)), 27, none, true⟩,
  ⟨some (4, true), .assign (.tmp 153), 3, none, true⟩]
theorem ref1_Write_r36_go {K : Env → Heap → Prop} {τ ρ : Env} {h : Heap} : vcOps Try.prog K ref1_Write_r36 τ ρ h = vcOps Try.prog K [
  ⟨some (152, false), .move (.tmp 0), 22, none, true⟩,
  ⟨some (153, false), .call { callee := .builtin .len, args := #[.tmp 152], argTypes := #[22] }, 3, none, true⟩,
  ⟨some (2, true), .assign (.const (.string { data := #[] })), 9, none, true⟩,
  ⟨some (3, true), .assign (.const (.int .i64 5)), 27, none, true⟩,
  ⟨some (4, true), .assign (.tmp 153), 3, none, true⟩] τ ρ h := _root_.id rfl
def ref1_Write_r37 : List Sop := [
  ⟨some (154, false), .move (.tmp 5), 9, none, true⟩,
  ⟨some (2, true), .assign (.tmp 154), 9, none, true⟩,
  ⟨some (3, true), .assign (.const (.int .i64 0)), 27, none, true⟩,
  ⟨some (4, true), .assign (.const (.int .i64 0)), 3, none, true⟩]
theorem ref1_Write_r37_go {K : Env → Heap → Prop} {τ ρ : Env} {h : Heap} : vcOps Try.prog K ref1_Write_r37 τ ρ h = vcOps Try.prog K [
  ⟨some (154, false), .move (.tmp 5), 9, none, true⟩,
  ⟨some (2, true), .assign (.tmp 154), 9, none, true⟩,
  ⟨some (3, true), .assign (.const (.int .i64 0)), 27, none, true⟩,
  ⟨some (4, true), .assign (.const (.int .i64 0)), 3, none, true⟩] τ ρ h := _root_.id rfl
def ref1_Write_l0 : Cd := .seq (.region ref1_Write_r5) (.seq (.cond (.tmp 29) (.skip) (.exit 0)) (.seq (.block 1 (.seq (.region ref1_Write_r6) (.seq (.region ref1_Write_r7) (.seq (.seq (.region ref1_Write_r8) (.cond (.tmp 62) (.exit 1) (.skip))) (.seq (.region ref1_Write_r9) (.seq (.seq (.region ref1_Write_r10) (.cond (.tmp 74) (.seq (.region ref1_Write_r11) (.ret)) (.skip))) (.seq (.region ref1_Write_r12) (.seq (.seq (.region ref1_Write_r13) (.block 2 (.seq (.region ref1_Write_r14) (.cond (.tmp 90) (.seq (.seq (.region ref1_Write_r15) (.seq (.region ref1_Write_r16) (.cond (.tmp 99) (.seq (.region ref1_Write_r17) (.ret)) (.skip)))) (.seq (.seq (.region ref1_Write_r18) (.cond (.tmp 104) (.seq (.region ref1_Write_r19) (.ret)) (.skip))) (.draw ref1_Write_r20))) (.seq (.seq (.region ref1_Write_r21) (.cond (.tmp 114) (.skip) (.region ref1_Write_r22))) (.cond (.tmp 114) (.seq (.seq (.region ref1_Write_r23) (.cond (.tmp 119) (.seq (.region ref1_Write_r24) (.ret)) (.skip))) (.region ref1_Write_r25)) (.seq (.seq (.region ref1_Write_r26) (.cond (.tmp 124) (.skip) (.region ref1_Write_r27))) (.cond (.tmp 124) (.region ref1_Write_r28) (.seq (.region ref1_Write_r29) (.seq (.region ref1_Write_r30) (.cond (.tmp 83) (.region ref1_Write_r31) (.skip)))))))))))) (.region ref1_Write_r32))))))))) (.region ref1_Write_r33)))
theorem ref1_Write_l0_go {Q : Ex → Env → Heap → Prop} {ρ : Env} {h : Heap} : Cd.vc Try.prog ref1_Write_l0 Q ρ h = Cd.vc Try.prog (.seq (.region ref1_Write_r5) (.seq (.cond (.tmp 29) (.skip) (.exit 0)) (.seq (.block 1 (.seq (.region ref1_Write_r6) (.seq (.region ref1_Write_r7) (.seq (.seq (.region ref1_Write_r8) (.cond (.tmp 62) (.exit 1) (.skip))) (.seq (.region ref1_Write_r9) (.seq (.seq (.region ref1_Write_r10) (.cond (.tmp 74) (.seq (.region ref1_Write_r11) (.ret)) (.skip))) (.seq (.region ref1_Write_r12) (.seq (.seq (.region ref1_Write_r13) (.block 2 (.seq (.region ref1_Write_r14) (.cond (.tmp 90) (.seq (.seq (.region ref1_Write_r15) (.seq (.region ref1_Write_r16) (.cond (.tmp 99) (.seq (.region ref1_Write_r17) (.ret)) (.skip)))) (.seq (.seq (.region ref1_Write_r18) (.cond (.tmp 104) (.seq (.region ref1_Write_r19) (.ret)) (.skip))) (.draw ref1_Write_r20))) (.seq (.seq (.region ref1_Write_r21) (.cond (.tmp 114) (.skip) (.region ref1_Write_r22))) (.cond (.tmp 114) (.seq (.seq (.region ref1_Write_r23) (.cond (.tmp 119) (.seq (.region ref1_Write_r24) (.ret)) (.skip))) (.region ref1_Write_r25)) (.seq (.seq (.region ref1_Write_r26) (.cond (.tmp 124) (.skip) (.region ref1_Write_r27))) (.cond (.tmp 124) (.region ref1_Write_r28) (.seq (.region ref1_Write_r29) (.seq (.region ref1_Write_r30) (.cond (.tmp 83) (.region ref1_Write_r31) (.skip)))))))))))) (.region ref1_Write_r32))))))))) (.region ref1_Write_r33)))) Q ρ h := _root_.id rfl
def ref1_Write : Cd := .seq (.region ref1_Write_r0) (.seq (.seq (.region ref1_Write_r1) (.cond (.tmp 21) (.seq (.region ref1_Write_r2) (.ret)) (.skip))) (.seq (.region ref1_Write_r3) (.seq (.seq (.region ref1_Write_r4) (.block 0 (.loop ref1_Write_l0))) (.seq (.seq (.region ref1_Write_r34) (.seq (.region ref1_Write_r35) (.cond (.tmp 151) (.seq (.region ref1_Write_r36) (.ret)) (.skip)))) (.seq (.region ref1_Write_r37) (.ret))))))
theorem ref1_Write_go {Q : Ex → Env → Heap → Prop} {ρ : Env} {h : Heap} : Cd.vc Try.prog ref1_Write Q ρ h = Cd.vc Try.prog (.seq (.region ref1_Write_r0) (.seq (.seq (.region ref1_Write_r1) (.cond (.tmp 21) (.seq (.region ref1_Write_r2) (.ret)) (.skip))) (.seq (.region ref1_Write_r3) (.seq (.seq (.region ref1_Write_r4) (.block 0 (.loop ref1_Write_l0))) (.seq (.seq (.region ref1_Write_r34) (.seq (.region ref1_Write_r35) (.cond (.tmp 151) (.seq (.region ref1_Write_r36) (.ret)) (.skip)))) (.seq (.region ref1_Write_r37) (.ret))))))) Q ρ h := _root_.id rfl
theorem ref1_Write_calls {args : List Value} {h : Heap} {R : Value → Heap → Prop} (hl : args.length = 1) (hv : Cd.vc Try.prog ref1_Write (retQ Try.prog [(2, none), (3, none), (4, none)] R) (initEnv args [0, 2, 3, 4, 5, 6, 7, 8, 9, 10, 12, 13, 21, 26, 27, 28, 29, 62, 74, 77, 83, 90, 99, 104, 114, 119, 124, 151]) h) : HCalls Try.prog 46 args.toArray h R :=
  hcalls_of_vc (by kernel_rfl) Try.func46 (cd := ref1_Write) (L := [0, 2, 3, 4, 5, 6, 7, 8, 9, 10, 12, 13, 21, 26, 27, 28, 29, 62, 74, 77, 83, 90, 99, 104, 114, 119, 124, 151]) (by kernel_rfl) (by kernel_rfl) ⟨by rw [hl, Try.ntmps46]; decide, by rw [Try.ntmps46]; decide⟩ hv
def ref1_Write_gos := And.intro @ref1_Write_go (And.intro @ref1_Write_r0_go (And.intro @ref1_Write_r1_go (And.intro @ref1_Write_r2_go (And.intro @ref1_Write_r3_go (And.intro @ref1_Write_r4_go (And.intro @ref1_Write_r5_go (And.intro @ref1_Write_r6_go (And.intro @ref1_Write_r7_go (And.intro @ref1_Write_r8_go (And.intro @ref1_Write_r9_go (And.intro @ref1_Write_r10_go (And.intro @ref1_Write_r11_go (And.intro @ref1_Write_r12_go (And.intro @ref1_Write_r13_go (And.intro @ref1_Write_r14_go (And.intro @ref1_Write_r15_go (And.intro @ref1_Write_r16_go (And.intro @ref1_Write_r17_go (And.intro @ref1_Write_r18_go (And.intro @ref1_Write_r19_go (And.intro @ref1_Write_r20_go (And.intro @ref1_Write_r21_go (And.intro @ref1_Write_r22_go (And.intro @ref1_Write_r23_go (And.intro @ref1_Write_r24_go (And.intro @ref1_Write_r25_go (And.intro @ref1_Write_r26_go (And.intro @ref1_Write_r27_go (And.intro @ref1_Write_r28_go (And.intro @ref1_Write_r29_go (And.intro @ref1_Write_r30_go (And.intro @ref1_Write_r31_go (And.intro @ref1_Write_r32_go (And.intro @ref1_Write_r33_go (And.intro @ref1_Write_r34_go (And.intro @ref1_Write_r35_go (And.intro @ref1_Write_r36_go (And.intro @ref1_Write_r37_go (@ref1_Write_l0_go)))))))))))))))))))))))))))))))))))))))

end Go.Proofs.Ytohkbpnblkkdgaa.C
