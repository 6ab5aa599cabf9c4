/- The stripped code of some functions of this seat's program, printed by a program; that it is that code is proved by the kernel. No condition. -/

import Derived.Test.YtohkbpnblkkdgaaProg

import Derived.Test.YtohkbpnblkkdgaaVcH

set_option maxRecDepth 100000

set_option linter.defProp false

namespace Go.Proofs.Ytohkbpnblkkdgaa.C

open Go.Vc

/-! jvmcore/jvmcorelaw3.MapRounds: function 4: slots [0, 1, 2, 6, 7, 8, 10, 13, 14, 16, 26, 45, 55, 59, 60, 61, 62, 67, 78] -/
def law3_MapRounds_r0 : List Sop := [
  ⟨some (6, true), .assign (.const (.bool false)), 4, none, true⟩]
theorem law3_MapRounds_r0_go {K : Env → Heap → Prop} {τ ρ : Env} {h : Heap} : vcOps Try.prog K law3_MapRounds_r0 τ ρ h = vcOps Try.prog K [
  ⟨some (6, true), .assign (.const (.bool false)), 4, none, true⟩] τ ρ h := _root_.id rfl
def law3_MapRounds_r1 : List Sop := [
  ⟨some (18, false), .move (.tmp 0), 9, none, true⟩,
  ⟨some (19, false), .call { callee := .builtin .len, args := #[.tmp 18], argTypes := #[9] }, 3, none, true⟩,
  ⟨some (20, false), .move (.tmp 1), 22, none, true⟩,
  ⟨some (21, false), .call { callee := .builtin .len, args := #[.tmp 20], argTypes := #[22] }, 3, none, true⟩,
  ⟨some (22, false), .binOp .add 3 (.tmp 19) (.tmp 21) 3, 3, none, true⟩,
  ⟨some (23, false), .move (.tmp 2), 23, none, true⟩,
  ⟨some (24, false), .call { callee := .builtin .len, args := #[.tmp 23], argTypes := #[23] }, 3, none, true⟩,
  ⟨some (25, false), .binOp .add 3 (.tmp 22) (.tmp 24) 3, 3, none, true⟩,
  ⟨some (26, true), .binOp .gtr 3 (.tmp 25) (.const (.int .i64 4096)) 3, 4, none, true⟩]
theorem law3_MapRounds_r1_go {K : Env → Heap → Prop} {τ ρ : Env} {h : Heap} : vcOps Try.prog K law3_MapRounds_r1 τ ρ h = vcOps Try.prog K [
  ⟨some (18, false), .move (.tmp 0), 9, none, true⟩,
  ⟨some (19, false), .call { callee := .builtin .len, args := #[.tmp 18], argTypes := #[9] }, 3, none, true⟩,
  ⟨some (20, false), .move (.tmp 1), 22, none, true⟩,
  ⟨some (21, false), .call { callee := .builtin .len, args := #[.tmp 20], argTypes := #[22] }, 3, none, true⟩,
  ⟨some (22, false), .binOp .add 3 (.tmp 19) (.tmp 21) 3, 3, none, true⟩,
  ⟨some (23, false), .move (.tmp 2), 23, none, true⟩,
  ⟨some (24, false), .call { callee := .builtin .len, args := #[.tmp 23], argTypes := #[23] }, 3, none, true⟩,
  ⟨some (25, false), .binOp .add 3 (.tmp 22) (.tmp 24) 3, 3, none, true⟩,
  ⟨some (26, true), .binOp .gtr 3 (.tmp 25) (.const (.int .i64 4096)) 3, 4, none, true⟩] τ ρ h := _root_.id rfl
def law3_MapRounds_r2 : List Sop := [
  ⟨some (6, true), .assign (.const (.bool true)), 4, none, true⟩]
theorem law3_MapRounds_r2_go {K : Env → Heap → Prop} {τ ρ : Env} {h : Heap} : vcOps Try.prog K law3_MapRounds_r2 τ ρ h = vcOps Try.prog K [
  ⟨some (6, true), .assign (.const (.bool true)), 4, none, true⟩] τ ρ h := _root_.id rfl
def law3_MapRounds_r3 : List Sop := [
  ⟨some (28, false), .call { callee := .value (.func 8), args := #[.const (.string { data := #[0, 1, 5] }), .const (.slice none 0 0), .const (.slice none 0 0)], argTypes := #[9, 22, 23] }, 28, none, false⟩,
  ⟨some (27, false), .move (.tmp 28), 28, none, true⟩,
  ⟨some (29, false), .extract (.tmp 27) 0, 26, none, true⟩,
  ⟨some (30, false), .extract (.tmp 27) 1, 27, none, true⟩,
  ⟨some (31, false), .extract (.tmp 27) 2, 3, none, true⟩,
  ⟨some (7, true), .assign (.tmp 29), 26, none, true⟩,
  ⟨some (8, true), .assign (.tmp 30), 27, none, true⟩,
  ⟨some (9, false), .assign (.tmp 31), 3, none, true⟩]
theorem law3_MapRounds_r3_go {K : Env → Heap → Prop} {τ ρ : Env} {h : Heap} : vcOps Try.prog K law3_MapRounds_r3 τ ρ h = vcOps Try.prog K [
  ⟨some (28, false), .call { callee := .value (.func 8), args := #[.const (.string { data := #[0, 1, 5] }), .const (.slice none 0 0), .const (.slice none 0 0)], argTypes := #[9, 22, 23] }, 28, none, false⟩,
  ⟨some (27, false), .move (.tmp 28), 28, none, true⟩,
  ⟨some (29, false), .extract (.tmp 27) 0, 26, none, true⟩,
  ⟨some (30, false), .extract (.tmp 27) 1, 27, none, true⟩,
  ⟨some (31, false), .extract (.tmp 27) 2, 3, none, true⟩,
  ⟨some (7, true), .assign (.tmp 29), 26, none, true⟩,
  ⟨some (8, true), .assign (.tmp 30), 27, none, true⟩,
  ⟨some (9, false), .assign (.tmp 31), 3, none, true⟩] τ ρ h := _root_.id rfl
def law3_MapRounds_r4 : List Sop := [
  ⟨some (32, false), .move (.tmp 8), 27, none, true⟩,
  ⟨some (33, false), .binOp .neq 27 (.tmp 32) (.const (.int .i64 0)) 27, 4, none, true⟩,
  ⟨some (34, false), .move (.tmp 33), 4, none, true⟩,
  ⟨some (35, false), .move (.tmp 7), 26, some (34, false), true⟩,
  ⟨some (36, false), .call { callee := .builtin .len, args := #[.tmp 35], argTypes := #[26] }, 3, some (34, false), true⟩,
  ⟨some (37, false), .binOp .neq 3 (.tmp 36) (.const (.int .i64 1)) 3, 4, some (34, false), true⟩,
  ⟨some (38, false), .pick (.tmp 34) (.const (.bool true)) (.tmp 37), 4, none, true⟩,
  ⟨some (39, false), .move (.tmp 38), 4, none, true⟩,
  ⟨some (40, false), .move (.tmp 7), 26, some (39, false), true⟩,
  ⟨some (41, false), .indexAddr 26 (.tmp 40) (.const (.int .i64 0)), 0, some (39, false), true⟩,
  ⟨some (42, false), .fieldAddr 35 (.tmp 41) 0, 0, some (39, false), true⟩,
  ⟨some (43, false), .load 3 (.tmp 42), 3, some (39, false), true⟩,
  ⟨some (44, false), .binOp .neq 3 (.tmp 43) (.const (.int .i64 5)) 3, 4, some (39, false), true⟩,
  ⟨some (45, true), .pick (.tmp 39) (.const (.bool true)) (.tmp 44), 4, none, true⟩]
theorem law3_MapRounds_r4_go {K : Env → Heap → Prop} {τ ρ : Env} {h : Heap} : vcOps Try.prog K law3_MapRounds_r4 τ ρ h = vcOps Try.prog K [
  ⟨some (32, false), .move (.tmp 8), 27, none, true⟩,
  ⟨some (33, false), .binOp .neq 27 (.tmp 32) (.const (.int .i64 0)) 27, 4, none, true⟩,
  ⟨some (34, false), .move (.tmp 33), 4, none, true⟩,
  ⟨some (35, false), .move (.tmp 7), 26, some (34, false), true⟩,
  ⟨some (36, false), .call { callee := .builtin .len, args := #[.tmp 35], argTypes := #[26] }, 3, some (34, false), true⟩,
  ⟨some (37, false), .binOp .neq 3 (.tmp 36) (.const (.int .i64 1)) 3, 4, some (34, false), true⟩,
  ⟨some (38, false), .pick (.tmp 34) (.const (.bool true)) (.tmp 37), 4, none, true⟩,
  ⟨some (39, false), .move (.tmp 38), 4, none, true⟩,
  ⟨some (40, false), .move (.tmp 7), 26, some (39, false), true⟩,
  ⟨some (41, false), .indexAddr 26 (.tmp 40) (.const (.int .i64 0)), 0, some (39, false), true⟩,
  ⟨some (42, false), .fieldAddr 35 (.tmp 41) 0, 0, some (39, false), true⟩,
  ⟨some (43, false), .load 3 (.tmp 42), 3, some (39, false), true⟩,
  ⟨some (44, false), .binOp .neq 3 (.tmp 43) (.const (.int .i64 5)) 3, 4, some (39, false), true⟩,
  ⟨some (45, true), .pick (.tmp 39) (.const (.bool true)) (.tmp 44), 4, none, true⟩] τ ρ h := _root_.id rfl
def law3_MapRounds_r5 : List Sop := [
  ⟨some (6, true), .assign (.const (.bool false)), 4, none, true⟩]
theorem law3_MapRounds_r5_go {K : Env → Heap → Prop} {τ ρ : Env} {h : Heap} : vcOps Try.prog K law3_MapRounds_r5 τ ρ h = vcOps Try.prog K [
  ⟨some (6, true), .assign (.const (.bool false)), 4, none, true⟩] τ ρ h := _root_.id rfl
def law3_MapRounds_r6 : List Sop := [
  ⟨some (47, false), .move (.tmp 0), 9, none, true⟩,
  ⟨some (48, false), .move (.tmp 1), 22, none, true⟩,
  ⟨some (49, false), .move (.tmp 2), 23, none, true⟩,
  ⟨some (50, false), .call { callee := .value (.func 8), args := #[.tmp 47, .tmp 48, .tmp 49], argTypes := #[9, 22, 23] }, 28, none, false⟩,
  ⟨some (46, false), .move (.tmp 50), 28, none, true⟩,
  ⟨some (51, false), .extract (.tmp 46) 0, 26, none, true⟩,
  ⟨some (52, false), .extract (.tmp 46) 1, 27, none, true⟩,
  ⟨some (53, false), .extract (.tmp 46) 2, 3, none, true⟩,
  ⟨some (10, true), .assign (.tmp 51), 26, none, true⟩,
  ⟨some (8, true), .assign (.tmp 52), 27, none, true⟩,
  ⟨some (11, false), .assign (.tmp 53), 3, none, true⟩]
theorem law3_MapRounds_r6_go {K : Env → Heap → Prop} {τ ρ : Env} {h : Heap} : vcOps Try.prog K law3_MapRounds_r6 τ ρ h = vcOps Try.prog K [
  ⟨some (47, false), .move (.tmp 0), 9, none, true⟩,
  ⟨some (48, false), .move (.tmp 1), 22, none, true⟩,
  ⟨some (49, false), .move (.tmp 2), 23, none, true⟩,
  ⟨some (50, false), .call { callee := .value (.func 8), args := #[.tmp 47, .tmp 48, .tmp 49], argTypes := #[9, 22, 23] }, 28, none, false⟩,
  ⟨some (46, false), .move (.tmp 50), 28, none, true⟩,
  ⟨some (51, false), .extract (.tmp 46) 0, 26, none, true⟩,
  ⟨some (52, false), .extract (.tmp 46) 1, 27, none, true⟩,
  ⟨some (53, false), .extract (.tmp 46) 2, 3, none, true⟩,
  ⟨some (10, true), .assign (.tmp 51), 26, none, true⟩,
  ⟨some (8, true), .assign (.tmp 52), 27, none, true⟩,
  ⟨some (11, false), .assign (.tmp 53), 3, none, true⟩] τ ρ h := _root_.id rfl
def law3_MapRounds_r7 : List Sop := [
  ⟨some (54, false), .move (.tmp 8), 27, none, true⟩,
  ⟨some (55, true), .binOp .neq 27 (.tmp 54) (.const (.int .i64 0)) 27, 4, none, true⟩]
theorem law3_MapRounds_r7_go {K : Env → Heap → Prop} {τ ρ : Env} {h : Heap} : vcOps Try.prog K law3_MapRounds_r7 τ ρ h = vcOps Try.prog K [
  ⟨some (54, false), .move (.tmp 8), 27, none, true⟩,
  ⟨some (55, true), .binOp .neq 27 (.tmp 54) (.const (.int .i64 0)) 27, 4, none, true⟩] τ ρ h := _root_.id rfl
def law3_MapRounds_r8 : List Sop := [
  ⟨some (56, false), .move (.tmp 10), 26, none, true⟩,
  ⟨some (57, false), .call { callee := .builtin .len, args := #[.tmp 56], argTypes := #[26] }, 3, none, true⟩,
  ⟨some (58, false), .binOp .eql 3 (.tmp 57) (.const (.int .i64 0)) 3, 4, none, true⟩,
  ⟨some (6, true), .assign (.tmp 58), 4, none, true⟩]
theorem law3_MapRounds_r8_go {K : Env → Heap → Prop} {τ ρ : Env} {h : Heap} : vcOps Try.prog K law3_MapRounds_r8 τ ρ h = vcOps Try.prog K [
  ⟨some (56, false), .move (.tmp 10), 26, none, true⟩,
  ⟨some (57, false), .call { callee := .builtin .len, args := #[.tmp 56], argTypes := #[26] }, 3, none, true⟩,
  ⟨some (58, false), .binOp .eql 3 (.tmp 57) (.const (.int .i64 0)) 3, 4, none, true⟩,
  ⟨some (6, true), .assign (.tmp 58), 4, none, true⟩] τ ρ h := _root_.id rfl
def law3_MapRounds_r9 : List Sop := [
  ⟨some (59, true), .move (.tmp 10), 26, none, true⟩,
  ⟨some (60, true), .call { callee := .builtin .len, args := #[.tmp 59], argTypes := #[26] }, 3, none, true⟩,
  ⟨some (61, true), .move (.const (.int .i64 0)), 3, none, true⟩]
theorem law3_MapRounds_r9_go {K : Env → Heap → Prop} {τ ρ : Env} {h : Heap} : vcOps Try.prog K law3_MapRounds_r9 τ ρ h = vcOps Try.prog K [
  ⟨some (59, true), .move (.tmp 10), 26, none, true⟩,
  ⟨some (60, true), .call { callee := .builtin .len, args := #[.tmp 59], argTypes := #[26] }, 3, none, true⟩,
  ⟨some (61, true), .move (.const (.int .i64 0)), 3, none, true⟩] τ ρ h := _root_.id rfl
def law3_MapRounds_r10 : List Sop := [
  ⟨some (62, true), .binOp .lss 3 (.tmp 61) (.tmp 60) 3, 0, none, true⟩]
theorem law3_MapRounds_r10_go {K : Env → Heap → Prop} {τ ρ : Env} {h : Heap} : vcOps Try.prog K law3_MapRounds_r10 τ ρ h = vcOps Try.prog K [
  ⟨some (62, true), .binOp .lss 3 (.tmp 61) (.tmp 60) 3, 0, none, true⟩] τ ρ h := _root_.id rfl
def law3_MapRounds_r11 : List Sop := [
  ⟨some (63, false), .indexAddr 26 (.tmp 59) (.tmp 61), 0, none, true⟩,
  ⟨some (64, false), .load 35 (.tmp 63), 35, none, true⟩,
  ⟨some (13, true), .alloc 35, 0, none, false⟩,
  ⟨none, .store 35 (.tmp 13) (.tmp 64), 0, none, false⟩]
theorem law3_MapRounds_r11_go {K : Env → Heap → Prop} {τ ρ : Env} {h : Heap} : vcOps Try.prog K law3_MapRounds_r11 τ ρ h = vcOps Try.prog K [
  ⟨some (63, false), .indexAddr 26 (.tmp 59) (.tmp 61), 0, none, true⟩,
  ⟨some (64, false), .load 35 (.tmp 63), 35, none, true⟩,
  ⟨some (13, true), .alloc 35, 0, none, false⟩,
  ⟨none, .store 35 (.tmp 13) (.tmp 64), 0, none, false⟩] τ ρ h := _root_.id rfl
def law3_MapRounds_r12 : List Sop := [
  ⟨some (65, false), .fieldAddr 35 (.tmp 13) 0, 0, none, true⟩,
  ⟨some (66, false), .load 3 (.tmp 65), 3, none, true⟩,
  ⟨some (67, true), .binOp .gtr 3 (.tmp 66) (.const (.int .i64 65535)) 3, 4, none, true⟩]
theorem law3_MapRounds_r12_go {K : Env → Heap → Prop} {τ ρ : Env} {h : Heap} : vcOps Try.prog K law3_MapRounds_r12 τ ρ h = vcOps Try.prog K [
  ⟨some (65, false), .fieldAddr 35 (.tmp 13) 0, 0, none, true⟩,
  ⟨some (66, false), .load 3 (.tmp 65), 3, none, true⟩,
  ⟨some (67, true), .binOp .gtr 3 (.tmp 66) (.const (.int .i64 65535)) 3, 4, none, true⟩] τ ρ h := _root_.id rfl
def law3_MapRounds_r13 : List Sop := [
  ⟨some (6, true), .assign (.const (.bool true)), 4, none, true⟩]
theorem law3_MapRounds_r13_go {K : Env → Heap → Prop} {τ ρ : Env} {h : Heap} : vcOps Try.prog K law3_MapRounds_r13 τ ρ h = vcOps Try.prog K [
  ⟨some (6, true), .assign (.const (.bool true)), 4, none, true⟩] τ ρ h := _root_.id rfl
def law3_MapRounds_r14 : List Sop := [
  ⟨some (68, false), .binOp .add 3 (.tmp 61) (.const (.int .i64 1)) 3, 3, none, true⟩,
  ⟨some (61, true), .move (.tmp 68), 3, none, true⟩]
theorem law3_MapRounds_r14_go {K : Env → Heap → Prop} {τ ρ : Env} {h : Heap} : vcOps Try.prog K law3_MapRounds_r14 τ ρ h = vcOps Try.prog K [
  ⟨some (68, false), .binOp .add 3 (.tmp 61) (.const (.int .i64 1)) 3, 3, none, true⟩,
  ⟨some (61, true), .move (.tmp 68), 3, none, true⟩] τ ρ h := _root_.id rfl
def law3_MapRounds_r15 : List Sop := [
  ⟨some (70, false), .move (.tmp 10), 26, none, true⟩,
  ⟨some (71, false), .move (.tmp 1), 22, none, true⟩,
  ⟨some (72, false), .move (.tmp 2), 23, none, true⟩,
  ⟨some (73, false), .call { callee := .value (.func 13), args := #[.tmp 70, .tmp 71, .tmp 72], argTypes := #[26, 22, 23] }, 36, none, false⟩,
  ⟨some (69, false), .move (.tmp 73), 36, none, true⟩,
  ⟨some (74, false), .extract (.tmp 69) 0, 9, none, true⟩,
  ⟨some (75, false), .extract (.tmp 69) 1, 27, none, true⟩,
  ⟨some (76, false), .extract (.tmp 69) 2, 3, none, true⟩,
  ⟨some (14, true), .assign (.tmp 74), 9, none, true⟩,
  ⟨some (8, true), .assign (.tmp 75), 27, none, true⟩,
  ⟨some (15, false), .assign (.tmp 76), 3, none, true⟩]
theorem law3_MapRounds_r15_go {K : Env → Heap → Prop} {τ ρ : Env} {h : Heap} : vcOps Try.prog K law3_MapRounds_r15 τ ρ h = vcOps Try.prog K [
  ⟨some (70, false), .move (.tmp 10), 26, none, true⟩,
  ⟨some (71, false), .move (.tmp 1), 22, none, true⟩,
  ⟨some (72, false), .move (.tmp 2), 23, none, true⟩,
  ⟨some (73, false), .call { callee := .value (.func 13), args := #[.tmp 70, .tmp 71, .tmp 72], argTypes := #[26, 22, 23] }, 36, none, false⟩,
  ⟨some (69, false), .move (.tmp 73), 36, none, true⟩,
  ⟨some (74, false), .extract (.tmp 69) 0, 9, none, true⟩,
  ⟨some (75, false), .extract (.tmp 69) 1, 27, none, true⟩,
  ⟨some (76, false), .extract (.tmp 69) 2, 3, none, true⟩,
  ⟨some (14, true), .assign (.tmp 74), 9, none, true⟩,
  ⟨some (8, true), .assign (.tmp 75), 27, none, true⟩,
  ⟨some (15, false), .assign (.tmp 76), 3, none, true⟩] τ ρ h := _root_.id rfl
def law3_MapRounds_r16 : List Sop := [
  ⟨some (77, false), .move (.tmp 8), 27, none, true⟩,
  ⟨some (78, true), .binOp .neq 27 (.tmp 77) (.const (.int .i64 0)) 27, 4, none, true⟩]
theorem law3_MapRounds_r16_go {K : Env → Heap → Prop} {τ ρ : Env} {h : Heap} : vcOps Try.prog K law3_MapRounds_r16 τ ρ h = vcOps Try.prog K [
  ⟨some (77, false), .move (.tmp 8), 27, none, true⟩,
  ⟨some (78, true), .binOp .neq 27 (.tmp 77) (.const (.int .i64 0)) 27, 4, none, true⟩] τ ρ h := _root_.id rfl
def law3_MapRounds_r17 : List Sop := [
  ⟨some (79, false), .move (.tmp 8), 27, none, true⟩,
  ⟨some (80, false), .binOp .eql 27 (.tmp 79) (.const (.int .i64 7)) 27, 4, none, true⟩,
  ⟨some (6, true), .assign (.tmp 80), 4, none, true⟩]
theorem law3_MapRounds_r17_go {K : Env → Heap → Prop} {τ ρ : Env} {h : Heap} : vcOps Try.prog K law3_MapRounds_r17 τ ρ h = vcOps Try.prog K [
  ⟨some (79, false), .move (.tmp 8), 27, none, true⟩,
  ⟨some (80, false), .binOp .eql 27 (.tmp 79) (.const (.int .i64 7)) 27, 4, none, true⟩,
  ⟨some (6, true), .assign (.tmp 80), 4, none, true⟩] τ ρ h := _root_.id rfl
def law3_MapRounds_r18 : List Sop := [
  ⟨some (82, false), .move (.tmp 14), 9, none, true⟩,
  ⟨some (83, false), .move (.tmp 1), 22, none, true⟩,
  ⟨some (84, false), .move (.tmp 2), 23, none, true⟩,
  ⟨some (85, false), .call { callee := .value (.func 8), args := #[.tmp 82, .tmp 83, .tmp 84], argTypes := #[9, 22, 23] }, 28, none, false⟩,
  ⟨some (81, false), .move (.tmp 85), 28, none, true⟩,
  ⟨some (86, false), .extract (.tmp 81) 0, 26, none, true⟩,
  ⟨some (87, false), .extract (.tmp 81) 1, 27, none, true⟩,
  ⟨some (88, false), .extract (.tmp 81) 2, 3, none, true⟩,
  ⟨some (16, true), .assign (.tmp 86), 26, none, true⟩,
  ⟨some (8, true), .assign (.tmp 87), 27, none, true⟩,
  ⟨some (17, false), .assign (.tmp 88), 3, none, true⟩]
theorem law3_MapRounds_r18_go {K : Env → Heap → Prop} {τ ρ : Env} {h : Heap} : vcOps Try.prog K law3_MapRounds_r18 τ ρ h = vcOps Try.prog K [
  ⟨some (82, false), .move (.tmp 14), 9, none, true⟩,
  ⟨some (83, false), .move (.tmp 1), 22, none, true⟩,
  ⟨some (84, false), .move (.tmp 2), 23, none, true⟩,
  ⟨some (85, false), .call { callee := .value (.func 8), args := #[.tmp 82, .tmp 83, .tmp 84], argTypes := #[9, 22, 23] }, 28, none, false⟩,
  ⟨some (81, false), .move (.tmp 85), 28, none, true⟩,
  ⟨some (86, false), .extract (.tmp 81) 0, 26, none, true⟩,
  ⟨some (87, false), .extract (.tmp 81) 1, 27, none, true⟩,
  ⟨some (88, false), .extract (.tmp 81) 2, 3, none, true⟩,
  ⟨some (16, true), .assign (.tmp 86), 26, none, true⟩,
  ⟨some (8, true), .assign (.tmp 87), 27, none, true⟩,
  ⟨some (17, false), .assign (.tmp 88), 3, none, true⟩] τ ρ h := _root_.id rfl
def law3_MapRounds_r19 : List Sop := [
  ⟨some (89, false), .move (.tmp 8), 27, none, true⟩,
  ⟨some (90, false), .binOp .eql 27 (.tmp 89) (.const (.int .i64 0)) 27, 4, none, true⟩,
  ⟨some (91, false), .move (.tmp 90), 4, none, true⟩,
  ⟨some (92, false), .move (.tmp 14), 9, some (91, true), true⟩,
  ⟨some (93, false), .call { callee := .builtin .len, args := #[.tmp 92], argTypes := #[9] }, 3, some (91, true), true⟩,
  ⟨some (94, false), .move (.tmp 0), 9, some (91, true), true⟩,
  ⟨some (95, false), .call { callee := .builtin .len, args := #[.tmp 94], argTypes := #[9] }, 3, some (91, true), true⟩,
  ⟨some (96, false), .binOp .leq 3 (.tmp 93) (.tmp 95) 3, 4, some (91, true), true⟩,
  ⟨some (97, false), .pick (.tmp 91) (.tmp 96) (.const (.bool false)), 4, none, true⟩,
  ⟨some (98, false), .move (.tmp 97), 4, none, true⟩,
  ⟨some (99, false), .move (.tmp 10), 26, some (98, true), true⟩,
  ⟨some (100, false), .move (.tmp 16), 26, some (98, true), true⟩,
  ⟨some (101, false), .call { callee := .value (.func 11), args := #[.tmp 99, .tmp 100], argTypes := #[26, 26] }, 4, some (98, true), false⟩,
  ⟨some (102, false), .pick (.tmp 98) (.tmp 101) (.const (.bool false)), 4, none, true⟩,
  ⟨some (6, true), .assign (.tmp 102), 4, none, true⟩]
theorem law3_MapRounds_r19_go {K : Env → Heap → Prop} {τ ρ : Env} {h : Heap} : vcOps Try.prog K law3_MapRounds_r19 τ ρ h = vcOps Try.prog K [
  ⟨some (89, false), .move (.tmp 8), 27, none, true⟩,
  ⟨some (90, false), .binOp .eql 27 (.tmp 89) (.const (.int .i64 0)) 27, 4, none, true⟩,
  ⟨some (91, false), .move (.tmp 90), 4, none, true⟩,
  ⟨some (92, false), .move (.tmp 14), 9, some (91, true), true⟩,
  ⟨some (93, false), .call { callee := .builtin .len, args := #[.tmp 92], argTypes := #[9] }, 3, some (91, true), true⟩,
  ⟨some (94, false), .move (.tmp 0), 9, some (91, true), true⟩,
  ⟨some (95, false), .call { callee := .builtin .len, args := #[.tmp 94], argTypes := #[9] }, 3, some (91, true), true⟩,
  ⟨some (96, false), .binOp .leq 3 (.tmp 93) (.tmp 95) 3, 4, some (91, true), true⟩,
  ⟨some (97, false), .pick (.tmp 91) (.tmp 96) (.const (.bool false)), 4, none, true⟩,
  ⟨some (98, false), .move (.tmp 97), 4, none, true⟩,
  ⟨some (99, false), .move (.tmp 10), 26, some (98, true), true⟩,
  ⟨some (100, false), .move (.tmp 16), 26, some (98, true), true⟩,
  ⟨some (101, false), .call { callee := .value (.func 11), args := #[.tmp 99, .tmp 100], argTypes := #[26, 26] }, 4, some (98, true), false⟩,
  ⟨some (102, false), .pick (.tmp 98) (.tmp 101) (.const (.bool false)), 4, none, true⟩,
  ⟨some (6, true), .assign (.tmp 102), 4, none, true⟩] τ ρ h := _root_.id rfl
def law3_MapRounds_l0 : Cd := .seq (.region law3_MapRounds_r10) (.seq (.cond (.tmp 62) (.skip) (.exit 0)) (.seq (.block 1 (.seq (.region law3_MapRounds_r11) (.seq (.region law3_MapRounds_r12) (.cond (.tmp 67) (.seq (.region law3_MapRounds_r13) (.ret)) (.skip))))) (.region law3_MapRounds_r14)))
theorem law3_MapRounds_l0_go {Q : Ex → Env → Heap → Prop} {ρ : Env} {h : Heap} : Cd.vc Try.prog law3_MapRounds_l0 Q ρ h = Cd.vc Try.prog (.seq (.region law3_MapRounds_r10) (.seq (.cond (.tmp 62) (.skip) (.exit 0)) (.seq (.block 1 (.seq (.region law3_MapRounds_r11) (.seq (.region law3_MapRounds_r12) (.cond (.tmp 67) (.seq (.region law3_MapRounds_r13) (.ret)) (.skip))))) (.region law3_MapRounds_r14)))) Q ρ h := _root_.id rfl
def law3_MapRounds : Cd := .seq (.region law3_MapRounds_r0) (.seq (.seq (.region law3_MapRounds_r1) (.cond (.tmp 26) (.seq (.region law3_MapRounds_r2) (.ret)) (.skip))) (.seq (.region law3_MapRounds_r3) (.seq (.seq (.region law3_MapRounds_r4) (.cond (.tmp 45) (.seq (.region law3_MapRounds_r5) (.ret)) (.skip))) (.seq (.region law3_MapRounds_r6) (.seq (.seq (.region law3_MapRounds_r7) (.cond (.tmp 55) (.seq (.region law3_MapRounds_r8) (.ret)) (.skip))) (.seq (.seq (.region law3_MapRounds_r9) (.block 0 (.loop law3_MapRounds_l0))) (.seq (.region law3_MapRounds_r15) (.seq (.seq (.region law3_MapRounds_r16) (.cond (.tmp 78) (.seq (.region law3_MapRounds_r17) (.ret)) (.skip))) (.seq (.region law3_MapRounds_r18) (.seq (.region law3_MapRounds_r19) (.ret)))))))))))
theorem law3_MapRounds_go {Q : Ex → Env → Heap → Prop} {ρ : Env} {h : Heap} : Cd.vc Try.prog law3_MapRounds Q ρ h = Cd.vc Try.prog (.seq (.region law3_MapRounds_r0) (.seq (.seq (.region law3_MapRounds_r1) (.cond (.tmp 26) (.seq (.region law3_MapRounds_r2) (.ret)) (.skip))) (.seq (.region law3_MapRounds_r3) (.seq (.seq (.region law3_MapRounds_r4) (.cond (.tmp 45) (.seq (.region law3_MapRounds_r5) (.ret)) (.skip))) (.seq (.region law3_MapRounds_r6) (.seq (.seq (.region law3_MapRounds_r7) (.cond (.tmp 55) (.seq (.region law3_MapRounds_r8) (.ret)) (.skip))) (.seq (.seq (.region law3_MapRounds_r9) (.block 0 (.loop law3_MapRounds_l0))) (.seq (.region law3_MapRounds_r15) (.seq (.seq (.region law3_MapRounds_r16) (.cond (.tmp 78) (.seq (.region law3_MapRounds_r17) (.ret)) (.skip))) (.seq (.region law3_MapRounds_r18) (.seq (.region law3_MapRounds_r19) (.ret)))))))))))) Q ρ h := _root_.id rfl
theorem law3_MapRounds_calls {args : List Value} {h : Heap} {R : Value → Heap → Prop} (hl : args.length = 3) (hv : Cd.vc Try.prog law3_MapRounds (retQ Try.prog [(6, none)] R) (initEnv args [0, 1, 2, 6, 7, 8, 10, 13, 14, 16, 26, 45, 55, 59, 60, 61, 62, 67, 78]) h) : HCalls Try.prog 4 args.toArray h R :=
  hcalls_of_vc (by kernel_rfl) Try.func4 (cd := law3_MapRounds) (L := [0, 1, 2, 6, 7, 8, 10, 13, 14, 16, 26, 45, 55, 59, 60, 61, 62, 67, 78]) (by kernel_rfl) (by kernel_rfl) ⟨by rw [hl, Try.ntmps4]; decide, by rw [Try.ntmps4]; decide⟩ hv
def law3_MapRounds_gos := And.intro @law3_MapRounds_go (And.intro @law3_MapRounds_r0_go (And.intro @law3_MapRounds_r1_go (And.intro @law3_MapRounds_r2_go (And.intro @law3_MapRounds_r3_go (And.intro @law3_MapRounds_r4_go (And.intro @law3_MapRounds_r5_go (And.intro @law3_MapRounds_r6_go (And.intro @law3_MapRounds_r7_go (And.intro @law3_MapRounds_r8_go (And.intro @law3_MapRounds_r9_go (And.intro @law3_MapRounds_r10_go (And.intro @law3_MapRounds_r11_go (And.intro @law3_MapRounds_r12_go (And.intro @law3_MapRounds_r13_go (And.intro @law3_MapRounds_r14_go (And.intro @law3_MapRounds_r15_go (And.intro @law3_MapRounds_r16_go (And.intro @law3_MapRounds_r17_go (And.intro @law3_MapRounds_r18_go (And.intro @law3_MapRounds_r19_go (@law3_MapRounds_l0_go)))))))))))))))))))))

end Go.Proofs.Ytohkbpnblkkdgaa.C
