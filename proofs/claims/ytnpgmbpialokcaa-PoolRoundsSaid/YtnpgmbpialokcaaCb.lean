/- The stripped code of some functions of this seat's program, printed by a program; that it is that code is proved by the kernel. No condition. -/

import Derived.Test.YtnpgmbpialokcaaProg

import Derived.Test.YtnpgmbpialokcaaVcH

set_option maxRecDepth 100000

set_option linter.defProp false

namespace Go.Proofs.Ytnpgmbpialokcaa.C

open Go.Vc

/-! jvmcore/jvmcorelaw1.Names: function 3: slots [0, 1, 2, 3, 4, 5, 6, 7, 8, 9, 10, 12, 13, 14, 15, 21, 24, 25, 26, 27, 33, 35, 36, 37, 38, 45, 47, 48, 49, 50, 57] -/
def law1_Names_r0 : List Sop := [
  ⟨some (0, true), .assign (.const (.bool false)), 4, none, true⟩]
theorem law1_Names_r0_go {K : Env → Heap → Prop} {τ ρ : Env} {h : Heap} : vcOps Try.prog K law1_Names_r0 τ ρ h = vcOps Try.prog K [
  ⟨some (0, true), .assign (.const (.bool false)), 4, none, true⟩] τ ρ h := _root_.id rfl
def law1_Names_r1 : List Sop := [
  ⟨some (11, false), .buildSlice 22 30 #[(0, .const (.int .i64 0)), (1, .const (.int .i64 1)), (2, .const (.int .i64 2)), (3, .const (.int .i64 3)), (4, .const (.int .i64 4)), (5, .const (.int .i64 5)), (6, .const (.int .i64 6)), (7, .const (.int .i64 7)), (8, .const (.int .i64 8)), (9, .const (.int .i64 9)), (10, .const (.int .i64 10)), (11, .const (.int .i64 11)), (12, .const (.int .i64 12)), (13, .const (.int .i64 13)), (14, .const (.int .i64 14)), (15, .const (.int .i64 15)), (16, .const (.int .i64 16)), (17, .const (.int .i64 17)), (18, .const (.int .i64 18)), (19, .const (.int .i64 19)), (20, .const (.int .i64 20)), (21, .const (.int .i64 21)), (22, .const (.int .i64 22)), (23, .const (.int .i64 23)), (24, .const (.int .i64 24)), (25, .const (.int .i64 25)), (26, .const (.int .i64 26)), (27, .const (.int .i64 27)), (28, .const (.int .i64 28)), (29, .const (.int .i64 29))], 22, none, false⟩,
  ⟨some (1, true), .assign (.tmp 11), 22, none, true⟩]
theorem law1_Names_r1_go {K : Env → Heap → Prop} {τ ρ : Env} {h : Heap} : vcOps Try.prog K law1_Names_r1 τ ρ h = vcOps Try.prog K [
  ⟨some (11, false), .buildSlice 22 30 #[(0, .const (.int .i64 0)), (1, .const (.int .i64 1)), (2, .const (.int .i64 2)), (3, .const (.int .i64 3)), (4, .const (.int .i64 4)), (5, .const (.int .i64 5)), (6, .const (.int .i64 6)), (7, .const (.int .i64 7)), (8, .const (.int .i64 8)), (9, .const (.int .i64 9)), (10, .const (.int .i64 10)), (11, .const (.int .i64 11)), (12, .const (.int .i64 12)), (13, .const (.int .i64 13)), (14, .const (.int .i64 14)), (15, .const (.int .i64 15)), (16, .const (.int .i64 16)), (17, .const (.int .i64 17)), (18, .const (.int .i64 18)), (19, .const (.int .i64 19)), (20, .const (.int .i64 20)), (21, .const (.int .i64 21)), (22, .const (.int .i64 22)), (23, .const (.int .i64 23)), (24, .const (.int .i64 24)), (25, .const (.int .i64 25)), (26, .const (.int .i64 26)), (27, .const (.int .i64 27)), (28, .const (.int .i64 28)), (29, .const (.int .i64 29))], 22, none, false⟩,
  ⟨some (1, true), .assign (.tmp 11), 22, none, true⟩] τ ρ h := _root_.id rfl
def law1_Names_r2 : List Sop := [
  ⟨some (12, true), .move (.tmp 1), 22, none, true⟩,
  ⟨some (13, true), .call { callee := .builtin .len, args := #[.tmp 12], argTypes := #[22] }, 3, none, true⟩,
  ⟨some (14, true), .move (.const (.int .i64 0)), 3, none, true⟩]
theorem law1_Names_r2_go {K : Env → Heap → Prop} {τ ρ : Env} {h : Heap} : vcOps Try.prog K law1_Names_r2 τ ρ h = vcOps Try.prog K [
  ⟨some (12, true), .move (.tmp 1), 22, none, true⟩,
  ⟨some (13, true), .call { callee := .builtin .len, args := #[.tmp 12], argTypes := #[22] }, 3, none, true⟩,
  ⟨some (14, true), .move (.const (.int .i64 0)), 3, none, true⟩] τ ρ h := _root_.id rfl
def law1_Names_r3 : List Sop := [
  ⟨some (15, true), .binOp .lss 3 (.tmp 14) (.tmp 13) 3, 0, none, true⟩]
theorem law1_Names_r3_go {K : Env → Heap → Prop} {τ ρ : Env} {h : Heap} : vcOps Try.prog K law1_Names_r3 τ ρ h = vcOps Try.prog K [
  ⟨some (15, true), .binOp .lss 3 (.tmp 14) (.tmp 13) 3, 0, none, true⟩] τ ρ h := _root_.id rfl
def law1_Names_r4 : List Sop := [
  ⟨some (16, false), .move (.tmp 14), 3, none, true⟩,
  ⟨some (17, false), .indexAddr 22 (.tmp 12) (.tmp 14), 0, none, true⟩,
  ⟨some (18, false), .load 3 (.tmp 17), 3, none, true⟩,
  ⟨some (2, true), .assign (.tmp 16), 3, none, true⟩,
  ⟨some (3, true), .assign (.tmp 18), 3, none, true⟩]
theorem law1_Names_r4_go {K : Env → Heap → Prop} {τ ρ : Env} {h : Heap} : vcOps Try.prog K law1_Names_r4 τ ρ h = vcOps Try.prog K [
  ⟨some (16, false), .move (.tmp 14), 3, none, true⟩,
  ⟨some (17, false), .indexAddr 22 (.tmp 12) (.tmp 14), 0, none, true⟩,
  ⟨some (18, false), .load 3 (.tmp 17), 3, none, true⟩,
  ⟨some (2, true), .assign (.tmp 16), 3, none, true⟩,
  ⟨some (3, true), .assign (.tmp 18), 3, none, true⟩] τ ρ h := _root_.id rfl
def law1_Names_r5 : List Sop := [
  ⟨some (19, false), .move (.tmp 3), 3, none, true⟩,
  ⟨some (20, false), .move (.tmp 2), 3, none, true⟩,
  ⟨some (21, true), .binOp .neq 3 (.tmp 19) (.tmp 20) 3, 4, none, true⟩]
theorem law1_Names_r5_go {K : Env → Heap → Prop} {τ ρ : Env} {h : Heap} : vcOps Try.prog K law1_Names_r5 τ ρ h = vcOps Try.prog K [
  ⟨some (19, false), .move (.tmp 3), 3, none, true⟩,
  ⟨some (20, false), .move (.tmp 2), 3, none, true⟩,
  ⟨some (21, true), .binOp .neq 3 (.tmp 19) (.tmp 20) 3, 4, none, true⟩] τ ρ h := _root_.id rfl
def law1_Names_r6 : List Sop := [
  ⟨some (0, true), .assign (.const (.bool false)), 4, none, true⟩]
theorem law1_Names_r6_go {K : Env → Heap → Prop} {τ ρ : Env} {h : Heap} : vcOps Try.prog K law1_Names_r6 τ ρ h = vcOps Try.prog K [
  ⟨some (0, true), .assign (.const (.bool false)), 4, none, true⟩] τ ρ h := _root_.id rfl
def law1_Names_r7 : List Sop := [
  ⟨some (22, false), .binOp .add 3 (.tmp 14) (.const (.int .i64 1)) 3, 3, none, true⟩,
  ⟨some (14, true), .move (.tmp 22), 3, none, true⟩]
theorem law1_Names_r7_go {K : Env → Heap → Prop} {τ ρ : Env} {h : Heap} : vcOps Try.prog K law1_Names_r7 τ ρ h = vcOps Try.prog K [
  ⟨some (22, false), .binOp .add 3 (.tmp 14) (.const (.int .i64 1)) 3, 3, none, true⟩,
  ⟨some (14, true), .move (.tmp 22), 3, none, true⟩] τ ρ h := _root_.id rfl
def law1_Names_r8 : List Sop := [
  ⟨some (23, false), .buildSlice 22 9 #[(0, .const (.int .i64 0)), (1, .const (.int .i64 1)), (2, .const (.int .i64 2)), (3, .const (.int .i64 3)), (4, .const (.int .i64 4)), (5, .const (.int .i64 5)), (6, .const (.int .i64 6)), (7, .const (.int .i64 7)), (8, .const (.int .i64 8))], 22, none, false⟩,
  ⟨some (4, true), .assign (.tmp 23), 22, none, true⟩]
theorem law1_Names_r8_go {K : Env → Heap → Prop} {τ ρ : Env} {h : Heap} : vcOps Try.prog K law1_Names_r8 τ ρ h = vcOps Try.prog K [
  ⟨some (23, false), .buildSlice 22 9 #[(0, .const (.int .i64 0)), (1, .const (.int .i64 1)), (2, .const (.int .i64 2)), (3, .const (.int .i64 3)), (4, .const (.int .i64 4)), (5, .const (.int .i64 5)), (6, .const (.int .i64 6)), (7, .const (.int .i64 7)), (8, .const (.int .i64 8))], 22, none, false⟩,
  ⟨some (4, true), .assign (.tmp 23), 22, none, true⟩] τ ρ h := _root_.id rfl
def law1_Names_r9 : List Sop := [
  ⟨some (24, true), .move (.tmp 4), 22, none, true⟩,
  ⟨some (25, true), .call { callee := .builtin .len, args := #[.tmp 24], argTypes := #[22] }, 3, none, true⟩,
  ⟨some (26, true), .move (.const (.int .i64 0)), 3, none, true⟩]
theorem law1_Names_r9_go {K : Env → Heap → Prop} {τ ρ : Env} {h : Heap} : vcOps Try.prog K law1_Names_r9 τ ρ h = vcOps Try.prog K [
  ⟨some (24, true), .move (.tmp 4), 22, none, true⟩,
  ⟨some (25, true), .call { callee := .builtin .len, args := #[.tmp 24], argTypes := #[22] }, 3, none, true⟩,
  ⟨some (26, true), .move (.const (.int .i64 0)), 3, none, true⟩] τ ρ h := _root_.id rfl
def law1_Names_r10 : List Sop := [
  ⟨some (27, true), .binOp .lss 3 (.tmp 26) (.tmp 25) 3, 0, none, true⟩]
theorem law1_Names_r10_go {K : Env → Heap → Prop} {τ ρ : Env} {h : Heap} : vcOps Try.prog K law1_Names_r10 τ ρ h = vcOps Try.prog K [
  ⟨some (27, true), .binOp .lss 3 (.tmp 26) (.tmp 25) 3, 0, none, true⟩] τ ρ h := _root_.id rfl
def law1_Names_r11 : List Sop := [
  ⟨some (28, false), .move (.tmp 26), 3, none, true⟩,
  ⟨some (29, false), .indexAddr 22 (.tmp 24) (.tmp 26), 0, none, true⟩,
  ⟨some (30, false), .load 3 (.tmp 29), 3, none, true⟩,
  ⟨some (5, true), .assign (.tmp 28), 3, none, true⟩,
  ⟨some (6, true), .assign (.tmp 30), 3, none, true⟩]
theorem law1_Names_r11_go {K : Env → Heap → Prop} {τ ρ : Env} {h : Heap} : vcOps Try.prog K law1_Names_r11 τ ρ h = vcOps Try.prog K [
  ⟨some (28, false), .move (.tmp 26), 3, none, true⟩,
  ⟨some (29, false), .indexAddr 22 (.tmp 24) (.tmp 26), 0, none, true⟩,
  ⟨some (30, false), .load 3 (.tmp 29), 3, none, true⟩,
  ⟨some (5, true), .assign (.tmp 28), 3, none, true⟩,
  ⟨some (6, true), .assign (.tmp 30), 3, none, true⟩] τ ρ h := _root_.id rfl
def law1_Names_r12 : List Sop := [
  ⟨some (31, false), .move (.tmp 6), 3, none, true⟩,
  ⟨some (32, false), .move (.tmp 5), 3, none, true⟩,
  ⟨some (33, true), .binOp .neq 3 (.tmp 31) (.tmp 32) 3, 4, none, true⟩]
theorem law1_Names_r12_go {K : Env → Heap → Prop} {τ ρ : Env} {h : Heap} : vcOps Try.prog K law1_Names_r12 τ ρ h = vcOps Try.prog K [
  ⟨some (31, false), .move (.tmp 6), 3, none, true⟩,
  ⟨some (32, false), .move (.tmp 5), 3, none, true⟩,
  ⟨some (33, true), .binOp .neq 3 (.tmp 31) (.tmp 32) 3, 4, none, true⟩] τ ρ h := _root_.id rfl
def law1_Names_r13 : List Sop := [
  ⟨some (0, true), .assign (.const (.bool false)), 4, none, true⟩]
theorem law1_Names_r13_go {K : Env → Heap → Prop} {τ ρ : Env} {h : Heap} : vcOps Try.prog K law1_Names_r13 τ ρ h = vcOps Try.prog K [
  ⟨some (0, true), .assign (.const (.bool false)), 4, none, true⟩] τ ρ h := _root_.id rfl
def law1_Names_r14 : List Sop := [
  ⟨some (34, false), .binOp .add 3 (.tmp 26) (.const (.int .i64 1)) 3, 3, none, true⟩,
  ⟨some (26, true), .move (.tmp 34), 3, none, true⟩]
theorem law1_Names_r14_go {K : Env → Heap → Prop} {τ ρ : Env} {h : Heap} : vcOps Try.prog K law1_Names_r14 τ ρ h = vcOps Try.prog K [
  ⟨some (34, false), .binOp .add 3 (.tmp 26) (.const (.int .i64 1)) 3, 3, none, true⟩,
  ⟨some (26, true), .move (.tmp 34), 3, none, true⟩] τ ρ h := _root_.id rfl
def law1_Names_r15 : List Sop := [
  ⟨some (0, true), .assign (.const (.bool false)), 4, none, true⟩]
theorem law1_Names_r15_go {K : Env → Heap → Prop} {τ ρ : Env} {h : Heap} : vcOps Try.prog K law1_Names_r15 τ ρ h = vcOps Try.prog K [
  ⟨some (0, true), .assign (.const (.bool false)), 4, none, true⟩] τ ρ h := _root_.id rfl
def law1_Names_r16 : List Sop := [
  ⟨some (35, true), .buildSlice 22 10 #[(0, .const (.int .i64 3)), (1, .const (.int .i64 4)), (2, .const (.int .i64 5)), (3, .const (.int .i64 6)), (4, .const (.int .i64 7)), (5, .const (.int .i64 8)), (6, .const (.int .i64 9)), (7, .const (.int .i64 10)), (8, .const (.int .i64 11)), (9, .const (.int .i64 12))], 22, none, false⟩,
  ⟨some (36, true), .call { callee := .builtin .len, args := #[.tmp 35], argTypes := #[22] }, 3, none, true⟩,
  ⟨some (37, true), .move (.const (.int .i64 0)), 3, none, true⟩]
theorem law1_Names_r16_go {K : Env → Heap → Prop} {τ ρ : Env} {h : Heap} : vcOps Try.prog K law1_Names_r16 τ ρ h = vcOps Try.prog K [
  ⟨some (35, true), .buildSlice 22 10 #[(0, .const (.int .i64 3)), (1, .const (.int .i64 4)), (2, .const (.int .i64 5)), (3, .const (.int .i64 6)), (4, .const (.int .i64 7)), (5, .const (.int .i64 8)), (6, .const (.int .i64 9)), (7, .const (.int .i64 10)), (8, .const (.int .i64 11)), (9, .const (.int .i64 12))], 22, none, false⟩,
  ⟨some (36, true), .call { callee := .builtin .len, args := #[.tmp 35], argTypes := #[22] }, 3, none, true⟩,
  ⟨some (37, true), .move (.const (.int .i64 0)), 3, none, true⟩] τ ρ h := _root_.id rfl
def law1_Names_r17 : List Sop := [
  ⟨some (38, true), .binOp .lss 3 (.tmp 37) (.tmp 36) 3, 0, none, true⟩]
theorem law1_Names_r17_go {K : Env → Heap → Prop} {τ ρ : Env} {h : Heap} : vcOps Try.prog K law1_Names_r17 τ ρ h = vcOps Try.prog K [
  ⟨some (38, true), .binOp .lss 3 (.tmp 37) (.tmp 36) 3, 0, none, true⟩] τ ρ h := _root_.id rfl
def law1_Names_r18 : List Sop := [
  ⟨some (39, false), .move (.tmp 37), 3, none, true⟩,
  ⟨some (40, false), .indexAddr 22 (.tmp 35) (.tmp 37), 0, none, true⟩,
  ⟨some (41, false), .load 3 (.tmp 40), 3, none, true⟩,
  ⟨some (7, true), .assign (.tmp 39), 3, none, true⟩,
  ⟨some (8, true), .assign (.tmp 41), 3, none, true⟩]
theorem law1_Names_r18_go {K : Env → Heap → Prop} {τ ρ : Env} {h : Heap} : vcOps Try.prog K law1_Names_r18 τ ρ h = vcOps Try.prog K [
  ⟨some (39, false), .move (.tmp 37), 3, none, true⟩,
  ⟨some (40, false), .indexAddr 22 (.tmp 35) (.tmp 37), 0, none, true⟩,
  ⟨some (41, false), .load 3 (.tmp 40), 3, none, true⟩,
  ⟨some (7, true), .assign (.tmp 39), 3, none, true⟩,
  ⟨some (8, true), .assign (.tmp 41), 3, none, true⟩] τ ρ h := _root_.id rfl
def law1_Names_r19 : List Sop := [
  ⟨some (42, false), .move (.tmp 8), 3, none, true⟩,
  ⟨some (43, false), .move (.tmp 7), 3, none, true⟩,
  ⟨some (44, false), .binOp .add 3 (.tmp 43) (.const (.int .i64 3)) 3, 3, none, true⟩,
  ⟨some (45, true), .binOp .neq 3 (.tmp 42) (.tmp 44) 3, 4, none, true⟩]
theorem law1_Names_r19_go {K : Env → Heap → Prop} {τ ρ : Env} {h : Heap} : vcOps Try.prog K law1_Names_r19 τ ρ h = vcOps Try.prog K [
  ⟨some (42, false), .move (.tmp 8), 3, none, true⟩,
  ⟨some (43, false), .move (.tmp 7), 3, none, true⟩,
  ⟨some (44, false), .binOp .add 3 (.tmp 43) (.const (.int .i64 3)) 3, 3, none, true⟩,
  ⟨some (45, true), .binOp .neq 3 (.tmp 42) (.tmp 44) 3, 4, none, true⟩] τ ρ h := _root_.id rfl
def law1_Names_r20 : List Sop := [
  ⟨some (0, true), .assign (.const (.bool false)), 4, none, true⟩]
theorem law1_Names_r20_go {K : Env → Heap → Prop} {τ ρ : Env} {h : Heap} : vcOps Try.prog K law1_Names_r20 τ ρ h = vcOps Try.prog K [
  ⟨some (0, true), .assign (.const (.bool false)), 4, none, true⟩] τ ρ h := _root_.id rfl
def law1_Names_r21 : List Sop := [
  ⟨some (46, false), .binOp .add 3 (.tmp 37) (.const (.int .i64 1)) 3, 3, none, true⟩,
  ⟨some (37, true), .move (.tmp 46), 3, none, true⟩]
theorem law1_Names_r21_go {K : Env → Heap → Prop} {τ ρ : Env} {h : Heap} : vcOps Try.prog K law1_Names_r21 τ ρ h = vcOps Try.prog K [
  ⟨some (46, false), .binOp .add 3 (.tmp 37) (.const (.int .i64 1)) 3, 3, none, true⟩,
  ⟨some (37, true), .move (.tmp 46), 3, none, true⟩] τ ρ h := _root_.id rfl
def law1_Names_r22 : List Sop := [
  ⟨some (47, true), .buildSlice 22 11 #[(0, .const (.int .i64 1)), (1, .const (.int .i64 2)), (2, .const (.int .i64 4)), (3, .const (.int .i64 8)), (4, .const (.int .i64 16)), (5, .const (.int .i64 32)), (6, .const (.int .i64 64)), (7, .const (.int .i64 128)), (8, .const (.int .i64 256)), (9, .const (.int .i64 512)), (10, .const (.int .i64 1024))], 22, none, false⟩,
  ⟨some (48, true), .call { callee := .builtin .len, args := #[.tmp 47], argTypes := #[22] }, 3, none, true⟩,
  ⟨some (49, true), .move (.const (.int .i64 0)), 3, none, true⟩]
theorem law1_Names_r22_go {K : Env → Heap → Prop} {τ ρ : Env} {h : Heap} : vcOps Try.prog K law1_Names_r22 τ ρ h = vcOps Try.prog K [
  ⟨some (47, true), .buildSlice 22 11 #[(0, .const (.int .i64 1)), (1, .const (.int .i64 2)), (2, .const (.int .i64 4)), (3, .const (.int .i64 8)), (4, .const (.int .i64 16)), (5, .const (.int .i64 32)), (6, .const (.int .i64 64)), (7, .const (.int .i64 128)), (8, .const (.int .i64 256)), (9, .const (.int .i64 512)), (10, .const (.int .i64 1024))], 22, none, false⟩,
  ⟨some (48, true), .call { callee := .builtin .len, args := #[.tmp 47], argTypes := #[22] }, 3, none, true⟩,
  ⟨some (49, true), .move (.const (.int .i64 0)), 3, none, true⟩] τ ρ h := _root_.id rfl
def law1_Names_r23 : List Sop := [
  ⟨some (50, true), .binOp .lss 3 (.tmp 49) (.tmp 48) 3, 0, none, true⟩]
theorem law1_Names_r23_go {K : Env → Heap → Prop} {τ ρ : Env} {h : Heap} : vcOps Try.prog K law1_Names_r23 τ ρ h = vcOps Try.prog K [
  ⟨some (50, true), .binOp .lss 3 (.tmp 49) (.tmp 48) 3, 0, none, true⟩] τ ρ h := _root_.id rfl
def law1_Names_r24 : List Sop := [
  ⟨some (51, false), .move (.tmp 49), 3, none, true⟩,
  ⟨some (52, false), .indexAddr 22 (.tmp 47) (.tmp 49), 0, none, true⟩,
  ⟨some (53, false), .load 3 (.tmp 52), 3, none, true⟩,
  ⟨some (9, true), .assign (.tmp 51), 3, none, true⟩,
  ⟨some (10, true), .assign (.tmp 53), 3, none, true⟩]
theorem law1_Names_r24_go {K : Env → Heap → Prop} {τ ρ : Env} {h : Heap} : vcOps Try.prog K law1_Names_r24 τ ρ h = vcOps Try.prog K [
  ⟨some (51, false), .move (.tmp 49), 3, none, true⟩,
  ⟨some (52, false), .indexAddr 22 (.tmp 47) (.tmp 49), 0, none, true⟩,
  ⟨some (53, false), .load 3 (.tmp 52), 3, none, true⟩,
  ⟨some (9, true), .assign (.tmp 51), 3, none, true⟩,
  ⟨some (10, true), .assign (.tmp 53), 3, none, true⟩] τ ρ h := _root_.id rfl
def law1_Names_r25 : List Sop := [
  ⟨some (54, false), .move (.tmp 10), 3, none, true⟩,
  ⟨some (55, false), .move (.tmp 9), 3, none, true⟩,
  ⟨some (56, false), .binOp .shl 3 (.const (.int .i64 1)) (.tmp 55) 3, 3, none, true⟩,
  ⟨some (57, true), .binOp .neq 3 (.tmp 54) (.tmp 56) 3, 4, none, true⟩]
theorem law1_Names_r25_go {K : Env → Heap → Prop} {τ ρ : Env} {h : Heap} : vcOps Try.prog K law1_Names_r25 τ ρ h = vcOps Try.prog K [
  ⟨some (54, false), .move (.tmp 10), 3, none, true⟩,
  ⟨some (55, false), .move (.tmp 9), 3, none, true⟩,
  ⟨some (56, false), .binOp .shl 3 (.const (.int .i64 1)) (.tmp 55) 3, 3, none, true⟩,
  ⟨some (57, true), .binOp .neq 3 (.tmp 54) (.tmp 56) 3, 4, none, true⟩] τ ρ h := _root_.id rfl
def law1_Names_r26 : List Sop := [
  ⟨some (0, true), .assign (.const (.bool false)), 4, none, true⟩]
theorem law1_Names_r26_go {K : Env → Heap → Prop} {τ ρ : Env} {h : Heap} : vcOps Try.prog K law1_Names_r26 τ ρ h = vcOps Try.prog K [
  ⟨some (0, true), .assign (.const (.bool false)), 4, none, true⟩] τ ρ h := _root_.id rfl
def law1_Names_r27 : List Sop := [
  ⟨some (58, false), .binOp .add 3 (.tmp 49) (.const (.int .i64 1)) 3, 3, none, true⟩,
  ⟨some (49, true), .move (.tmp 58), 3, none, true⟩]
theorem law1_Names_r27_go {K : Env → Heap → Prop} {τ ρ : Env} {h : Heap} : vcOps Try.prog K law1_Names_r27 τ ρ h = vcOps Try.prog K [
  ⟨some (58, false), .binOp .add 3 (.tmp 49) (.const (.int .i64 1)) 3, 3, none, true⟩,
  ⟨some (49, true), .move (.tmp 58), 3, none, true⟩] τ ρ h := _root_.id rfl
def law1_Names_r28 : List Sop := [
  ⟨some (0, true), .assign (.const (.bool true)), 4, none, true⟩]
theorem law1_Names_r28_go {K : Env → Heap → Prop} {τ ρ : Env} {h : Heap} : vcOps Try.prog K law1_Names_r28 τ ρ h = vcOps Try.prog K [
  ⟨some (0, true), .assign (.const (.bool true)), 4, none, true⟩] τ ρ h := _root_.id rfl
def law1_Names_l0 : Cd := .seq (.region law1_Names_r3) (.seq (.cond (.tmp 15) (.skip) (.exit 0)) (.seq (.block 1 (.seq (.region law1_Names_r4) (.seq (.region law1_Names_r5) (.cond (.tmp 21) (.seq (.region law1_Names_r6) (.ret)) (.skip))))) (.region law1_Names_r7)))
theorem law1_Names_l0_go {Q : Ex → Env → Heap → Prop} {ρ : Env} {h : Heap} : Cd.vc Try.prog law1_Names_l0 Q ρ h = Cd.vc Try.prog (.seq (.region law1_Names_r3) (.seq (.cond (.tmp 15) (.skip) (.exit 0)) (.seq (.block 1 (.seq (.region law1_Names_r4) (.seq (.region law1_Names_r5) (.cond (.tmp 21) (.seq (.region law1_Names_r6) (.ret)) (.skip))))) (.region law1_Names_r7)))) Q ρ h := _root_.id rfl
def law1_Names_l1 : Cd := .seq (.region law1_Names_r10) (.seq (.cond (.tmp 27) (.skip) (.exit 2)) (.seq (.block 3 (.seq (.region law1_Names_r11) (.seq (.region law1_Names_r12) (.cond (.tmp 33) (.seq (.region law1_Names_r13) (.ret)) (.skip))))) (.region law1_Names_r14)))
theorem law1_Names_l1_go {Q : Ex → Env → Heap → Prop} {ρ : Env} {h : Heap} : Cd.vc Try.prog law1_Names_l1 Q ρ h = Cd.vc Try.prog (.seq (.region law1_Names_r10) (.seq (.cond (.tmp 27) (.skip) (.exit 2)) (.seq (.block 3 (.seq (.region law1_Names_r11) (.seq (.region law1_Names_r12) (.cond (.tmp 33) (.seq (.region law1_Names_r13) (.ret)) (.skip))))) (.region law1_Names_r14)))) Q ρ h := _root_.id rfl
def law1_Names_l2 : Cd := .seq (.region law1_Names_r17) (.seq (.cond (.tmp 38) (.skip) (.exit 4)) (.seq (.block 5 (.seq (.region law1_Names_r18) (.seq (.region law1_Names_r19) (.cond (.tmp 45) (.seq (.region law1_Names_r20) (.ret)) (.skip))))) (.region law1_Names_r21)))
theorem law1_Names_l2_go {Q : Ex → Env → Heap → Prop} {ρ : Env} {h : Heap} : Cd.vc Try.prog law1_Names_l2 Q ρ h = Cd.vc Try.prog (.seq (.region law1_Names_r17) (.seq (.cond (.tmp 38) (.skip) (.exit 4)) (.seq (.block 5 (.seq (.region law1_Names_r18) (.seq (.region law1_Names_r19) (.cond (.tmp 45) (.seq (.region law1_Names_r20) (.ret)) (.skip))))) (.region law1_Names_r21)))) Q ρ h := _root_.id rfl
def law1_Names_l3 : Cd := .seq (.region law1_Names_r23) (.seq (.cond (.tmp 50) (.skip) (.exit 6)) (.seq (.block 7 (.seq (.region law1_Names_r24) (.seq (.region law1_Names_r25) (.cond (.tmp 57) (.seq (.region law1_Names_r26) (.ret)) (.skip))))) (.region law1_Names_r27)))
theorem law1_Names_l3_go {Q : Ex → Env → Heap → Prop} {ρ : Env} {h : Heap} : Cd.vc Try.prog law1_Names_l3 Q ρ h = Cd.vc Try.prog (.seq (.region law1_Names_r23) (.seq (.cond (.tmp 50) (.skip) (.exit 6)) (.seq (.block 7 (.seq (.region law1_Names_r24) (.seq (.region law1_Names_r25) (.cond (.tmp 57) (.seq (.region law1_Names_r26) (.ret)) (.skip))))) (.region law1_Names_r27)))) Q ρ h := _root_.id rfl
def law1_Names : Cd := .seq (.region law1_Names_r0) (.seq (.region law1_Names_r1) (.seq (.seq (.region law1_Names_r2) (.block 0 (.loop law1_Names_l0))) (.seq (.region law1_Names_r8) (.seq (.seq (.region law1_Names_r9) (.block 2 (.loop law1_Names_l1))) (.seq (.cond (.const (.bool false)) (.seq (.region law1_Names_r15) (.ret)) (.skip)) (.seq (.seq (.region law1_Names_r16) (.block 4 (.loop law1_Names_l2))) (.seq (.seq (.region law1_Names_r22) (.block 6 (.loop law1_Names_l3))) (.seq (.region law1_Names_r28) (.ret)))))))))
theorem law1_Names_go {Q : Ex → Env → Heap → Prop} {ρ : Env} {h : Heap} : Cd.vc Try.prog law1_Names Q ρ h = Cd.vc Try.prog (.seq (.region law1_Names_r0) (.seq (.region law1_Names_r1) (.seq (.seq (.region law1_Names_r2) (.block 0 (.loop law1_Names_l0))) (.seq (.region law1_Names_r8) (.seq (.seq (.region law1_Names_r9) (.block 2 (.loop law1_Names_l1))) (.seq (.cond (.const (.bool false)) (.seq (.region law1_Names_r15) (.ret)) (.skip)) (.seq (.seq (.region law1_Names_r16) (.block 4 (.loop law1_Names_l2))) (.seq (.seq (.region law1_Names_r22) (.block 6 (.loop law1_Names_l3))) (.seq (.region law1_Names_r28) (.ret)))))))))) Q ρ h := _root_.id rfl
theorem law1_Names_calls {args : List Value} {h : Heap} {R : Value → Heap → Prop} (hl : args.length = 0) (hv : Cd.vc Try.prog law1_Names (retQ Try.prog [(0, none)] R) (initEnv args [0, 1, 2, 3, 4, 5, 6, 7, 8, 9, 10, 12, 13, 14, 15, 21, 24, 25, 26, 27, 33, 35, 36, 37, 38, 45, 47, 48, 49, 50, 57]) h) : HCalls Try.prog 3 args.toArray h R :=
  hcalls_of_vc (by kernel_rfl) Try.func3 (cd := law1_Names) (L := [0, 1, 2, 3, 4, 5, 6, 7, 8, 9, 10, 12, 13, 14, 15, 21, 24, 25, 26, 27, 33, 35, 36, 37, 38, 45, 47, 48, 49, 50, 57]) (by kernel_rfl) (by kernel_rfl) ⟨by rw [hl, Try.ntmps3]; decide, by rw [Try.ntmps3]; decide⟩ hv
def law1_Names_gos := And.intro @law1_Names_go (And.intro @law1_Names_r0_go (And.intro @law1_Names_r1_go (And.intro @law1_Names_r2_go (And.intro @law1_Names_r3_go (And.intro @law1_Names_r4_go (And.intro @law1_Names_r5_go (And.intro @law1_Names_r6_go (And.intro @law1_Names_r7_go (And.intro @law1_Names_r8_go (And.intro @law1_Names_r9_go (And.intro @law1_Names_r10_go (And.intro @law1_Names_r11_go (And.intro @law1_Names_r12_go (And.intro @law1_Names_r13_go (And.intro @law1_Names_r14_go (And.intro @law1_Names_r15_go (And.intro @law1_Names_r16_go (And.intro @law1_Names_r17_go (And.intro @law1_Names_r18_go (And.intro @law1_Names_r19_go (And.intro @law1_Names_r20_go (And.intro @law1_Names_r21_go (And.intro @law1_Names_r22_go (And.intro @law1_Names_r23_go (And.intro @law1_Names_r24_go (And.intro @law1_Names_r25_go (And.intro @law1_Names_r26_go (And.intro @law1_Names_r27_go (And.intro @law1_Names_r28_go (And.intro @law1_Names_l0_go (And.intro @law1_Names_l1_go (And.intro @law1_Names_l2_go (@law1_Names_l3_go)))))))))))))))))))))))))))))))))

/-! jvmcore/jvmcorelaw1.PoolUnits: function 4: slots [0, 2, 3, 4, 5, 6, 7, 10, 30, 32, 33, 34, 45] -/
def law1_PoolUnits_r0 : List Sop := [
  ⟨some (2, true), .assign (.const (.bool false)), 4, none, true⟩]
theorem law1_PoolUnits_r0_go {K : Env → Heap → Prop} {τ ρ : Env} {h : Heap} : vcOps Try.prog K law1_PoolUnits_r0 τ ρ h = vcOps Try.prog K [
  ⟨some (2, true), .assign (.const (.bool false)), 4, none, true⟩] τ ρ h := _root_.id rfl
def law1_PoolUnits_r1 : List Sop := [
  ⟨some (8, false), .move (.tmp 0), 9, none, true⟩,
  ⟨some (9, false), .call { callee := .builtin .len, args := #[.tmp 8], argTypes := #[9] }, 3, none, true⟩,
  ⟨some (10, true), .binOp .gtr 3 (.tmp 9) (.const (.int .i64 32768)) 3, 4, none, true⟩]
theorem law1_PoolUnits_r1_go {K : Env → Heap → Prop} {τ ρ : Env} {h : Heap} : vcOps Try.prog K law1_PoolUnits_r1 τ ρ h = vcOps Try.prog K [
  ⟨some (8, false), .move (.tmp 0), 9, none, true⟩,
  ⟨some (9, false), .call { callee := .builtin .len, args := #[.tmp 8], argTypes := #[9] }, 3, none, true⟩,
  ⟨some (10, true), .binOp .gtr 3 (.tmp 9) (.const (.int .i64 32768)) 3, 4, none, true⟩] τ ρ h := _root_.id rfl
def law1_PoolUnits_r2 : List Sop := [
  ⟨some (2, true), .assign (.const (.bool true)), 4, none, true⟩]
theorem law1_PoolUnits_r2_go {K : Env → Heap → Prop} {τ ρ : Env} {h : Heap} : vcOps Try.prog K law1_PoolUnits_r2 τ ρ h = vcOps Try.prog K [
  ⟨some (2, true), .assign (.const (.bool true)), 4, none, true⟩] τ ρ h := _root_.id rfl
def law1_PoolUnits_r3 : List Sop := [
  ⟨some (12, false), .move (.tmp 0), 9, none, true⟩,
  ⟨some (13, false), .call { callee := .value (.func 9), args := #[.tmp 12], argTypes := #[9] }, 25, none, false⟩,
  ⟨some (11, false), .move (.tmp 13), 25, none, true⟩,
  ⟨some (14, false), .extract (.tmp 11) 0, 24, none, true⟩,
  ⟨some (15, false), .extract (.tmp 11) 1, 4, none, true⟩,
  ⟨some (3, true), .assign (.tmp 14), 24, none, true⟩,
  ⟨some (4, true), .assign (.tmp 15), 4, none, true⟩]
theorem law1_PoolUnits_r3_go {K : Env → Heap → Prop} {τ ρ : Env} {h : Heap} : vcOps Try.prog K law1_PoolUnits_r3 τ ρ h = vcOps Try.prog K [
  ⟨some (12, false), .move (.tmp 0), 9, none, true⟩,
  ⟨some (13, false), .call { callee := .value (.func 9), args := #[.tmp 12], argTypes := #[9] }, 25, none, false⟩,
  ⟨some (11, false), .move (.tmp 13), 25, none, true⟩,
  ⟨some (14, false), .extract (.tmp 11) 0, 24, none, true⟩,
  ⟨some (15, false), .extract (.tmp 11) 1, 4, none, true⟩,
  ⟨some (3, true), .assign (.tmp 14), 24, none, true⟩,
  ⟨some (4, true), .assign (.tmp 15), 4, none, true⟩] τ ρ h := _root_.id rfl
def law1_PoolUnits_r4 : List Sop := [
  ⟨some (17, false), .move (.tmp 0), 9, none, true⟩,
  ⟨some (18, false), .call { callee := .value (.func 10), args := #[.tmp 17], argTypes := #[9] }, 27, none, false⟩,
  ⟨some (16, false), .move (.tmp 18), 27, none, true⟩,
  ⟨some (19, false), .extract (.tmp 16) 0, 22, none, true⟩,
  ⟨some (20, false), .extract (.tmp 16) 1, 4, none, true⟩,
  ⟨some (5, true), .assign (.tmp 19), 22, none, true⟩,
  ⟨some (6, true), .assign (.tmp 20), 4, none, true⟩]
theorem law1_PoolUnits_r4_go {K : Env → Heap → Prop} {τ ρ : Env} {h : Heap} : vcOps Try.prog K law1_PoolUnits_r4 τ ρ h = vcOps Try.prog K [
  ⟨some (17, false), .move (.tmp 0), 9, none, true⟩,
  ⟨some (18, false), .call { callee := .value (.func 10), args := #[.tmp 17], argTypes := #[9] }, 27, none, false⟩,
  ⟨some (16, false), .move (.tmp 18), 27, none, true⟩,
  ⟨some (19, false), .extract (.tmp 16) 0, 22, none, true⟩,
  ⟨some (20, false), .extract (.tmp 16) 1, 4, none, true⟩,
  ⟨some (5, true), .assign (.tmp 19), 22, none, true⟩,
  ⟨some (6, true), .assign (.tmp 20), 4, none, true⟩] τ ρ h := _root_.id rfl
def law1_PoolUnits_r5 : List Sop := [
  ⟨some (21, false), .move (.tmp 4), 4, none, true⟩,
  ⟨some (22, false), .move (.tmp 6), 4, none, true⟩,
  ⟨some (23, false), .binOp .neq 4 (.tmp 21) (.tmp 22) 4, 4, none, true⟩,
  ⟨some (24, false), .move (.tmp 23), 4, none, true⟩,
  ⟨some (25, false), .move (.tmp 3), 24, some (24, false), true⟩,
  ⟨some (26, false), .call { callee := .builtin .len, args := #[.tmp 25], argTypes := #[24] }, 3, some (24, false), true⟩,
  ⟨some (27, false), .move (.tmp 5), 22, some (24, false), true⟩,
  ⟨some (28, false), .call { callee := .builtin .len, args := #[.tmp 27], argTypes := #[22] }, 3, some (24, false), true⟩,
  ⟨some (29, false), .binOp .neq 3 (.tmp 26) (.tmp 28) 3, 4, some (24, false), true⟩,
  ⟨some (30, true), .pick (.tmp 24) (.const (.bool true)) (.tmp 29), 4, none, true⟩]
theorem law1_PoolUnits_r5_go {K : Env → Heap → Prop} {τ ρ : Env} {h : Heap} : vcOps Try.prog K law1_PoolUnits_r5 τ ρ h = vcOps Try.prog K [
  ⟨some (21, false), .move (.tmp 4), 4, none, true⟩,
  ⟨some (22, false), .move (.tmp 6), 4, none, true⟩,
  ⟨some (23, false), .binOp .neq 4 (.tmp 21) (.tmp 22) 4, 4, none, true⟩,
  ⟨some (24, false), .move (.tmp 23), 4, none, true⟩,
  ⟨some (25, false), .move (.tmp 3), 24, some (24, false), true⟩,
  ⟨some (26, false), .call { callee := .builtin .len, args := #[.tmp 25], argTypes := #[24] }, 3, some (24, false), true⟩,
  ⟨some (27, false), .move (.tmp 5), 22, some (24, false), true⟩,
  ⟨some (28, false), .call { callee := .builtin .len, args := #[.tmp 27], argTypes := #[22] }, 3, some (24, false), true⟩,
  ⟨some (29, false), .binOp .neq 3 (.tmp 26) (.tmp 28) 3, 4, some (24, false), true⟩,
  ⟨some (30, true), .pick (.tmp 24) (.const (.bool true)) (.tmp 29), 4, none, true⟩] τ ρ h := _root_.id rfl
def law1_PoolUnits_r6 : List Sop := [
  ⟨some (2, true), .assign (.const (.bool false)), 4, none, true⟩]
theorem law1_PoolUnits_r6_go {K : Env → Heap → Prop} {τ ρ : Env} {h : Heap} : vcOps Try.prog K law1_PoolUnits_r6 τ ρ h = vcOps Try.prog K [
  ⟨some (2, true), .assign (.const (.bool false)), 4, none, true⟩] τ ρ h := _root_.id rfl
def law1_PoolUnits_r7 : List Sop := [
  ⟨some (31, false), .move (.tmp 3), 24, none, true⟩,
  ⟨some (32, true), .call { callee := .builtin .len, args := #[.tmp 31], argTypes := #[24] }, 3, none, true⟩,
  ⟨some (33, true), .move (.const (.int .i64 0)), 3, none, true⟩]
theorem law1_PoolUnits_r7_go {K : Env → Heap → Prop} {τ ρ : Env} {h : Heap} : vcOps Try.prog K law1_PoolUnits_r7 τ ρ h = vcOps Try.prog K [
  ⟨some (31, false), .move (.tmp 3), 24, none, true⟩,
  ⟨some (32, true), .call { callee := .builtin .len, args := #[.tmp 31], argTypes := #[24] }, 3, none, true⟩,
  ⟨some (33, true), .move (.const (.int .i64 0)), 3, none, true⟩] τ ρ h := _root_.id rfl
def law1_PoolUnits_r8 : List Sop := [
  ⟨some (34, true), .binOp .lss 3 (.tmp 33) (.tmp 32) 3, 0, none, true⟩]
theorem law1_PoolUnits_r8_go {K : Env → Heap → Prop} {τ ρ : Env} {h : Heap} : vcOps Try.prog K law1_PoolUnits_r8 τ ρ h = vcOps Try.prog K [
  ⟨some (34, true), .binOp .lss 3 (.tmp 33) (.tmp 32) 3, 0, none, true⟩] τ ρ h := _root_.id rfl
def law1_PoolUnits_r9 : List Sop := [
  ⟨some (35, false), .move (.tmp 33), 3, none, true⟩,
  ⟨some (7, true), .assign (.tmp 35), 3, none, true⟩]
theorem law1_PoolUnits_r9_go {K : Env → Heap → Prop} {τ ρ : Env} {h : Heap} : vcOps Try.prog K law1_PoolUnits_r9 τ ρ h = vcOps Try.prog K [
  ⟨some (35, false), .move (.tmp 33), 3, none, true⟩,
  ⟨some (7, true), .assign (.tmp 35), 3, none, true⟩] τ ρ h := _root_.id rfl
def law1_PoolUnits_r10 : List (Sop × List Sop) := [
  (⟨some (36, false), .move (.tmp 3), 24, none, true⟩, []),
  (⟨some (37, false), .move (.tmp 7), 3, none, true⟩, []),
  (⟨some (38, false), .indexAddr 24 (.tmp 36) (.tmp 37), 0, none, true⟩, []),
  (⟨some (39, false), .load 29 (.tmp 38), 29, none, true⟩, []),
  (⟨some (40, false), .convert 29 3 (.tmp 39), 3, none, true⟩, []),
  (⟨some (41, false), .move (.tmp 5), 22, none, true⟩, []),
  (⟨some (42, false), .move (.tmp 7), 3, none, true⟩, []),
  (⟨some (43, false), .indexAddr 22 (.tmp 41) (.tmp 42), 0, none, true⟩, []),
  (⟨some (44, false), .load 3 (.tmp 43), 3, none, true⟩, []),
  (⟨some (45, true), .binOp .neq 3 (.tmp 40) (.tmp 44) 3, 4, none, true⟩, [])]
theorem law1_PoolUnits_r10_go {K : Env → Heap → Prop} {τ ρ : Env} {h : Heap} : vcDraw Try.prog K law1_PoolUnits_r10 τ ρ h = vcDraw Try.prog K [
  (⟨some (36, false), .move (.tmp 3), 24, none, true⟩, []),
  (⟨some (37, false), .move (.tmp 7), 3, none, true⟩, []),
  (⟨some (38, false), .indexAddr 24 (.tmp 36) (.tmp 37), 0, none, true⟩, []),
  (⟨some (39, false), .load 29 (.tmp 38), 29, none, true⟩, []),
  (⟨some (40, false), .convert 29 3 (.tmp 39), 3, none, true⟩, []),
  (⟨some (41, false), .move (.tmp 5), 22, none, true⟩, []),
  (⟨some (42, false), .move (.tmp 7), 3, none, true⟩, []),
  (⟨some (43, false), .indexAddr 22 (.tmp 41) (.tmp 42), 0, none, true⟩, []),
  (⟨some (44, false), .load 3 (.tmp 43), 3, none, true⟩, []),
  (⟨some (45, true), .binOp .neq 3 (.tmp 40) (.tmp 44) 3, 4, none, true⟩, [])] τ ρ h := _root_.id rfl
def law1_PoolUnits_r11 : List Sop := [
  ⟨some (2, true), .assign (.const (.bool false)), 4, none, true⟩]
theorem law1_PoolUnits_r11_go {K : Env → Heap → Prop} {τ ρ : Env} {h : Heap} : vcOps Try.prog K law1_PoolUnits_r11 τ ρ h = vcOps Try.prog K [
  ⟨some (2, true), .assign (.const (.bool false)), 4, none, true⟩] τ ρ h := _root_.id rfl
def law1_PoolUnits_r12 : List Sop := [
  ⟨some (46, false), .binOp .add 3 (.tmp 33) (.const (.int .i64 1)) 3, 3, none, true⟩,
  ⟨some (33, true), .move (.tmp 46), 3, none, true⟩]
theorem law1_PoolUnits_r12_go {K : Env → Heap → Prop} {τ ρ : Env} {h : Heap} : vcOps Try.prog K law1_PoolUnits_r12 τ ρ h = vcOps Try.prog K [
  ⟨some (46, false), .binOp .add 3 (.tmp 33) (.const (.int .i64 1)) 3, 3, none, true⟩,
  ⟨some (33, true), .move (.tmp 46), 3, none, true⟩] τ ρ h := _root_.id rfl
def law1_PoolUnits_r13 : List Sop := [
  ⟨some (47, false), .move (.tmp 4), 4, none, true⟩,
  ⟨some (48, false), .unOp .not 4 (.tmp 47), 4, none, true⟩,
  ⟨some (49, false), .move (.tmp 48), 4, none, true⟩,
  ⟨some (50, false), .move (.tmp 3), 24, some (49, false), true⟩,
  ⟨some (51, false), .call { callee := .value (.func 11), args := #[.tmp 50], argTypes := #[24] }, 9, some (49, false), false⟩,
  ⟨some (52, false), .move (.tmp 0), 9, some (49, false), true⟩,
  ⟨some (53, false), .binOp .eql 9 (.tmp 51) (.tmp 52) 9, 4, some (49, false), true⟩,
  ⟨some (54, false), .pick (.tmp 49) (.const (.bool true)) (.tmp 53), 4, none, true⟩,
  ⟨some (2, true), .assign (.tmp 54), 4, none, true⟩]
theorem law1_PoolUnits_r13_go {K : Env → Heap → Prop} {τ ρ : Env} {h : Heap} : vcOps Try.prog K law1_PoolUnits_r13 τ ρ h = vcOps Try.prog K [
  ⟨some (47, false), .move (.tmp 4), 4, none, true⟩,
  ⟨some (48, false), .unOp .not 4 (.tmp 47), 4, none, true⟩,
  ⟨some (49, false), .move (.tmp 48), 4, none, true⟩,
  ⟨some (50, false), .move (.tmp 3), 24, some (49, false), true⟩,
  ⟨some (51, false), .call { callee := .value (.func 11), args := #[.tmp 50], argTypes := #[24] }, 9, some (49, false), false⟩,
  ⟨some (52, false), .move (.tmp 0), 9, some (49, false), true⟩,
  ⟨some (53, false), .binOp .eql 9 (.tmp 51) (.tmp 52) 9, 4, some (49, false), true⟩,
  ⟨some (54, false), .pick (.tmp 49) (.const (.bool true)) (.tmp 53), 4, none, true⟩,
  ⟨some (2, true), .assign (.tmp 54), 4, none, true⟩] τ ρ h := _root_.id rfl
def law1_PoolUnits_l0 : Cd := .seq (.region law1_PoolUnits_r8) (.seq (.cond (.tmp 34) (.skip) (.exit 0)) (.seq (.block 1 (.seq (.region law1_PoolUnits_r9) (.seq (.draw law1_PoolUnits_r10) (.cond (.tmp 45) (.seq (.region law1_PoolUnits_r11) (.ret)) (.skip))))) (.region law1_PoolUnits_r12)))
theorem law1_PoolUnits_l0_go {Q : Ex → Env → Heap → Prop} {ρ : Env} {h : Heap} : Cd.vc Try.prog law1_PoolUnits_l0 Q ρ h = Cd.vc Try.prog (.seq (.region law1_PoolUnits_r8) (.seq (.cond (.tmp 34) (.skip) (.exit 0)) (.seq (.block 1 (.seq (.region law1_PoolUnits_r9) (.seq (.draw law1_PoolUnits_r10) (.cond (.tmp 45) (.seq (.region law1_PoolUnits_r11) (.ret)) (.skip))))) (.region law1_PoolUnits_r12)))) Q ρ h := _root_.id rfl
def law1_PoolUnits : Cd := .seq (.region law1_PoolUnits_r0) (.seq (.seq (.region law1_PoolUnits_r1) (.cond (.tmp 10) (.seq (.region law1_PoolUnits_r2) (.ret)) (.skip))) (.seq (.region law1_PoolUnits_r3) (.seq (.region law1_PoolUnits_r4) (.seq (.seq (.region law1_PoolUnits_r5) (.cond (.tmp 30) (.seq (.region law1_PoolUnits_r6) (.ret)) (.skip))) (.seq (.seq (.region law1_PoolUnits_r7) (.block 0 (.loop law1_PoolUnits_l0))) (.seq (.region law1_PoolUnits_r13) (.ret)))))))
theorem law1_PoolUnits_go {Q : Ex → Env → Heap → Prop} {ρ : Env} {h : Heap} : Cd.vc Try.prog law1_PoolUnits Q ρ h = Cd.vc Try.prog (.seq (.region law1_PoolUnits_r0) (.seq (.seq (.region law1_PoolUnits_r1) (.cond (.tmp 10) (.seq (.region law1_PoolUnits_r2) (.ret)) (.skip))) (.seq (.region law1_PoolUnits_r3) (.seq (.region law1_PoolUnits_r4) (.seq (.seq (.region law1_PoolUnits_r5) (.cond (.tmp 30) (.seq (.region law1_PoolUnits_r6) (.ret)) (.skip))) (.seq (.seq (.region law1_PoolUnits_r7) (.block 0 (.loop law1_PoolUnits_l0))) (.seq (.region law1_PoolUnits_r13) (.ret)))))))) Q ρ h := _root_.id rfl
theorem law1_PoolUnits_calls {args : List Value} {h : Heap} {R : Value → Heap → Prop} (hl : args.length = 1) (hv : Cd.vc Try.prog law1_PoolUnits (retQ Try.prog [(2, none)] R) (initEnv args [0, 2, 3, 4, 5, 6, 7, 10, 30, 32, 33, 34, 45]) h) : HCalls Try.prog 4 args.toArray h R :=
  hcalls_of_vc (by kernel_rfl) Try.func4 (cd := law1_PoolUnits) (L := [0, 2, 3, 4, 5, 6, 7, 10, 30, 32, 33, 34, 45]) (by kernel_rfl) (by kernel_rfl) ⟨by rw [hl, Try.ntmps4]; decide, by rw [Try.ntmps4]; decide⟩ hv
def law1_PoolUnits_gos := And.intro @law1_PoolUnits_go (And.intro @law1_PoolUnits_r0_go (And.intro @law1_PoolUnits_r1_go (And.intro @law1_PoolUnits_r2_go (And.intro @law1_PoolUnits_r3_go (And.intro @law1_PoolUnits_r4_go (And.intro @law1_PoolUnits_r5_go (And.intro @law1_PoolUnits_r6_go (And.intro @law1_PoolUnits_r7_go (And.intro @law1_PoolUnits_r8_go (And.intro @law1_PoolUnits_r9_go (And.intro @law1_PoolUnits_r10_go (And.intro @law1_PoolUnits_r11_go (And.intro @law1_PoolUnits_r12_go (And.intro @law1_PoolUnits_r13_go (@law1_PoolUnits_l0_go)))))))))))))))

/-! jvmcore/jvmcorelaw1.PoolTexts: function 5: slots [0, 2, 3, 5, 6, 7, 8, 9, 12, 13, 14, 15, 16, 46, 48, 49, 50, 60] -/
def law1_PoolTexts_r0 : List Sop := [
  ⟨some (2, true), .assign (.const (.bool false)), 4, none, true⟩]
theorem law1_PoolTexts_r0_go {K : Env → Heap → Prop} {τ ρ : Env} {h : Heap} : vcOps Try.prog K law1_PoolTexts_r0 τ ρ h = vcOps Try.prog K [
  ⟨some (2, true), .assign (.const (.bool false)), 4, none, true⟩] τ ρ h := _root_.id rfl
def law1_PoolTexts_r1 : List Sop := [
  ⟨some (10, false), .move (.tmp 0), 24, none, true⟩,
  ⟨some (11, false), .call { callee := .builtin .len, args := #[.tmp 10], argTypes := #[24] }, 3, none, true⟩,
  ⟨some (12, true), .binOp .gtr 3 (.tmp 11) (.const (.int .i64 32768)) 3, 4, none, true⟩]
theorem law1_PoolTexts_r1_go {K : Env → Heap → Prop} {τ ρ : Env} {h : Heap} : vcOps Try.prog K law1_PoolTexts_r1 τ ρ h = vcOps Try.prog K [
  ⟨some (10, false), .move (.tmp 0), 24, none, true⟩,
  ⟨some (11, false), .call { callee := .builtin .len, args := #[.tmp 10], argTypes := #[24] }, 3, none, true⟩,
  ⟨some (12, true), .binOp .gtr 3 (.tmp 11) (.const (.int .i64 32768)) 3, 4, none, true⟩] τ ρ h := _root_.id rfl
def law1_PoolTexts_r2 : List Sop := [
  ⟨some (2, true), .assign (.const (.bool true)), 4, none, true⟩]
theorem law1_PoolTexts_r2_go {K : Env → Heap → Prop} {τ ρ : Env} {h : Heap} : vcOps Try.prog K law1_PoolTexts_r2 τ ρ h = vcOps Try.prog K [
  ⟨some (2, true), .assign (.const (.bool true)), 4, none, true⟩] τ ρ h := _root_.id rfl
def law1_PoolTexts_r3 : List Sop := [
  ⟨some (3, true), .assign (.const (.slice none 0 0)), 22, none, true⟩]
theorem law1_PoolTexts_r3_go {K : Env → Heap → Prop} {τ ρ : Env} {h : Heap} : vcOps Try.prog K law1_PoolTexts_r3 τ ρ h = vcOps Try.prog K [
  ⟨some (3, true), .assign (.const (.slice none 0 0)), 22, none, true⟩] τ ρ h := _root_.id rfl
def law1_PoolTexts_r4 : List Sop := [
  ⟨some (13, true), .move (.tmp 0), 24, none, true⟩,
  ⟨some (14, true), .call { callee := .builtin .len, args := #[.tmp 13], argTypes := #[24] }, 3, none, true⟩,
  ⟨some (15, true), .move (.const (.int .i64 0)), 3, none, true⟩]
theorem law1_PoolTexts_r4_go {K : Env → Heap → Prop} {τ ρ : Env} {h : Heap} : vcOps Try.prog K law1_PoolTexts_r4 τ ρ h = vcOps Try.prog K [
  ⟨some (13, true), .move (.tmp 0), 24, none, true⟩,
  ⟨some (14, true), .call { callee := .builtin .len, args := #[.tmp 13], argTypes := #[24] }, 3, none, true⟩,
  ⟨some (15, true), .move (.const (.int .i64 0)), 3, none, true⟩] τ ρ h := _root_.id rfl
def law1_PoolTexts_r5 : List Sop := [
  ⟨some (16, true), .binOp .lss 3 (.tmp 15) (.tmp 14) 3, 0, none, true⟩]
theorem law1_PoolTexts_r5_go {K : Env → Heap → Prop} {τ ρ : Env} {h : Heap} : vcOps Try.prog K law1_PoolTexts_r5 τ ρ h = vcOps Try.prog K [
  ⟨some (16, true), .binOp .lss 3 (.tmp 15) (.tmp 14) 3, 0, none, true⟩] τ ρ h := _root_.id rfl
def law1_PoolTexts_r6 : List Sop := [
  ⟨some (17, false), .indexAddr 24 (.tmp 13) (.tmp 15), 0, none, true⟩,
  ⟨some (18, false), .load 29 (.tmp 17), 29, none, true⟩,
  ⟨some (5, true), .assign (.tmp 18), 29, none, true⟩]
theorem law1_PoolTexts_r6_go {K : Env → Heap → Prop} {τ ρ : Env} {h : Heap} : vcOps Try.prog K law1_PoolTexts_r6 τ ρ h = vcOps Try.prog K [
  ⟨some (17, false), .indexAddr 24 (.tmp 13) (.tmp 15), 0, none, true⟩,
  ⟨some (18, false), .load 29 (.tmp 17), 29, none, true⟩,
  ⟨some (5, true), .assign (.tmp 18), 29, none, true⟩] τ ρ h := _root_.id rfl
def law1_PoolTexts_r7 : List Sop := [
  ⟨some (19, false), .move (.tmp 3), 22, none, true⟩,
  ⟨some (20, false), .move (.tmp 5), 29, none, true⟩,
  ⟨some (21, false), .convert 29 3 (.tmp 20), 3, none, true⟩,
  ⟨some (22, false), .buildSlice 22 1 #[(0, .tmp 21)], 22, none, false⟩,
  ⟨some (23, false), .call { callee := .builtin .append, args := #[.tmp 19, .tmp 22], argTypes := #[22, 22] }, 22, none, false⟩,
  ⟨some (3, true), .assign (.tmp 23), 22, none, true⟩]
theorem law1_PoolTexts_r7_go {K : Env → Heap → Prop} {τ ρ : Env} {h : Heap} : vcOps Try.prog K law1_PoolTexts_r7 τ ρ h = vcOps Try.prog K [
  ⟨some (19, false), .move (.tmp 3), 22, none, true⟩,
  ⟨some (20, false), .move (.tmp 5), 29, none, true⟩,
  ⟨some (21, false), .convert 29 3 (.tmp 20), 3, none, true⟩,
  ⟨some (22, false), .buildSlice 22 1 #[(0, .tmp 21)], 22, none, false⟩,
  ⟨some (23, false), .call { callee := .builtin .append, args := #[.tmp 19, .tmp 22], argTypes := #[22, 22] }, 22, none, false⟩,
  ⟨some (3, true), .assign (.tmp 23), 22, none, true⟩] τ ρ h := _root_.id rfl
def law1_PoolTexts_r8 : List Sop := [
  ⟨some (24, false), .binOp .add 3 (.tmp 15) (.const (.int .i64 1)) 3, 3, none, true⟩,
  ⟨some (15, true), .move (.tmp 24), 3, none, true⟩]
theorem law1_PoolTexts_r8_go {K : Env → Heap → Prop} {τ ρ : Env} {h : Heap} : vcOps Try.prog K law1_PoolTexts_r8 τ ρ h = vcOps Try.prog K [
  ⟨some (24, false), .binOp .add 3 (.tmp 15) (.const (.int .i64 1)) 3, 3, none, true⟩,
  ⟨some (15, true), .move (.tmp 24), 3, none, true⟩] τ ρ h := _root_.id rfl
def law1_PoolTexts_r9 : List Sop := [
  ⟨some (25, false), .move (.tmp 0), 24, none, true⟩,
  ⟨some (26, false), .call { callee := .value (.func 11), args := #[.tmp 25], argTypes := #[24] }, 9, none, false⟩,
  ⟨some (6, true), .assign (.tmp 26), 9, none, true⟩]
theorem law1_PoolTexts_r9_go {K : Env → Heap → Prop} {τ ρ : Env} {h : Heap} : vcOps Try.prog K law1_PoolTexts_r9 τ ρ h = vcOps Try.prog K [
  ⟨some (25, false), .move (.tmp 0), 24, none, true⟩,
  ⟨some (26, false), .call { callee := .value (.func 11), args := #[.tmp 25], argTypes := #[24] }, 9, none, false⟩,
  ⟨some (6, true), .assign (.tmp 26), 9, none, true⟩] τ ρ h := _root_.id rfl
def law1_PoolTexts_r10 : List Sop := [
  ⟨some (28, false), .move (.tmp 6), 9, none, true⟩,
  ⟨some (29, false), .call { callee := .value (.func 9), args := #[.tmp 28], argTypes := #[9] }, 25, none, false⟩,
  ⟨some (27, false), .move (.tmp 29), 25, none, true⟩,
  ⟨some (30, false), .extract (.tmp 27) 0, 24, none, true⟩,
  ⟨some (31, false), .extract (.tmp 27) 1, 4, none, true⟩,
  ⟨some (7, true), .assign (.tmp 30), 24, none, true⟩,
  ⟨some (8, true), .assign (.tmp 31), 4, none, true⟩]
theorem law1_PoolTexts_r10_go {K : Env → Heap → Prop} {τ ρ : Env} {h : Heap} : vcOps Try.prog K law1_PoolTexts_r10 τ ρ h = vcOps Try.prog K [
  ⟨some (28, false), .move (.tmp 6), 9, none, true⟩,
  ⟨some (29, false), .call { callee := .value (.func 9), args := #[.tmp 28], argTypes := #[9] }, 25, none, false⟩,
  ⟨some (27, false), .move (.tmp 29), 25, none, true⟩,
  ⟨some (30, false), .extract (.tmp 27) 0, 24, none, true⟩,
  ⟨some (31, false), .extract (.tmp 27) 1, 4, none, true⟩,
  ⟨some (7, true), .assign (.tmp 30), 24, none, true⟩,
  ⟨some (8, true), .assign (.tmp 31), 4, none, true⟩] τ ρ h := _root_.id rfl
def law1_PoolTexts_r11 : List Sop := [
  ⟨some (32, false), .move (.tmp 6), 9, none, true⟩,
  ⟨some (33, false), .move (.tmp 3), 22, none, true⟩,
  ⟨some (34, false), .call { callee := .value (.func 12), args := #[.tmp 33], argTypes := #[22] }, 9, none, false⟩,
  ⟨some (35, false), .binOp .neq 9 (.tmp 32) (.tmp 34) 9, 4, none, true⟩,
  ⟨some (36, false), .move (.tmp 35), 4, none, true⟩,
  ⟨some (37, false), .move (.tmp 8), 4, some (36, false), true⟩,
  ⟨some (38, false), .unOp .not 4 (.tmp 37), 4, some (36, false), true⟩,
  ⟨some (39, false), .pick (.tmp 36) (.const (.bool true)) (.tmp 38), 4, none, true⟩,
  ⟨some (40, false), .move (.tmp 39), 4, none, true⟩,
  ⟨some (41, false), .move (.tmp 7), 24, some (40, false), true⟩,
  ⟨some (42, false), .call { callee := .builtin .len, args := #[.tmp 41], argTypes := #[24] }, 3, some (40, false), true⟩,
  ⟨some (43, false), .move (.tmp 0), 24, some (40, false), true⟩,
  ⟨some (44, false), .call { callee := .builtin .len, args := #[.tmp 43], argTypes := #[24] }, 3, some (40, false), true⟩,
  ⟨some (45, false), .binOp .neq 3 (.tmp 42) (.tmp 44) 3, 4, some (40, false), true⟩,
  ⟨some (46, true), .pick (.tmp 40) (.const (.bool true)) (.tmp 45), 4, none, true⟩]
theorem law1_PoolTexts_r11_go {K : Env → Heap → Prop} {τ ρ : Env} {h : Heap} : vcOps Try.prog K law1_PoolTexts_r11 τ ρ h = vcOps Try.prog K [
  ⟨some (32, false), .move (.tmp 6), 9, none, true⟩,
  ⟨some (33, false), .move (.tmp 3), 22, none, true⟩,
  ⟨some (34, false), .call { callee := .value (.func 12), args := #[.tmp 33], argTypes := #[22] }, 9, none, false⟩,
  ⟨some (35, false), .binOp .neq 9 (.tmp 32) (.tmp 34) 9, 4, none, true⟩,
  ⟨some (36, false), .move (.tmp 35), 4, none, true⟩,
  ⟨some (37, false), .move (.tmp 8), 4, some (36, false), true⟩,
  ⟨some (38, false), .unOp .not 4 (.tmp 37), 4, some (36, false), true⟩,
  ⟨some (39, false), .pick (.tmp 36) (.const (.bool true)) (.tmp 38), 4, none, true⟩,
  ⟨some (40, false), .move (.tmp 39), 4, none, true⟩,
  ⟨some (41, false), .move (.tmp 7), 24, some (40, false), true⟩,
  ⟨some (42, false), .call { callee := .builtin .len, args := #[.tmp 41], argTypes := #[24] }, 3, some (40, false), true⟩,
  ⟨some (43, false), .move (.tmp 0), 24, some (40, false), true⟩,
  ⟨some (44, false), .call { callee := .builtin .len, args := #[.tmp 43], argTypes := #[24] }, 3, some (40, false), true⟩,
  ⟨some (45, false), .binOp .neq 3 (.tmp 42) (.tmp 44) 3, 4, some (40, false), true⟩,
  ⟨some (46, true), .pick (.tmp 40) (.const (.bool true)) (.tmp 45), 4, none, true⟩] τ ρ h := _root_.id rfl
def law1_PoolTexts_r12 : List Sop := [
  ⟨some (2, true), .assign (.const (.bool false)), 4, none, true⟩]
theorem law1_PoolTexts_r12_go {K : Env → Heap → Prop} {τ ρ : Env} {h : Heap} : vcOps Try.prog K law1_PoolTexts_r12 τ ρ h = vcOps Try.prog K [
  ⟨some (2, true), .assign (.const (.bool false)), 4, none, true⟩] τ ρ h := _root_.id rfl
def law1_PoolTexts_r13 : List Sop := [
  ⟨some (47, false), .move (.tmp 0), 24, none, true⟩,
  ⟨some (48, true), .call { callee := .builtin .len, args := #[.tmp 47], argTypes := #[24] }, 3, none, true⟩,
  ⟨some (49, true), .move (.const (.int .i64 0)), 3, none, true⟩]
theorem law1_PoolTexts_r13_go {K : Env → Heap → Prop} {τ ρ : Env} {h : Heap} : vcOps Try.prog K law1_PoolTexts_r13 τ ρ h = vcOps Try.prog K [
  ⟨some (47, false), .move (.tmp 0), 24, none, true⟩,
  ⟨some (48, true), .call { callee := .builtin .len, args := #[.tmp 47], argTypes := #[24] }, 3, none, true⟩,
  ⟨some (49, true), .move (.const (.int .i64 0)), 3, none, true⟩] τ ρ h := _root_.id rfl
def law1_PoolTexts_r14 : List Sop := [
  ⟨some (50, true), .binOp .lss 3 (.tmp 49) (.tmp 48) 3, 0, none, true⟩]
theorem law1_PoolTexts_r14_go {K : Env → Heap → Prop} {τ ρ : Env} {h : Heap} : vcOps Try.prog K law1_PoolTexts_r14 τ ρ h = vcOps Try.prog K [
  ⟨some (50, true), .binOp .lss 3 (.tmp 49) (.tmp 48) 3, 0, none, true⟩] τ ρ h := _root_.id rfl
def law1_PoolTexts_r15 : List Sop := [
  ⟨some (51, false), .move (.tmp 49), 3, none, true⟩,
  ⟨some (9, true), .assign (.tmp 51), 3, none, true⟩]
theorem law1_PoolTexts_r15_go {K : Env → Heap → Prop} {τ ρ : Env} {h : Heap} : vcOps Try.prog K law1_PoolTexts_r15 τ ρ h = vcOps Try.prog K [
  ⟨some (51, false), .move (.tmp 49), 3, none, true⟩,
  ⟨some (9, true), .assign (.tmp 51), 3, none, true⟩] τ ρ h := _root_.id rfl
def law1_PoolTexts_r16 : List (Sop × List Sop) := [
  (⟨some (52, false), .move (.tmp 0), 24, none, true⟩, []),
  (⟨some (53, false), .move (.tmp 9), 3, none, true⟩, []),
  (⟨some (54, false), .indexAddr 24 (.tmp 52) (.tmp 53), 0, none, true⟩, []),
  (⟨some (55, false), .load 29 (.tmp 54), 29, none, true⟩, []),
  (⟨some (56, false), .move (.tmp 7), 24, none, true⟩, []),
  (⟨some (57, false), .move (.tmp 9), 3, none, true⟩, []),
  (⟨some (58, false), .indexAddr 24 (.tmp 56) (.tmp 57), 0, none, true⟩, []),
  (⟨some (59, false), .load 29 (.tmp 58), 29, none, true⟩, []),
  (⟨some (60, true), .binOp .neq 29 (.tmp 55) (.tmp 59) 29, 4, none, true⟩, [])]
theorem law1_PoolTexts_r16_go {K : Env → Heap → Prop} {τ ρ : Env} {h : Heap} : vcDraw Try.prog K law1_PoolTexts_r16 τ ρ h = vcDraw Try.prog K [
  (⟨some (52, false), .move (.tmp 0), 24, none, true⟩, []),
  (⟨some (53, false), .move (.tmp 9), 3, none, true⟩, []),
  (⟨some (54, false), .indexAddr 24 (.tmp 52) (.tmp 53), 0, none, true⟩, []),
  (⟨some (55, false), .load 29 (.tmp 54), 29, none, true⟩, []),
  (⟨some (56, false), .move (.tmp 7), 24, none, true⟩, []),
  (⟨some (57, false), .move (.tmp 9), 3, none, true⟩, []),
  (⟨some (58, false), .indexAddr 24 (.tmp 56) (.tmp 57), 0, none, true⟩, []),
  (⟨some (59, false), .load 29 (.tmp 58), 29, none, true⟩, []),
  (⟨some (60, true), .binOp .neq 29 (.tmp 55) (.tmp 59) 29, 4, none, true⟩, [])] τ ρ h := _root_.id rfl
def law1_PoolTexts_r17 : List Sop := [
  ⟨some (2, true), .assign (.const (.bool false)), 4, none, true⟩]
theorem law1_PoolTexts_r17_go {K : Env → Heap → Prop} {τ ρ : Env} {h : Heap} : vcOps Try.prog K law1_PoolTexts_r17 τ ρ h = vcOps Try.prog K [
  ⟨some (2, true), .assign (.const (.bool false)), 4, none, true⟩] τ ρ h := _root_.id rfl
def law1_PoolTexts_r18 : List Sop := [
  ⟨some (61, false), .binOp .add 3 (.tmp 49) (.const (.int .i64 1)) 3, 3, none, true⟩,
  ⟨some (49, true), .move (.tmp 61), 3, none, true⟩]
theorem law1_PoolTexts_r18_go {K : Env → Heap → Prop} {τ ρ : Env} {h : Heap} : vcOps Try.prog K law1_PoolTexts_r18 τ ρ h = vcOps Try.prog K [
  ⟨some (61, false), .binOp .add 3 (.tmp 49) (.const (.int .i64 1)) 3, 3, none, true⟩,
  ⟨some (49, true), .move (.tmp 61), 3, none, true⟩] τ ρ h := _root_.id rfl
def law1_PoolTexts_r19 : List Sop := [
  ⟨some (2, true), .assign (.const (.bool true)), 4, none, true⟩]
theorem law1_PoolTexts_r19_go {K : Env → Heap → Prop} {τ ρ : Env} {h : Heap} : vcOps Try.prog K law1_PoolTexts_r19 τ ρ h = vcOps Try.prog K [
  ⟨some (2, true), .assign (.const (.bool true)), 4, none, true⟩] τ ρ h := _root_.id rfl
def law1_PoolTexts_l0 : Cd := .seq (.region law1_PoolTexts_r5) (.seq (.cond (.tmp 16) (.skip) (.exit 0)) (.seq (.block 1 (.seq (.region law1_PoolTexts_r6) (.region law1_PoolTexts_r7))) (.region law1_PoolTexts_r8)))
theorem law1_PoolTexts_l0_go {Q : Ex → Env → Heap → Prop} {ρ : Env} {h : Heap} : Cd.vc Try.prog law1_PoolTexts_l0 Q ρ h = Cd.vc Try.prog (.seq (.region law1_PoolTexts_r5) (.seq (.cond (.tmp 16) (.skip) (.exit 0)) (.seq (.block 1 (.seq (.region law1_PoolTexts_r6) (.region law1_PoolTexts_r7))) (.region law1_PoolTexts_r8)))) Q ρ h := _root_.id rfl
def law1_PoolTexts_l1 : Cd := .seq (.region law1_PoolTexts_r14) (.seq (.cond (.tmp 50) (.skip) (.exit 2)) (.seq (.block 3 (.seq (.region law1_PoolTexts_r15) (.seq (.draw law1_PoolTexts_r16) (.cond (.tmp 60) (.seq (.region law1_PoolTexts_r17) (.ret)) (.skip))))) (.region law1_PoolTexts_r18)))
theorem law1_PoolTexts_l1_go {Q : Ex → Env → Heap → Prop} {ρ : Env} {h : Heap} : Cd.vc Try.prog law1_PoolTexts_l1 Q ρ h = Cd.vc Try.prog (.seq (.region law1_PoolTexts_r14) (.seq (.cond (.tmp 50) (.skip) (.exit 2)) (.seq (.block 3 (.seq (.region law1_PoolTexts_r15) (.seq (.draw law1_PoolTexts_r16) (.cond (.tmp 60) (.seq (.region law1_PoolTexts_r17) (.ret)) (.skip))))) (.region law1_PoolTexts_r18)))) Q ρ h := _root_.id rfl
def law1_PoolTexts : Cd := .seq (.region law1_PoolTexts_r0) (.seq (.seq (.region law1_PoolTexts_r1) (.cond (.tmp 12) (.seq (.region law1_PoolTexts_r2) (.ret)) (.skip))) (.seq (.region law1_PoolTexts_r3) (.seq (.seq (.region law1_PoolTexts_r4) (.block 0 (.loop law1_PoolTexts_l0))) (.seq (.region law1_PoolTexts_r9) (.seq (.region law1_PoolTexts_r10) (.seq (.seq (.region law1_PoolTexts_r11) (.cond (.tmp 46) (.seq (.region law1_PoolTexts_r12) (.ret)) (.skip))) (.seq (.seq (.region law1_PoolTexts_r13) (.block 2 (.loop law1_PoolTexts_l1))) (.seq (.region law1_PoolTexts_r19) (.ret)))))))))
theorem law1_PoolTexts_go {Q : Ex → Env → Heap → Prop} {ρ : Env} {h : Heap} : Cd.vc Try.prog law1_PoolTexts Q ρ h = Cd.vc Try.prog (.seq (.region law1_PoolTexts_r0) (.seq (.seq (.region law1_PoolTexts_r1) (.cond (.tmp 12) (.seq (.region law1_PoolTexts_r2) (.ret)) (.skip))) (.seq (.region law1_PoolTexts_r3) (.seq (.seq (.region law1_PoolTexts_r4) (.block 0 (.loop law1_PoolTexts_l0))) (.seq (.region law1_PoolTexts_r9) (.seq (.region law1_PoolTexts_r10) (.seq (.seq (.region law1_PoolTexts_r11) (.cond (.tmp 46) (.seq (.region law1_PoolTexts_r12) (.ret)) (.skip))) (.seq (.seq (.region law1_PoolTexts_r13) (.block 2 (.loop law1_PoolTexts_l1))) (.seq (.region law1_PoolTexts_r19) (.ret)))))))))) Q ρ h := _root_.id rfl
theorem law1_PoolTexts_calls {args : List Value} {h : Heap} {R : Value → Heap → Prop} (hl : args.length = 1) (hv : Cd.vc Try.prog law1_PoolTexts (retQ Try.prog [(2, none)] R) (initEnv args [0, 2, 3, 5, 6, 7, 8, 9, 12, 13, 14, 15, 16, 46, 48, 49, 50, 60]) h) : HCalls Try.prog 5 args.toArray h R :=
  hcalls_of_vc (by kernel_rfl) Try.func5 (cd := law1_PoolTexts) (L := [0, 2, 3, 5, 6, 7, 8, 9, 12, 13, 14, 15, 16, 46, 48, 49, 50, 60]) (by kernel_rfl) (by kernel_rfl) ⟨by rw [hl, Try.ntmps5]; decide, by rw [Try.ntmps5]; decide⟩ hv
def law1_PoolTexts_gos := And.intro @law1_PoolTexts_go (And.intro @law1_PoolTexts_r0_go (And.intro @law1_PoolTexts_r1_go (And.intro @law1_PoolTexts_r2_go (And.intro @law1_PoolTexts_r3_go (And.intro @law1_PoolTexts_r4_go (And.intro @law1_PoolTexts_r5_go (And.intro @law1_PoolTexts_r6_go (And.intro @law1_PoolTexts_r7_go (And.intro @law1_PoolTexts_r8_go (And.intro @law1_PoolTexts_r9_go (And.intro @law1_PoolTexts_r10_go (And.intro @law1_PoolTexts_r11_go (And.intro @law1_PoolTexts_r12_go (And.intro @law1_PoolTexts_r13_go (And.intro @law1_PoolTexts_r14_go (And.intro @law1_PoolTexts_r15_go (And.intro @law1_PoolTexts_r16_go (And.intro @law1_PoolTexts_r17_go (And.intro @law1_PoolTexts_r18_go (And.intro @law1_PoolTexts_r19_go (And.intro @law1_PoolTexts_l0_go (@law1_PoolTexts_l1_go))))))))))))))))))))))

/-! jvmcore/jvmcorelaw1.PoolWrites: function 6: slots [0, 2, 3, 5, 6, 7, 8, 9, 10, 11, 12, 15, 16, 17, 18, 28] -/
def law1_PoolWrites_r0 : List Sop := [
  ⟨some (2, true), .assign (.const (.bool false)), 4, none, true⟩]
theorem law1_PoolWrites_r0_go {K : Env → Heap → Prop} {τ ρ : Env} {h : Heap} : vcOps Try.prog K law1_PoolWrites_r0 τ ρ h = vcOps Try.prog K [
  ⟨some (2, true), .assign (.const (.bool false)), 4, none, true⟩] τ ρ h := _root_.id rfl
def law1_PoolWrites_r1 : List Sop := [
  ⟨some (13, false), .move (.tmp 0), 34, none, true⟩,
  ⟨some (14, false), .call { callee := .builtin .len, args := #[.tmp 13], argTypes := #[34] }, 3, none, true⟩,
  ⟨some (3, true), .assign (.tmp 14), 3, none, true⟩]
theorem law1_PoolWrites_r1_go {K : Env → Heap → Prop} {τ ρ : Env} {h : Heap} : vcOps Try.prog K law1_PoolWrites_r1 τ ρ h = vcOps Try.prog K [
  ⟨some (13, false), .move (.tmp 0), 34, none, true⟩,
  ⟨some (14, false), .call { callee := .builtin .len, args := #[.tmp 13], argTypes := #[34] }, 3, none, true⟩,
  ⟨some (3, true), .assign (.tmp 14), 3, none, true⟩] τ ρ h := _root_.id rfl
def law1_PoolWrites_r2 : List Sop := [
  ⟨some (15, true), .move (.tmp 0), 34, none, true⟩,
  ⟨some (16, true), .call { callee := .builtin .len, args := #[.tmp 15], argTypes := #[34] }, 3, none, true⟩,
  ⟨some (17, true), .move (.const (.int .i64 0)), 3, none, true⟩]
theorem law1_PoolWrites_r2_go {K : Env → Heap → Prop} {τ ρ : Env} {h : Heap} : vcOps Try.prog K law1_PoolWrites_r2 τ ρ h = vcOps Try.prog K [
  ⟨some (15, true), .move (.tmp 0), 34, none, true⟩,
  ⟨some (16, true), .call { callee := .builtin .len, args := #[.tmp 15], argTypes := #[34] }, 3, none, true⟩,
  ⟨some (17, true), .move (.const (.int .i64 0)), 3, none, true⟩] τ ρ h := _root_.id rfl
def law1_PoolWrites_r3 : List Sop := [
  ⟨some (18, true), .binOp .lss 3 (.tmp 17) (.tmp 16) 3, 0, none, true⟩]
theorem law1_PoolWrites_r3_go {K : Env → Heap → Prop} {τ ρ : Env} {h : Heap} : vcOps Try.prog K law1_PoolWrites_r3 τ ρ h = vcOps Try.prog K [
  ⟨some (18, true), .binOp .lss 3 (.tmp 17) (.tmp 16) 3, 0, none, true⟩] τ ρ h := _root_.id rfl
def law1_PoolWrites_r4 : List Sop := [
  ⟨some (19, false), .indexAddr 34 (.tmp 15) (.tmp 17), 0, none, true⟩,
  ⟨some (20, false), .load 37 (.tmp 19), 37, none, true⟩,
  ⟨some (5, true), .alloc 37, 0, none, false⟩,
  ⟨none, .store 37 (.tmp 5) (.tmp 20), 0, none, false⟩]
theorem law1_PoolWrites_r4_go {K : Env → Heap → Prop} {τ ρ : Env} {h : Heap} : vcOps Try.prog K law1_PoolWrites_r4 τ ρ h = vcOps Try.prog K [
  ⟨some (19, false), .indexAddr 34 (.tmp 15) (.tmp 17), 0, none, true⟩,
  ⟨some (20, false), .load 37 (.tmp 19), 37, none, true⟩,
  ⟨some (5, true), .alloc 37, 0, none, false⟩,
  ⟨none, .store 37 (.tmp 5) (.tmp 20), 0, none, false⟩] τ ρ h := _root_.id rfl
def law1_PoolWrites_r5 : List Sop := [
  ⟨some (21, false), .move (.tmp 3), 3, none, true⟩,
  ⟨some (22, false), .fieldAddr 37 (.tmp 5) 1, 0, none, true⟩,
  ⟨some (23, false), .load 9 (.tmp 22), 9, none, true⟩,
  ⟨some (24, false), .call { callee := .builtin .len, args := #[.tmp 23], argTypes := #[9] }, 3, none, true⟩,
  ⟨some (25, false), .binOp .add 3 (.tmp 21) (.tmp 24) 3, 3, none, true⟩,
  ⟨some (3, true), .assign (.tmp 25), 3, none, true⟩]
theorem law1_PoolWrites_r5_go {K : Env → Heap → Prop} {τ ρ : Env} {h : Heap} : vcOps Try.prog K law1_PoolWrites_r5 τ ρ h = vcOps Try.prog K [
  ⟨some (21, false), .move (.tmp 3), 3, none, true⟩,
  ⟨some (22, false), .fieldAddr 37 (.tmp 5) 1, 0, none, true⟩,
  ⟨some (23, false), .load 9 (.tmp 22), 9, none, true⟩,
  ⟨some (24, false), .call { callee := .builtin .len, args := #[.tmp 23], argTypes := #[9] }, 3, none, true⟩,
  ⟨some (25, false), .binOp .add 3 (.tmp 21) (.tmp 24) 3, 3, none, true⟩,
  ⟨some (3, true), .assign (.tmp 25), 3, none, true⟩] τ ρ h := _root_.id rfl
def law1_PoolWrites_r6 : List Sop := [
  ⟨some (26, false), .binOp .add 3 (.tmp 17) (.const (.int .i64 1)) 3, 3, none, true⟩,
  ⟨some (17, true), .move (.tmp 26), 3, none, true⟩]
theorem law1_PoolWrites_r6_go {K : Env → Heap → Prop} {τ ρ : Env} {h : Heap} : vcOps Try.prog K law1_PoolWrites_r6 τ ρ h = vcOps Try.prog K [
  ⟨some (26, false), .binOp .add 3 (.tmp 17) (.const (.int .i64 1)) 3, 3, none, true⟩,
  ⟨some (17, true), .move (.tmp 26), 3, none, true⟩] τ ρ h := _root_.id rfl
def law1_PoolWrites_r7 : List Sop := [
  ⟨some (27, false), .move (.tmp 3), 3, none, true⟩,
  ⟨some (28, true), .binOp .gtr 3 (.tmp 27) (.const (.int .i64 131072)) 3, 4, none, true⟩]
theorem law1_PoolWrites_r7_go {K : Env → Heap → Prop} {τ ρ : Env} {h : Heap} : vcOps Try.prog K law1_PoolWrites_r7 τ ρ h = vcOps Try.prog K [
  ⟨some (27, false), .move (.tmp 3), 3, none, true⟩,
  ⟨some (28, true), .binOp .gtr 3 (.tmp 27) (.const (.int .i64 131072)) 3, 4, none, true⟩] τ ρ h := _root_.id rfl
def law1_PoolWrites_r8 : List Sop := [
  ⟨some (2, true), .assign (.const (.bool true)), 4, none, true⟩]
theorem law1_PoolWrites_r8_go {K : Env → Heap → Prop} {τ ρ : Env} {h : Heap} : vcOps Try.prog K law1_PoolWrites_r8 τ ρ h = vcOps Try.prog K [
  ⟨some (2, true), .assign (.const (.bool true)), 4, none, true⟩] τ ρ h := _root_.id rfl
def law1_PoolWrites_r9 : List Sop := [
  ⟨some (29, false), .move (.tmp 0), 34, none, true⟩,
  ⟨some (30, false), .call { callee := .builtin .append, args := #[.const (.slice none 0 0), .tmp 29], argTypes := #[34, 34] }, 34, none, false⟩,
  ⟨some (6, true), .assign (.tmp 30), 34, none, true⟩]
theorem law1_PoolWrites_r9_go {K : Env → Heap → Prop} {τ ρ : Env} {h : Heap} : vcOps Try.prog K law1_PoolWrites_r9 τ ρ h = vcOps Try.prog K [
  ⟨some (29, false), .move (.tmp 0), 34, none, true⟩,
  ⟨some (30, false), .call { callee := .builtin .append, args := #[.const (.slice none 0 0), .tmp 29], argTypes := #[34, 34] }, 34, none, false⟩,
  ⟨some (6, true), .assign (.tmp 30), 34, none, true⟩] τ ρ h := _root_.id rfl
def law1_PoolWrites_r10 : List Sop := [
  ⟨some (32, false), .move (.tmp 0), 34, none, true⟩,
  ⟨some (33, false), .call { callee := .value (.func 13), args := #[.tmp 32], argTypes := #[34] }, 39, none, false⟩,
  ⟨some (31, false), .move (.tmp 33), 39, none, true⟩,
  ⟨some (34, false), .extract (.tmp 31) 0, 9, none, true⟩,
  ⟨some (35, false), .extract (.tmp 31) 1, 38, none, true⟩,
  ⟨some (36, false), .extract (.tmp 31) 2, 3, none, true⟩,
  ⟨some (7, true), .assign (.tmp 34), 9, none, true⟩,
  ⟨some (8, true), .assign (.tmp 35), 38, none, true⟩,
  ⟨some (9, true), .assign (.tmp 36), 3, none, true⟩]
theorem law1_PoolWrites_r10_go {K : Env → Heap → Prop} {τ ρ : Env} {h : Heap} : vcOps Try.prog K law1_PoolWrites_r10 τ ρ h = vcOps Try.prog K [
  ⟨some (32, false), .move (.tmp 0), 34, none, true⟩,
  ⟨some (33, false), .call { callee := .value (.func 13), args := #[.tmp 32], argTypes := #[34] }, 39, none, false⟩,
  ⟨some (31, false), .move (.tmp 33), 39, none, true⟩,
  ⟨some (34, false), .extract (.tmp 31) 0, 9, none, true⟩,
  ⟨some (35, false), .extract (.tmp 31) 1, 38, none, true⟩,
  ⟨some (36, false), .extract (.tmp 31) 2, 3, none, true⟩,
  ⟨some (7, true), .assign (.tmp 34), 9, none, true⟩,
  ⟨some (8, true), .assign (.tmp 35), 38, none, true⟩,
  ⟨some (9, true), .assign (.tmp 36), 3, none, true⟩] τ ρ h := _root_.id rfl
def law1_PoolWrites_r11 : List Sop := [
  ⟨some (38, false), .move (.tmp 0), 34, none, true⟩,
  ⟨some (39, false), .call { callee := .value (.func 14), args := #[.tmp 38], argTypes := #[34] }, 39, none, false⟩,
  ⟨some (37, false), .move (.tmp 39), 39, none, true⟩,
  ⟨some (40, false), .extract (.tmp 37) 0, 9, none, true⟩,
  ⟨some (41, false), .extract (.tmp 37) 1, 38, none, true⟩,
  ⟨some (42, false), .extract (.tmp 37) 2, 3, none, true⟩,
  ⟨some (10, true), .assign (.tmp 40), 9, none, true⟩,
  ⟨some (11, true), .assign (.tmp 41), 38, none, true⟩,
  ⟨some (12, true), .assign (.tmp 42), 3, none, true⟩]
theorem law1_PoolWrites_r11_go {K : Env → Heap → Prop} {τ ρ : Env} {h : Heap} : vcOps Try.prog K law1_PoolWrites_r11 τ ρ h = vcOps Try.prog K [
  ⟨some (38, false), .move (.tmp 0), 34, none, true⟩,
  ⟨some (39, false), .call { callee := .value (.func 14), args := #[.tmp 38], argTypes := #[34] }, 39, none, false⟩,
  ⟨some (37, false), .move (.tmp 39), 39, none, true⟩,
  ⟨some (40, false), .extract (.tmp 37) 0, 9, none, true⟩,
  ⟨some (41, false), .extract (.tmp 37) 1, 38, none, true⟩,
  ⟨some (42, false), .extract (.tmp 37) 2, 3, none, true⟩,
  ⟨some (10, true), .assign (.tmp 40), 9, none, true⟩,
  ⟨some (11, true), .assign (.tmp 41), 38, none, true⟩,
  ⟨some (12, true), .assign (.tmp 42), 3, none, true⟩] τ ρ h := _root_.id rfl
def law1_PoolWrites_r12 : List Sop := [
  ⟨some (43, false), .move (.tmp 7), 9, none, true⟩,
  ⟨some (44, false), .move (.tmp 10), 9, none, true⟩,
  ⟨some (45, false), .binOp .eql 9 (.tmp 43) (.tmp 44) 9, 4, none, true⟩,
  ⟨some (46, false), .move (.tmp 45), 4, none, true⟩,
  ⟨some (47, false), .move (.tmp 8), 38, some (46, true), true⟩,
  ⟨some (48, false), .move (.tmp 11), 38, some (46, true), true⟩,
  ⟨some (49, false), .binOp .eql 38 (.tmp 47) (.tmp 48) 38, 4, some (46, true), true⟩,
  ⟨some (50, false), .pick (.tmp 46) (.tmp 49) (.const (.bool false)), 4, none, true⟩,
  ⟨some (51, false), .move (.tmp 50), 4, none, true⟩,
  ⟨some (52, false), .move (.tmp 9), 3, some (51, true), true⟩,
  ⟨some (53, false), .move (.tmp 12), 3, some (51, true), true⟩,
  ⟨some (54, false), .binOp .eql 3 (.tmp 52) (.tmp 53) 3, 4, some (51, true), true⟩,
  ⟨some (55, false), .pick (.tmp 51) (.tmp 54) (.const (.bool false)), 4, none, true⟩,
  ⟨some (56, false), .move (.tmp 55), 4, none, true⟩,
  ⟨some (57, false), .move (.tmp 6), 34, some (56, true), true⟩,
  ⟨some (58, false), .move (.tmp 0), 34, some (56, true), true⟩,
  ⟨some (59, false), .call { callee := .value (.func 15), args := #[.tmp 57, .tmp 58], argTypes := #[34, 34] }, 4, some (56, true), false⟩,
  ⟨some (60, false), .pick (.tmp 56) (.tmp 59) (.const (.bool false)), 4, none, true⟩,
  ⟨some (2, true), .assign (.tmp 60), 4, none, true⟩]
theorem law1_PoolWrites_r12_go {K : Env → Heap → Prop} {τ ρ : Env} {h : Heap} : vcOps Try.prog K law1_PoolWrites_r12 τ ρ h = vcOps Try.prog K [
  ⟨some (43, false), .move (.tmp 7), 9, none, true⟩,
  ⟨some (44, false), .move (.tmp 10), 9, none, true⟩,
  ⟨some (45, false), .binOp .eql 9 (.tmp 43) (.tmp 44) 9, 4, none, true⟩,
  ⟨some (46, false), .move (.tmp 45), 4, none, true⟩,
  ⟨some (47, false), .move (.tmp 8), 38, some (46, true), true⟩,
  ⟨some (48, false), .move (.tmp 11), 38, some (46, true), true⟩,
  ⟨some (49, false), .binOp .eql 38 (.tmp 47) (.tmp 48) 38, 4, some (46, true), true⟩,
  ⟨some (50, false), .pick (.tmp 46) (.tmp 49) (.const (.bool false)), 4, none, true⟩,
  ⟨some (51, false), .move (.tmp 50), 4, none, true⟩,
  ⟨some (52, false), .move (.tmp 9), 3, some (51, true), true⟩,
  ⟨some (53, false), .move (.tmp 12), 3, some (51, true), true⟩,
  ⟨some (54, false), .binOp .eql 3 (.tmp 52) (.tmp 53) 3, 4, some (51, true), true⟩,
  ⟨some (55, false), .pick (.tmp 51) (.tmp 54) (.const (.bool false)), 4, none, true⟩,
  ⟨some (56, false), .move (.tmp 55), 4, none, true⟩,
  ⟨some (57, false), .move (.tmp 6), 34, some (56, true), true⟩,
  ⟨some (58, false), .move (.tmp 0), 34, some (56, true), true⟩,
  ⟨some (59, false), .call { callee := .value (.func 15), args := #[.tmp 57, .tmp 58], argTypes := #[34, 34] }, 4, some (56, true), false⟩,
  ⟨some (60, false), .pick (.tmp 56) (.tmp 59) (.const (.bool false)), 4, none, true⟩,
  ⟨some (2, true), .assign (.tmp 60), 4, none, true⟩] τ ρ h := _root_.id rfl
def law1_PoolWrites_l0 : Cd := .seq (.region law1_PoolWrites_r3) (.seq (.cond (.tmp 18) (.skip) (.exit 0)) (.seq (.block 1 (.seq (.region law1_PoolWrites_r4) (.region law1_PoolWrites_r5))) (.region law1_PoolWrites_r6)))
theorem law1_PoolWrites_l0_go {Q : Ex → Env → Heap → Prop} {ρ : Env} {h : Heap} : Cd.vc Try.prog law1_PoolWrites_l0 Q ρ h = Cd.vc Try.prog (.seq (.region law1_PoolWrites_r3) (.seq (.cond (.tmp 18) (.skip) (.exit 0)) (.seq (.block 1 (.seq (.region law1_PoolWrites_r4) (.region law1_PoolWrites_r5))) (.region law1_PoolWrites_r6)))) Q ρ h := _root_.id rfl
def law1_PoolWrites : Cd := .seq (.region law1_PoolWrites_r0) (.seq (.region law1_PoolWrites_r1) (.seq (.seq (.region law1_PoolWrites_r2) (.block 0 (.loop law1_PoolWrites_l0))) (.seq (.seq (.region law1_PoolWrites_r7) (.cond (.tmp 28) (.seq (.region law1_PoolWrites_r8) (.ret)) (.skip))) (.seq (.region law1_PoolWrites_r9) (.seq (.region law1_PoolWrites_r10) (.seq (.region law1_PoolWrites_r11) (.seq (.region law1_PoolWrites_r12) (.ret))))))))
theorem law1_PoolWrites_go {Q : Ex → Env → Heap → Prop} {ρ : Env} {h : Heap} : Cd.vc Try.prog law1_PoolWrites Q ρ h = Cd.vc Try.prog (.seq (.region law1_PoolWrites_r0) (.seq (.region law1_PoolWrites_r1) (.seq (.seq (.region law1_PoolWrites_r2) (.block 0 (.loop law1_PoolWrites_l0))) (.seq (.seq (.region law1_PoolWrites_r7) (.cond (.tmp 28) (.seq (.region law1_PoolWrites_r8) (.ret)) (.skip))) (.seq (.region law1_PoolWrites_r9) (.seq (.region law1_PoolWrites_r10) (.seq (.region law1_PoolWrites_r11) (.seq (.region law1_PoolWrites_r12) (.ret))))))))) Q ρ h := _root_.id rfl
theorem law1_PoolWrites_calls {args : List Value} {h : Heap} {R : Value → Heap → Prop} (hl : args.length = 1) (hv : Cd.vc Try.prog law1_PoolWrites (retQ Try.prog [(2, none)] R) (initEnv args [0, 2, 3, 5, 6, 7, 8, 9, 10, 11, 12, 15, 16, 17, 18, 28]) h) : HCalls Try.prog 6 args.toArray h R :=
  hcalls_of_vc (by kernel_rfl) Try.func6 (cd := law1_PoolWrites) (L := [0, 2, 3, 5, 6, 7, 8, 9, 10, 11, 12, 15, 16, 17, 18, 28]) (by kernel_rfl) (by kernel_rfl) ⟨by rw [hl, Try.ntmps6]; decide, by rw [Try.ntmps6]; decide⟩ hv
def law1_PoolWrites_gos := And.intro @law1_PoolWrites_go (And.intro @law1_PoolWrites_r0_go (And.intro @law1_PoolWrites_r1_go (And.intro @law1_PoolWrites_r2_go (And.intro @law1_PoolWrites_r3_go (And.intro @law1_PoolWrites_r4_go (And.intro @law1_PoolWrites_r5_go (And.intro @law1_PoolWrites_r6_go (And.intro @law1_PoolWrites_r7_go (And.intro @law1_PoolWrites_r8_go (And.intro @law1_PoolWrites_r9_go (And.intro @law1_PoolWrites_r10_go (And.intro @law1_PoolWrites_r11_go (And.intro @law1_PoolWrites_r12_go (@law1_PoolWrites_l0_go))))))))))))))

/-! jvmcore/jvmcorelaw1.PoolReads: function 7: slots [0, 2, 3, 4, 5, 6, 7, 8, 9, 10, 13] -/
def law1_PoolReads_r0 : List Sop := [
  ⟨some (2, true), .assign (.const (.bool false)), 4, none, true⟩]
theorem law1_PoolReads_r0_go {K : Env → Heap → Prop} {τ ρ : Env} {h : Heap} : vcOps Try.prog K law1_PoolReads_r0 τ ρ h = vcOps Try.prog K [
  ⟨some (2, true), .assign (.const (.bool false)), 4, none, true⟩] τ ρ h := _root_.id rfl
def law1_PoolReads_r1 : List Sop := [
  ⟨some (11, false), .move (.tmp 0), 9, none, true⟩,
  ⟨some (12, false), .call { callee := .builtin .len, args := #[.tmp 11], argTypes := #[9] }, 3, none, true⟩,
  ⟨some (13, true), .binOp .gtr 3 (.tmp 12) (.const (.int .i64 32768)) 3, 4, none, true⟩]
theorem law1_PoolReads_r1_go {K : Env → Heap → Prop} {τ ρ : Env} {h : Heap} : vcOps Try.prog K law1_PoolReads_r1 τ ρ h = vcOps Try.prog K [
  ⟨some (11, false), .move (.tmp 0), 9, none, true⟩,
  ⟨some (12, false), .call { callee := .builtin .len, args := #[.tmp 11], argTypes := #[9] }, 3, none, true⟩,
  ⟨some (13, true), .binOp .gtr 3 (.tmp 12) (.const (.int .i64 32768)) 3, 4, none, true⟩] τ ρ h := _root_.id rfl
def law1_PoolReads_r2 : List Sop := [
  ⟨some (2, true), .assign (.const (.bool true)), 4, none, true⟩]
theorem law1_PoolReads_r2_go {K : Env → Heap → Prop} {τ ρ : Env} {h : Heap} : vcOps Try.prog K law1_PoolReads_r2 τ ρ h = vcOps Try.prog K [
  ⟨some (2, true), .assign (.const (.bool true)), 4, none, true⟩] τ ρ h := _root_.id rfl
def law1_PoolReads_r3 : List Sop := [
  ⟨some (15, false), .move (.tmp 0), 9, none, true⟩,
  ⟨some (16, false), .call { callee := .value (.func 16), args := #[.tmp 15], argTypes := #[9] }, 43, none, false⟩,
  ⟨some (14, false), .move (.tmp 16), 43, none, true⟩,
  ⟨some (17, false), .extract (.tmp 14) 0, 34, none, true⟩,
  ⟨some (18, false), .extract (.tmp 14) 1, 3, none, true⟩,
  ⟨some (19, false), .extract (.tmp 14) 2, 38, none, true⟩,
  ⟨some (20, false), .extract (.tmp 14) 3, 3, none, true⟩,
  ⟨some (3, true), .assign (.tmp 17), 34, none, true⟩,
  ⟨some (4, true), .assign (.tmp 18), 3, none, true⟩,
  ⟨some (5, true), .assign (.tmp 19), 38, none, true⟩,
  ⟨some (6, true), .assign (.tmp 20), 3, none, true⟩]
theorem law1_PoolReads_r3_go {K : Env → Heap → Prop} {τ ρ : Env} {h : Heap} : vcOps Try.prog K law1_PoolReads_r3 τ ρ h = vcOps Try.prog K [
  ⟨some (15, false), .move (.tmp 0), 9, none, true⟩,
  ⟨some (16, false), .call { callee := .value (.func 16), args := #[.tmp 15], argTypes := #[9] }, 43, none, false⟩,
  ⟨some (14, false), .move (.tmp 16), 43, none, true⟩,
  ⟨some (17, false), .extract (.tmp 14) 0, 34, none, true⟩,
  ⟨some (18, false), .extract (.tmp 14) 1, 3, none, true⟩,
  ⟨some (19, false), .extract (.tmp 14) 2, 38, none, true⟩,
  ⟨some (20, false), .extract (.tmp 14) 3, 3, none, true⟩,
  ⟨some (3, true), .assign (.tmp 17), 34, none, true⟩,
  ⟨some (4, true), .assign (.tmp 18), 3, none, true⟩,
  ⟨some (5, true), .assign (.tmp 19), 38, none, true⟩,
  ⟨some (6, true), .assign (.tmp 20), 3, none, true⟩] τ ρ h := _root_.id rfl
def law1_PoolReads_r4 : List Sop := [
  ⟨some (22, false), .move (.tmp 0), 9, none, true⟩,
  ⟨some (23, false), .call { callee := .value (.func 17), args := #[.tmp 22], argTypes := #[9] }, 43, none, false⟩,
  ⟨some (21, false), .move (.tmp 23), 43, none, true⟩,
  ⟨some (24, false), .extract (.tmp 21) 0, 34, none, true⟩,
  ⟨some (25, false), .extract (.tmp 21) 1, 3, none, true⟩,
  ⟨some (26, false), .extract (.tmp 21) 2, 38, none, true⟩,
  ⟨some (27, false), .extract (.tmp 21) 3, 3, none, true⟩,
  ⟨some (7, true), .assign (.tmp 24), 34, none, true⟩,
  ⟨some (8, true), .assign (.tmp 25), 3, none, true⟩,
  ⟨some (9, true), .assign (.tmp 26), 38, none, true⟩,
  ⟨some (10, true), .assign (.tmp 27), 3, none, true⟩]
theorem law1_PoolReads_r4_go {K : Env → Heap → Prop} {τ ρ : Env} {h : Heap} : vcOps Try.prog K law1_PoolReads_r4 τ ρ h = vcOps Try.prog K [
  ⟨some (22, false), .move (.tmp 0), 9, none, true⟩,
  ⟨some (23, false), .call { callee := .value (.func 17), args := #[.tmp 22], argTypes := #[9] }, 43, none, false⟩,
  ⟨some (21, false), .move (.tmp 23), 43, none, true⟩,
  ⟨some (24, false), .extract (.tmp 21) 0, 34, none, true⟩,
  ⟨some (25, false), .extract (.tmp 21) 1, 3, none, true⟩,
  ⟨some (26, false), .extract (.tmp 21) 2, 38, none, true⟩,
  ⟨some (27, false), .extract (.tmp 21) 3, 3, none, true⟩,
  ⟨some (7, true), .assign (.tmp 24), 34, none, true⟩,
  ⟨some (8, true), .assign (.tmp 25), 3, none, true⟩,
  ⟨some (9, true), .assign (.tmp 26), 38, none, true⟩,
  ⟨some (10, true), .assign (.tmp 27), 3, none, true⟩] τ ρ h := _root_.id rfl
def law1_PoolReads_r5 : List Sop := [
  ⟨some (28, false), .move (.tmp 3), 34, none, true⟩,
  ⟨some (29, false), .move (.tmp 7), 34, none, true⟩,
  ⟨some (30, false), .call { callee := .value (.func 15), args := #[.tmp 28, .tmp 29], argTypes := #[34, 34] }, 4, none, false⟩,
  ⟨some (31, false), .move (.tmp 30), 4, none, true⟩,
  ⟨some (32, false), .move (.tmp 4), 3, some (31, true), true⟩,
  ⟨some (33, false), .move (.tmp 8), 3, some (31, true), true⟩,
  ⟨some (34, false), .binOp .eql 3 (.tmp 32) (.tmp 33) 3, 4, some (31, true), true⟩,
  ⟨some (35, false), .pick (.tmp 31) (.tmp 34) (.const (.bool false)), 4, none, true⟩,
  ⟨some (36, false), .move (.tmp 35), 4, none, true⟩,
  ⟨some (37, false), .move (.tmp 5), 38, some (36, true), true⟩,
  ⟨some (38, false), .move (.tmp 9), 38, some (36, true), true⟩,
  ⟨some (39, false), .binOp .eql 38 (.tmp 37) (.tmp 38) 38, 4, some (36, true), true⟩,
  ⟨some (40, false), .pick (.tmp 36) (.tmp 39) (.const (.bool false)), 4, none, true⟩,
  ⟨some (41, false), .move (.tmp 40), 4, none, true⟩,
  ⟨some (42, false), .move (.tmp 6), 3, some (41, true), true⟩,
  ⟨some (43, false), .move (.tmp 10), 3, some (41, true), true⟩,
  ⟨some (44, false), .binOp .eql 3 (.tmp 42) (.tmp 43) 3, 4, some (41, true), true⟩,
  ⟨some (45, false), .pick (.tmp 41) (.tmp 44) (.const (.bool false)), 4, none, true⟩,
  ⟨some (2, true), .assign (.tmp 45), 4, none, true⟩]
theorem law1_PoolReads_r5_go {K : Env → Heap → Prop} {τ ρ : Env} {h : Heap} : vcOps Try.prog K law1_PoolReads_r5 τ ρ h = vcOps Try.prog K [
  ⟨some (28, false), .move (.tmp 3), 34, none, true⟩,
  ⟨some (29, false), .move (.tmp 7), 34, none, true⟩,
  ⟨some (30, false), .call { callee := .value (.func 15), args := #[.tmp 28, .tmp 29], argTypes := #[34, 34] }, 4, none, false⟩,
  ⟨some (31, false), .move (.tmp 30), 4, none, true⟩,
  ⟨some (32, false), .move (.tmp 4), 3, some (31, true), true⟩,
  ⟨some (33, false), .move (.tmp 8), 3, some (31, true), true⟩,
  ⟨some (34, false), .binOp .eql 3 (.tmp 32) (.tmp 33) 3, 4, some (31, true), true⟩,
  ⟨some (35, false), .pick (.tmp 31) (.tmp 34) (.const (.bool false)), 4, none, true⟩,
  ⟨some (36, false), .move (.tmp 35), 4, none, true⟩,
  ⟨some (37, false), .move (.tmp 5), 38, some (36, true), true⟩,
  ⟨some (38, false), .move (.tmp 9), 38, some (36, true), true⟩,
  ⟨some (39, false), .binOp .eql 38 (.tmp 37) (.tmp 38) 38, 4, some (36, true), true⟩,
  ⟨some (40, false), .pick (.tmp 36) (.tmp 39) (.const (.bool false)), 4, none, true⟩,
  ⟨some (41, false), .move (.tmp 40), 4, none, true⟩,
  ⟨some (42, false), .move (.tmp 6), 3, some (41, true), true⟩,
  ⟨some (43, false), .move (.tmp 10), 3, some (41, true), true⟩,
  ⟨some (44, false), .binOp .eql 3 (.tmp 42) (.tmp 43) 3, 4, some (41, true), true⟩,
  ⟨some (45, false), .pick (.tmp 41) (.tmp 44) (.const (.bool false)), 4, none, true⟩,
  ⟨some (2, true), .assign (.tmp 45), 4, none, true⟩] τ ρ h := _root_.id rfl
def law1_PoolReads : Cd := .seq (.region law1_PoolReads_r0) (.seq (.seq (.region law1_PoolReads_r1) (.cond (.tmp 13) (.seq (.region law1_PoolReads_r2) (.ret)) (.skip))) (.seq (.region law1_PoolReads_r3) (.seq (.region law1_PoolReads_r4) (.seq (.region law1_PoolReads_r5) (.ret)))))
theorem law1_PoolReads_go {Q : Ex → Env → Heap → Prop} {ρ : Env} {h : Heap} : Cd.vc Try.prog law1_PoolReads Q ρ h = Cd.vc Try.prog (.seq (.region law1_PoolReads_r0) (.seq (.seq (.region law1_PoolReads_r1) (.cond (.tmp 13) (.seq (.region law1_PoolReads_r2) (.ret)) (.skip))) (.seq (.region law1_PoolReads_r3) (.seq (.region law1_PoolReads_r4) (.seq (.region law1_PoolReads_r5) (.ret)))))) Q ρ h := _root_.id rfl
theorem law1_PoolReads_calls {args : List Value} {h : Heap} {R : Value → Heap → Prop} (hl : args.length = 1) (hv : Cd.vc Try.prog law1_PoolReads (retQ Try.prog [(2, none)] R) (initEnv args [0, 2, 3, 4, 5, 6, 7, 8, 9, 10, 13]) h) : HCalls Try.prog 7 args.toArray h R :=
  hcalls_of_vc (by kernel_rfl) Try.func7 (cd := law1_PoolReads) (L := [0, 2, 3, 4, 5, 6, 7, 8, 9, 10, 13]) (by kernel_rfl) (by kernel_rfl) ⟨by rw [hl, Try.ntmps7]; decide, by rw [Try.ntmps7]; decide⟩ hv
def law1_PoolReads_gos := And.intro @law1_PoolReads_go (And.intro @law1_PoolReads_r0_go (And.intro @law1_PoolReads_r1_go (And.intro @law1_PoolReads_r2_go (And.intro @law1_PoolReads_r3_go (And.intro @law1_PoolReads_r4_go (@law1_PoolReads_r5_go))))))

/-! jvmcore/jvmcorelaw1.PoolRounds: function 8: slots [0, 2, 3, 4, 5, 7, 9, 10, 11, 15, 17, 26] -/
def law1_PoolRounds_r0 : List Sop := [
  ⟨some (2, true), .assign (.const (.bool false)), 4, none, true⟩]
theorem law1_PoolRounds_r0_go {K : Env → Heap → Prop} {τ ρ : Env} {h : Heap} : vcOps Try.prog K law1_PoolRounds_r0 τ ρ h = vcOps Try.prog K [
  ⟨some (2, true), .assign (.const (.bool false)), 4, none, true⟩] τ ρ h := _root_.id rfl
def law1_PoolRounds_r1 : List Sop := [
  ⟨some (13, false), .move (.tmp 0), 9, none, true⟩,
  ⟨some (14, false), .call { callee := .builtin .len, args := #[.tmp 13], argTypes := #[9] }, 3, none, true⟩,
  ⟨some (15, true), .binOp .gtr 3 (.tmp 14) (.const (.int .i64 32768)) 3, 4, none, true⟩]
theorem law1_PoolRounds_r1_go {K : Env → Heap → Prop} {τ ρ : Env} {h : Heap} : vcOps Try.prog K law1_PoolRounds_r1 τ ρ h = vcOps Try.prog K [
  ⟨some (13, false), .move (.tmp 0), 9, none, true⟩,
  ⟨some (14, false), .call { callee := .builtin .len, args := #[.tmp 13], argTypes := #[9] }, 3, none, true⟩,
  ⟨some (15, true), .binOp .gtr 3 (.tmp 14) (.const (.int .i64 32768)) 3, 4, none, true⟩] τ ρ h := _root_.id rfl
def law1_PoolRounds_r2 : List Sop := [
  ⟨some (2, true), .assign (.const (.bool true)), 4, none, true⟩]
theorem law1_PoolRounds_r2_go {K : Env → Heap → Prop} {τ ρ : Env} {h : Heap} : vcOps Try.prog K law1_PoolRounds_r2 τ ρ h = vcOps Try.prog K [
  ⟨some (2, true), .assign (.const (.bool true)), 4, none, true⟩] τ ρ h := _root_.id rfl
def law1_PoolRounds_r3 : List Sop := [
  ⟨some (16, false), .call { callee := .value (.func 18), args := #[], argTypes := #[] }, 4, none, false⟩,
  ⟨some (17, true), .unOp .not 4 (.tmp 16), 4, none, true⟩]
theorem law1_PoolRounds_r3_go {K : Env → Heap → Prop} {τ ρ : Env} {h : Heap} : vcOps Try.prog K law1_PoolRounds_r3 τ ρ h = vcOps Try.prog K [
  ⟨some (16, false), .call { callee := .value (.func 18), args := #[], argTypes := #[] }, 4, none, false⟩,
  ⟨some (17, true), .unOp .not 4 (.tmp 16), 4, none, true⟩] τ ρ h := _root_.id rfl
def law1_PoolRounds_r4 : List Sop := [
  ⟨some (2, true), .assign (.const (.bool false)), 4, none, true⟩]
theorem law1_PoolRounds_r4_go {K : Env → Heap → Prop} {τ ρ : Env} {h : Heap} : vcOps Try.prog K law1_PoolRounds_r4 τ ρ h = vcOps Try.prog K [
  ⟨some (2, true), .assign (.const (.bool false)), 4, none, true⟩] τ ρ h := _root_.id rfl
def law1_PoolRounds_r5 : List Sop := [
  ⟨some (19, false), .move (.tmp 0), 9, none, true⟩,
  ⟨some (20, false), .call { callee := .value (.func 16), args := #[.tmp 19], argTypes := #[9] }, 43, none, false⟩,
  ⟨some (18, false), .move (.tmp 20), 43, none, true⟩,
  ⟨some (21, false), .extract (.tmp 18) 0, 34, none, true⟩,
  ⟨some (22, false), .extract (.tmp 18) 1, 3, none, true⟩,
  ⟨some (23, false), .extract (.tmp 18) 2, 38, none, true⟩,
  ⟨some (24, false), .extract (.tmp 18) 3, 3, none, true⟩,
  ⟨some (3, true), .assign (.tmp 21), 34, none, true⟩,
  ⟨some (4, true), .assign (.tmp 22), 3, none, true⟩,
  ⟨some (5, true), .assign (.tmp 23), 38, none, true⟩,
  ⟨some (6, false), .assign (.tmp 24), 3, none, true⟩]
theorem law1_PoolRounds_r5_go {K : Env → Heap → Prop} {τ ρ : Env} {h : Heap} : vcOps Try.prog K law1_PoolRounds_r5 τ ρ h = vcOps Try.prog K [
  ⟨some (19, false), .move (.tmp 0), 9, none, true⟩,
  ⟨some (20, false), .call { callee := .value (.func 16), args := #[.tmp 19], argTypes := #[9] }, 43, none, false⟩,
  ⟨some (18, false), .move (.tmp 20), 43, none, true⟩,
  ⟨some (21, false), .extract (.tmp 18) 0, 34, none, true⟩,
  ⟨some (22, false), .extract (.tmp 18) 1, 3, none, true⟩,
  ⟨some (23, false), .extract (.tmp 18) 2, 38, none, true⟩,
  ⟨some (24, false), .extract (.tmp 18) 3, 3, none, true⟩,
  ⟨some (3, true), .assign (.tmp 21), 34, none, true⟩,
  ⟨some (4, true), .assign (.tmp 22), 3, none, true⟩,
  ⟨some (5, true), .assign (.tmp 23), 38, none, true⟩,
  ⟨some (6, false), .assign (.tmp 24), 3, none, true⟩] τ ρ h := _root_.id rfl
def law1_PoolRounds_r6 : List Sop := [
  ⟨some (25, false), .move (.tmp 5), 38, none, true⟩,
  ⟨some (26, true), .binOp .neq 38 (.tmp 25) (.const (.int .i64 0)) 38, 4, none, true⟩]
theorem law1_PoolRounds_r6_go {K : Env → Heap → Prop} {τ ρ : Env} {h : Heap} : vcOps Try.prog K law1_PoolRounds_r6 τ ρ h = vcOps Try.prog K [
  ⟨some (25, false), .move (.tmp 5), 38, none, true⟩,
  ⟨some (26, true), .binOp .neq 38 (.tmp 25) (.const (.int .i64 0)) 38, 4, none, true⟩] τ ρ h := _root_.id rfl
def law1_PoolRounds_r7 : List Sop := [
  ⟨some (27, false), .move (.tmp 4), 3, none, true⟩,
  ⟨some (28, false), .binOp .eql 3 (.tmp 27) (.const (.int .i64 0)) 3, 4, none, true⟩,
  ⟨some (29, false), .move (.tmp 28), 4, none, true⟩,
  ⟨some (30, false), .move (.tmp 3), 34, some (29, true), true⟩,
  ⟨some (31, false), .call { callee := .builtin .len, args := #[.tmp 30], argTypes := #[34] }, 3, some (29, true), true⟩,
  ⟨some (32, false), .binOp .eql 3 (.tmp 31) (.const (.int .i64 0)) 3, 4, some (29, true), true⟩,
  ⟨some (33, false), .pick (.tmp 29) (.tmp 32) (.const (.bool false)), 4, none, true⟩,
  ⟨some (2, true), .assign (.tmp 33), 4, none, true⟩]
theorem law1_PoolRounds_r7_go {K : Env → Heap → Prop} {τ ρ : Env} {h : Heap} : vcOps Try.prog K law1_PoolRounds_r7 τ ρ h = vcOps Try.prog K [
  ⟨some (27, false), .move (.tmp 4), 3, none, true⟩,
  ⟨some (28, false), .binOp .eql 3 (.tmp 27) (.const (.int .i64 0)) 3, 4, none, true⟩,
  ⟨some (29, false), .move (.tmp 28), 4, none, true⟩,
  ⟨some (30, false), .move (.tmp 3), 34, some (29, true), true⟩,
  ⟨some (31, false), .call { callee := .builtin .len, args := #[.tmp 30], argTypes := #[34] }, 3, some (29, true), true⟩,
  ⟨some (32, false), .binOp .eql 3 (.tmp 31) (.const (.int .i64 0)) 3, 4, some (29, true), true⟩,
  ⟨some (33, false), .pick (.tmp 29) (.tmp 32) (.const (.bool false)), 4, none, true⟩,
  ⟨some (2, true), .assign (.tmp 33), 4, none, true⟩] τ ρ h := _root_.id rfl
def law1_PoolRounds_r8 : List Sop := [
  ⟨some (35, false), .move (.tmp 3), 34, none, true⟩,
  ⟨some (36, false), .call { callee := .value (.func 13), args := #[.tmp 35], argTypes := #[34] }, 39, none, false⟩,
  ⟨some (34, false), .move (.tmp 36), 39, none, true⟩,
  ⟨some (37, false), .extract (.tmp 34) 0, 9, none, true⟩,
  ⟨some (38, false), .extract (.tmp 34) 1, 38, none, true⟩,
  ⟨some (39, false), .extract (.tmp 34) 2, 3, none, true⟩,
  ⟨some (7, true), .assign (.tmp 37), 9, none, true⟩,
  ⟨some (5, true), .assign (.tmp 38), 38, none, true⟩,
  ⟨some (8, false), .assign (.tmp 39), 3, none, true⟩]
theorem law1_PoolRounds_r8_go {K : Env → Heap → Prop} {τ ρ : Env} {h : Heap} : vcOps Try.prog K law1_PoolRounds_r8 τ ρ h = vcOps Try.prog K [
  ⟨some (35, false), .move (.tmp 3), 34, none, true⟩,
  ⟨some (36, false), .call { callee := .value (.func 13), args := #[.tmp 35], argTypes := #[34] }, 39, none, false⟩,
  ⟨some (34, false), .move (.tmp 36), 39, none, true⟩,
  ⟨some (37, false), .extract (.tmp 34) 0, 9, none, true⟩,
  ⟨some (38, false), .extract (.tmp 34) 1, 38, none, true⟩,
  ⟨some (39, false), .extract (.tmp 34) 2, 3, none, true⟩,
  ⟨some (7, true), .assign (.tmp 37), 9, none, true⟩,
  ⟨some (5, true), .assign (.tmp 38), 38, none, true⟩,
  ⟨some (8, false), .assign (.tmp 39), 3, none, true⟩] τ ρ h := _root_.id rfl
def law1_PoolRounds_r9 : List Sop := [
  ⟨some (41, false), .move (.tmp 7), 9, none, true⟩,
  ⟨some (42, false), .binOp .add 9 (.tmp 41) (.const (.string { data := #[109, 111, 114, 101] })) 9, 9, none, true⟩,
  ⟨some (43, false), .call { callee := .value (.func 16), args := #[.tmp 42], argTypes := #[9] }, 43, none, false⟩,
  ⟨some (40, false), .move (.tmp 43), 43, none, true⟩,
  ⟨some (44, false), .extract (.tmp 40) 0, 34, none, true⟩,
  ⟨some (45, false), .extract (.tmp 40) 1, 3, none, true⟩,
  ⟨some (46, false), .extract (.tmp 40) 2, 38, none, true⟩,
  ⟨some (47, false), .extract (.tmp 40) 3, 3, none, true⟩,
  ⟨some (9, true), .assign (.tmp 44), 34, none, true⟩,
  ⟨some (10, true), .assign (.tmp 45), 3, none, true⟩,
  ⟨some (11, true), .assign (.tmp 46), 38, none, true⟩,
  ⟨some (12, false), .assign (.tmp 47), 3, none, true⟩]
theorem law1_PoolRounds_r9_go {K : Env → Heap → Prop} {τ ρ : Env} {h : Heap} : vcOps Try.prog K law1_PoolRounds_r9 τ ρ h = vcOps Try.prog K [
  ⟨some (41, false), .move (.tmp 7), 9, none, true⟩,
  ⟨some (42, false), .binOp .add 9 (.tmp 41) (.const (.string { data := #[109, 111, 114, 101] })) 9, 9, none, true⟩,
  ⟨some (43, false), .call { callee := .value (.func 16), args := #[.tmp 42], argTypes := #[9] }, 43, none, false⟩,
  ⟨some (40, false), .move (.tmp 43), 43, none, true⟩,
  ⟨some (44, false), .extract (.tmp 40) 0, 34, none, true⟩,
  ⟨some (45, false), .extract (.tmp 40) 1, 3, none, true⟩,
  ⟨some (46, false), .extract (.tmp 40) 2, 38, none, true⟩,
  ⟨some (47, false), .extract (.tmp 40) 3, 3, none, true⟩,
  ⟨some (9, true), .assign (.tmp 44), 34, none, true⟩,
  ⟨some (10, true), .assign (.tmp 45), 3, none, true⟩,
  ⟨some (11, true), .assign (.tmp 46), 38, none, true⟩,
  ⟨some (12, false), .assign (.tmp 47), 3, none, true⟩] τ ρ h := _root_.id rfl
def law1_PoolRounds_r10 : List Sop := [
  ⟨some (48, false), .move (.tmp 5), 38, none, true⟩,
  ⟨some (49, false), .binOp .eql 38 (.tmp 48) (.const (.int .i64 0)) 38, 4, none, true⟩,
  ⟨some (50, false), .move (.tmp 49), 4, none, true⟩,
  ⟨some (51, false), .move (.tmp 11), 38, some (50, true), true⟩,
  ⟨some (52, false), .binOp .eql 38 (.tmp 51) (.const (.int .i64 0)) 38, 4, some (50, true), true⟩,
  ⟨some (53, false), .pick (.tmp 50) (.tmp 52) (.const (.bool false)), 4, none, true⟩,
  ⟨some (54, false), .move (.tmp 53), 4, none, true⟩,
  ⟨some (55, false), .move (.tmp 7), 9, some (54, true), true⟩,
  ⟨some (56, false), .move (.tmp 0), 9, some (54, true), true⟩,
  ⟨some (57, false), .move (.tmp 4), 3, some (54, true), true⟩,
  ⟨some (58, false), .slice 9 (.tmp 56) none (some (.tmp 57)) none, 9, some (54, true), true⟩,
  ⟨some (59, false), .binOp .eql 9 (.tmp 55) (.tmp 58) 9, 4, some (54, true), true⟩,
  ⟨some (60, false), .pick (.tmp 54) (.tmp 59) (.const (.bool false)), 4, none, true⟩,
  ⟨some (61, false), .move (.tmp 60), 4, none, true⟩,
  ⟨some (62, false), .move (.tmp 10), 3, some (61, true), true⟩,
  ⟨some (63, false), .move (.tmp 4), 3, some (61, true), true⟩,
  ⟨some (64, false), .binOp .eql 3 (.tmp 62) (.tmp 63) 3, 4, some (61, true), true⟩,
  ⟨some (65, false), .pick (.tmp 61) (.tmp 64) (.const (.bool false)), 4, none, true⟩,
  ⟨some (66, false), .move (.tmp 65), 4, none, true⟩,
  ⟨some (67, false), .move (.tmp 3), 34, some (66, true), true⟩,
  ⟨some (68, false), .move (.tmp 9), 34, some (66, true), true⟩,
  ⟨some (69, false), .call { callee := .value (.func 15), args := #[.tmp 67, .tmp 68], argTypes := #[34, 34] }, 4, some (66, true), false⟩,
  ⟨some (70, false), .pick (.tmp 66) (.tmp 69) (.const (.bool false)), 4, none, true⟩,
  ⟨some (2, true), .assign (.tmp 70), 4, none, true⟩]
theorem law1_PoolRounds_r10_go {K : Env → Heap → Prop} {τ ρ : Env} {h : Heap} : vcOps Try.prog K law1_PoolRounds_r10 τ ρ h = vcOps Try.prog K [
  ⟨some (48, false), .move (.tmp 5), 38, none, true⟩,
  ⟨some (49, false), .binOp .eql 38 (.tmp 48) (.const (.int .i64 0)) 38, 4, none, true⟩,
  ⟨some (50, false), .move (.tmp 49), 4, none, true⟩,
  ⟨some (51, false), .move (.tmp 11), 38, some (50, true), true⟩,
  ⟨some (52, false), .binOp .eql 38 (.tmp 51) (.const (.int .i64 0)) 38, 4, some (50, true), true⟩,
  ⟨some (53, false), .pick (.tmp 50) (.tmp 52) (.const (.bool false)), 4, none, true⟩,
  ⟨some (54, false), .move (.tmp 53), 4, none, true⟩,
  ⟨some (55, false), .move (.tmp 7), 9, some (54, true), true⟩,
  ⟨some (56, false), .move (.tmp 0), 9, some (54, true), true⟩,
  ⟨some (57, false), .move (.tmp 4), 3, some (54, true), true⟩,
  ⟨some (58, false), .slice 9 (.tmp 56) none (some (.tmp 57)) none, 9, some (54, true), true⟩,
  ⟨some (59, false), .binOp .eql 9 (.tmp 55) (.tmp 58) 9, 4, some (54, true), true⟩,
  ⟨some (60, false), .pick (.tmp 54) (.tmp 59) (.const (.bool false)), 4, none, true⟩,
  ⟨some (61, false), .move (.tmp 60), 4, none, true⟩,
  ⟨some (62, false), .move (.tmp 10), 3, some (61, true), true⟩,
  ⟨some (63, false), .move (.tmp 4), 3, some (61, true), true⟩,
  ⟨some (64, false), .binOp .eql 3 (.tmp 62) (.tmp 63) 3, 4, some (61, true), true⟩,
  ⟨some (65, false), .pick (.tmp 61) (.tmp 64) (.const (.bool false)), 4, none, true⟩,
  ⟨some (66, false), .move (.tmp 65), 4, none, true⟩,
  ⟨some (67, false), .move (.tmp 3), 34, some (66, true), true⟩,
  ⟨some (68, false), .move (.tmp 9), 34, some (66, true), true⟩,
  ⟨some (69, false), .call { callee := .value (.func 15), args := #[.tmp 67, .tmp 68], argTypes := #[34, 34] }, 4, some (66, true), false⟩,
  ⟨some (70, false), .pick (.tmp 66) (.tmp 69) (.const (.bool false)), 4, none, true⟩,
  ⟨some (2, true), .assign (.tmp 70), 4, none, true⟩] τ ρ h := _root_.id rfl
def law1_PoolRounds : Cd := .seq (.region law1_PoolRounds_r0) (.seq (.seq (.region law1_PoolRounds_r1) (.cond (.tmp 15) (.seq (.region law1_PoolRounds_r2) (.ret)) (.skip))) (.seq (.seq (.region law1_PoolRounds_r3) (.cond (.tmp 17) (.seq (.region law1_PoolRounds_r4) (.ret)) (.skip))) (.seq (.region law1_PoolRounds_r5) (.seq (.seq (.region law1_PoolRounds_r6) (.cond (.tmp 26) (.seq (.region law1_PoolRounds_r7) (.ret)) (.skip))) (.seq (.region law1_PoolRounds_r8) (.seq (.region law1_PoolRounds_r9) (.seq (.region law1_PoolRounds_r10) (.ret))))))))
theorem law1_PoolRounds_go {Q : Ex → Env → Heap → Prop} {ρ : Env} {h : Heap} : Cd.vc Try.prog law1_PoolRounds Q ρ h = Cd.vc Try.prog (.seq (.region law1_PoolRounds_r0) (.seq (.seq (.region law1_PoolRounds_r1) (.cond (.tmp 15) (.seq (.region law1_PoolRounds_r2) (.ret)) (.skip))) (.seq (.seq (.region law1_PoolRounds_r3) (.cond (.tmp 17) (.seq (.region law1_PoolRounds_r4) (.ret)) (.skip))) (.seq (.region law1_PoolRounds_r5) (.seq (.seq (.region law1_PoolRounds_r6) (.cond (.tmp 26) (.seq (.region law1_PoolRounds_r7) (.ret)) (.skip))) (.seq (.region law1_PoolRounds_r8) (.seq (.region law1_PoolRounds_r9) (.seq (.region law1_PoolRounds_r10) (.ret))))))))) Q ρ h := _root_.id rfl
theorem law1_PoolRounds_calls {args : List Value} {h : Heap} {R : Value → Heap → Prop} (hl : args.length = 1) (hv : Cd.vc Try.prog law1_PoolRounds (retQ Try.prog [(2, none)] R) (initEnv args [0, 2, 3, 4, 5, 7, 9, 10, 11, 15, 17, 26]) h) : HCalls Try.prog 8 args.toArray h R :=
  hcalls_of_vc (by kernel_rfl) Try.func8 (cd := law1_PoolRounds) (L := [0, 2, 3, 4, 5, 7, 9, 10, 11, 15, 17, 26]) (by kernel_rfl) (by kernel_rfl) ⟨by rw [hl, Try.ntmps8]; decide, by rw [Try.ntmps8]; decide⟩ hv
def law1_PoolRounds_gos := And.intro @law1_PoolRounds_go (And.intro @law1_PoolRounds_r0_go (And.intro @law1_PoolRounds_r1_go (And.intro @law1_PoolRounds_r2_go (And.intro @law1_PoolRounds_r3_go (And.intro @law1_PoolRounds_r4_go (And.intro @law1_PoolRounds_r5_go (And.intro @law1_PoolRounds_r6_go (And.intro @law1_PoolRounds_r7_go (And.intro @law1_PoolRounds_r8_go (And.intro @law1_PoolRounds_r9_go (@law1_PoolRounds_r10_go)))))))))))

/-! jvmcore/jvmcorelaw1.same: function 15: slots [0, 1, 4, 5, 10, 12, 13, 14, 24] -/
def law1_same_r0 : List Sop := [
  ⟨some (4, true), .assign (.const (.bool false)), 4, none, true⟩]
theorem law1_same_r0_go {K : Env → Heap → Prop} {τ ρ : Env} {h : Heap} : vcOps Try.prog K law1_same_r0 τ ρ h = vcOps Try.prog K [
  ⟨some (4, true), .assign (.const (.bool false)), 4, none, true⟩] τ ρ h := _root_.id rfl
def law1_same_r1 : List Sop := [
  ⟨some (6, false), .move (.tmp 0), 34, none, true⟩,
  ⟨some (7, false), .call { callee := .builtin .len, args := #[.tmp 6], argTypes := #[34] }, 3, none, true⟩,
  ⟨some (8, false), .move (.tmp 1), 34, none, true⟩,
  ⟨some (9, false), .call { callee := .builtin .len, args := #[.tmp 8], argTypes := #[34] }, 3, none, true⟩,
  ⟨some (10, true), .binOp .neq 3 (.tmp 7) (.tmp 9) 3, 4, none, true⟩]
theorem law1_same_r1_go {K : Env → Heap → Prop} {τ ρ : Env} {h : Heap} : vcOps Try.prog K law1_same_r1 τ ρ h = vcOps Try.prog K [
  ⟨some (6, false), .move (.tmp 0), 34, none, true⟩,
  ⟨some (7, false), .call { callee := .builtin .len, args := #[.tmp 6], argTypes := #[34] }, 3, none, true⟩,
  ⟨some (8, false), .move (.tmp 1), 34, none, true⟩,
  ⟨some (9, false), .call { callee := .builtin .len, args := #[.tmp 8], argTypes := #[34] }, 3, none, true⟩,
  ⟨some (10, true), .binOp .neq 3 (.tmp 7) (.tmp 9) 3, 4, none, true⟩] τ ρ h := _root_.id rfl
def law1_same_r2 : List Sop := [
  ⟨some (4, true), .assign (.const (.bool false)), 4, none, true⟩]
theorem law1_same_r2_go {K : Env → Heap → Prop} {τ ρ : Env} {h : Heap} : vcOps Try.prog K law1_same_r2 τ ρ h = vcOps Try.prog K [
  ⟨some (4, true), .assign (.const (.bool false)), 4, none, true⟩] τ ρ h := _root_.id rfl
def law1_same_r3 : List Sop := [
  ⟨some (11, false), .move (.tmp 0), 34, none, true⟩,
  ⟨some (12, true), .call { callee := .builtin .len, args := #[.tmp 11], argTypes := #[34] }, 3, none, true⟩,
  ⟨some (13, true), .move (.const (.int .i64 0)), 3, none, true⟩]
theorem law1_same_r3_go {K : Env → Heap → Prop} {τ ρ : Env} {h : Heap} : vcOps Try.prog K law1_same_r3 τ ρ h = vcOps Try.prog K [
  ⟨some (11, false), .move (.tmp 0), 34, none, true⟩,
  ⟨some (12, true), .call { callee := .builtin .len, args := #[.tmp 11], argTypes := #[34] }, 3, none, true⟩,
  ⟨some (13, true), .move (.const (.int .i64 0)), 3, none, true⟩] τ ρ h := _root_.id rfl
def law1_same_r4 : List Sop := [
  ⟨some (14, true), .binOp .lss 3 (.tmp 13) (.tmp 12) 3, 0, none, true⟩]
theorem law1_same_r4_go {K : Env → Heap → Prop} {τ ρ : Env} {h : Heap} : vcOps Try.prog K law1_same_r4 τ ρ h = vcOps Try.prog K [
  ⟨some (14, true), .binOp .lss 3 (.tmp 13) (.tmp 12) 3, 0, none, true⟩] τ ρ h := _root_.id rfl
def law1_same_r5 : List Sop := [
  ⟨some (15, false), .move (.tmp 13), 3, none, true⟩,
  ⟨some (5, true), .assign (.tmp 15), 3, none, true⟩]
theorem law1_same_r5_go {K : Env → Heap → Prop} {τ ρ : Env} {h : Heap} : vcOps Try.prog K law1_same_r5 τ ρ h = vcOps Try.prog K [
  ⟨some (15, false), .move (.tmp 13), 3, none, true⟩,
  ⟨some (5, true), .assign (.tmp 15), 3, none, true⟩] τ ρ h := _root_.id rfl
def law1_same_r6 : List (Sop × List Sop) := [
  (⟨some (16, false), .move (.tmp 0), 34, none, true⟩, []),
  (⟨some (17, false), .move (.tmp 5), 3, none, true⟩, []),
  (⟨some (18, false), .indexAddr 34 (.tmp 16) (.tmp 17), 0, none, true⟩, []),
  (⟨some (19, false), .load 37 (.tmp 18), 37, none, true⟩, []),
  (⟨some (20, false), .move (.tmp 1), 34, none, true⟩, []),
  (⟨some (21, false), .move (.tmp 5), 3, none, true⟩, []),
  (⟨some (22, false), .indexAddr 34 (.tmp 20) (.tmp 21), 0, none, true⟩, []),
  (⟨some (23, false), .load 37 (.tmp 22), 37, none, true⟩, []),
  (⟨some (24, true), .binOp .neq 37 (.tmp 19) (.tmp 23) 37, 4, none, true⟩, [])]
theorem law1_same_r6_go {K : Env → Heap → Prop} {τ ρ : Env} {h : Heap} : vcDraw Try.prog K law1_same_r6 τ ρ h = vcDraw Try.prog K [
  (⟨some (16, false), .move (.tmp 0), 34, none, true⟩, []),
  (⟨some (17, false), .move (.tmp 5), 3, none, true⟩, []),
  (⟨some (18, false), .indexAddr 34 (.tmp 16) (.tmp 17), 0, none, true⟩, []),
  (⟨some (19, false), .load 37 (.tmp 18), 37, none, true⟩, []),
  (⟨some (20, false), .move (.tmp 1), 34, none, true⟩, []),
  (⟨some (21, false), .move (.tmp 5), 3, none, true⟩, []),
  (⟨some (22, false), .indexAddr 34 (.tmp 20) (.tmp 21), 0, none, true⟩, []),
  (⟨some (23, false), .load 37 (.tmp 22), 37, none, true⟩, []),
  (⟨some (24, true), .binOp .neq 37 (.tmp 19) (.tmp 23) 37, 4, none, true⟩, [])] τ ρ h := _root_.id rfl
def law1_same_r7 : List Sop := [
  ⟨some (4, true), .assign (.const (.bool false)), 4, none, true⟩]
theorem law1_same_r7_go {K : Env → Heap → Prop} {τ ρ : Env} {h : Heap} : vcOps Try.prog K law1_same_r7 τ ρ h = vcOps Try.prog K [
  ⟨some (4, true), .assign (.const (.bool false)), 4, none, true⟩] τ ρ h := _root_.id rfl
def law1_same_r8 : List Sop := [
  ⟨some (25, false), .binOp .add 3 (.tmp 13) (.const (.int .i64 1)) 3, 3, none, true⟩,
  ⟨some (13, true), .move (.tmp 25), 3, none, true⟩]
theorem law1_same_r8_go {K : Env → Heap → Prop} {τ ρ : Env} {h : Heap} : vcOps Try.prog K law1_same_r8 τ ρ h = vcOps Try.prog K [
  ⟨some (25, false), .binOp .add 3 (.tmp 13) (.const (.int .i64 1)) 3, 3, none, true⟩,
  ⟨some (13, true), .move (.tmp 25), 3, none, true⟩] τ ρ h := _root_.id rfl
def law1_same_r9 : List Sop := [
  ⟨some (4, true), .assign (.const (.bool true)), 4, none, true⟩]
theorem law1_same_r9_go {K : Env → Heap → Prop} {τ ρ : Env} {h : Heap} : vcOps Try.prog K law1_same_r9 τ ρ h = vcOps Try.prog K [
  ⟨some (4, true), .assign (.const (.bool true)), 4, none, true⟩] τ ρ h := _root_.id rfl
def law1_same_l0 : Cd := .seq (.region law1_same_r4) (.seq (.cond (.tmp 14) (.skip) (.exit 0)) (.seq (.block 1 (.seq (.region law1_same_r5) (.seq (.draw law1_same_r6) (.cond (.tmp 24) (.seq (.region law1_same_r7) (.ret)) (.skip))))) (.region law1_same_r8)))
theorem law1_same_l0_go {Q : Ex → Env → Heap → Prop} {ρ : Env} {h : Heap} : Cd.vc Try.prog law1_same_l0 Q ρ h = Cd.vc Try.prog (.seq (.region law1_same_r4) (.seq (.cond (.tmp 14) (.skip) (.exit 0)) (.seq (.block 1 (.seq (.region law1_same_r5) (.seq (.draw law1_same_r6) (.cond (.tmp 24) (.seq (.region law1_same_r7) (.ret)) (.skip))))) (.region law1_same_r8)))) Q ρ h := _root_.id rfl
def law1_same : Cd := .seq (.region law1_same_r0) (.seq (.seq (.region law1_same_r1) (.cond (.tmp 10) (.seq (.region law1_same_r2) (.ret)) (.skip))) (.seq (.seq (.region law1_same_r3) (.block 0 (.loop law1_same_l0))) (.seq (.region law1_same_r9) (.ret))))
theorem law1_same_go {Q : Ex → Env → Heap → Prop} {ρ : Env} {h : Heap} : Cd.vc Try.prog law1_same Q ρ h = Cd.vc Try.prog (.seq (.region law1_same_r0) (.seq (.seq (.region law1_same_r1) (.cond (.tmp 10) (.seq (.region law1_same_r2) (.ret)) (.skip))) (.seq (.seq (.region law1_same_r3) (.block 0 (.loop law1_same_l0))) (.seq (.region law1_same_r9) (.ret))))) Q ρ h := _root_.id rfl
theorem law1_same_calls {args : List Value} {h : Heap} {R : Value → Heap → Prop} (hl : args.length = 2) (hv : Cd.vc Try.prog law1_same (retQ Try.prog [(4, none)] R) (initEnv args [0, 1, 4, 5, 10, 12, 13, 14, 24]) h) : HCalls Try.prog 15 args.toArray h R :=
  hcalls_of_vc (by kernel_rfl) Try.func15 (cd := law1_same) (L := [0, 1, 4, 5, 10, 12, 13, 14, 24]) (by kernel_rfl) (by kernel_rfl) ⟨by rw [hl, Try.ntmps15]; decide, by rw [Try.ntmps15]; decide⟩ hv
def law1_same_gos := And.intro @law1_same_go (And.intro @law1_same_r0_go (And.intro @law1_same_r1_go (And.intro @law1_same_r2_go (And.intro @law1_same_r3_go (And.intro @law1_same_r4_go (And.intro @law1_same_r5_go (And.intro @law1_same_r6_go (And.intro @law1_same_r7_go (And.intro @law1_same_r8_go (And.intro @law1_same_r9_go (@law1_same_l0_go)))))))))))

/-! jvmcore/jvmcorelaw1.poolWorks: function 18: slots [0, 1, 2, 3] -/
def law1_poolWorks_r0 : List Sop := [
  ⟨some (0, true), .assign (.const (.bool false)), 4, none, true⟩]
theorem law1_poolWorks_r0_go {K : Env → Heap → Prop} {τ ρ : Env} {h : Heap} : vcOps Try.prog K law1_poolWorks_r0 τ ρ h = vcOps Try.prog K [
  ⟨some (0, true), .assign (.const (.bool false)), 4, none, true⟩] τ ρ h := _root_.id rfl
def law1_poolWorks_r1 : List Sop := [
  ⟨some (6, false), .call { callee := .value (.func 16), args := #[.const (.string { data := #[0, 2, 1, 0, 1, 97] })], argTypes := #[9] }, 43, none, false⟩,
  ⟨some (5, false), .move (.tmp 6), 43, none, true⟩,
  ⟨some (7, false), .extract (.tmp 5) 0, 34, none, true⟩,
  ⟨some (8, false), .extract (.tmp 5) 1, 3, none, true⟩,
  ⟨some (9, false), .extract (.tmp 5) 2, 38, none, true⟩,
  ⟨some (10, false), .extract (.tmp 5) 3, 3, none, true⟩,
  ⟨some (1, true), .assign (.tmp 7), 34, none, true⟩,
  ⟨some (2, true), .assign (.tmp 8), 3, none, true⟩,
  ⟨some (3, true), .assign (.tmp 9), 38, none, true⟩,
  ⟨some (4, false), .assign (.tmp 10), 3, none, true⟩]
theorem law1_poolWorks_r1_go {K : Env → Heap → Prop} {τ ρ : Env} {h : Heap} : vcOps Try.prog K law1_poolWorks_r1 τ ρ h = vcOps Try.prog K [
  ⟨some (6, false), .call { callee := .value (.func 16), args := #[.const (.string { data := #[0, 2, 1, 0, 1, 97] })], argTypes := #[9] }, 43, none, false⟩,
  ⟨some (5, false), .move (.tmp 6), 43, none, true⟩,
  ⟨some (7, false), .extract (.tmp 5) 0, 34, none, true⟩,
  ⟨some (8, false), .extract (.tmp 5) 1, 3, none, true⟩,
  ⟨some (9, false), .extract (.tmp 5) 2, 38, none, true⟩,
  ⟨some (10, false), .extract (.tmp 5) 3, 3, none, true⟩,
  ⟨some (1, true), .assign (.tmp 7), 34, none, true⟩,
  ⟨some (2, true), .assign (.tmp 8), 3, none, true⟩,
  ⟨some (3, true), .assign (.tmp 9), 38, none, true⟩,
  ⟨some (4, false), .assign (.tmp 10), 3, none, true⟩] τ ρ h := _root_.id rfl
def law1_poolWorks_r2 : List Sop := [
  ⟨some (11, false), .move (.tmp 3), 38, none, true⟩,
  ⟨some (12, false), .binOp .eql 38 (.tmp 11) (.const (.int .i64 0)) 38, 4, none, true⟩,
  ⟨some (13, false), .move (.tmp 12), 4, none, true⟩,
  ⟨some (14, false), .move (.tmp 2), 3, some (13, true), true⟩,
  ⟨some (15, false), .binOp .eql 3 (.tmp 14) (.const (.int .i64 6)) 3, 4, some (13, true), true⟩,
  ⟨some (16, false), .pick (.tmp 13) (.tmp 15) (.const (.bool false)), 4, none, true⟩,
  ⟨some (17, false), .move (.tmp 16), 4, none, true⟩,
  ⟨some (18, false), .move (.tmp 1), 34, some (17, true), true⟩,
  ⟨some (19, false), .call { callee := .builtin .len, args := #[.tmp 18], argTypes := #[34] }, 3, some (17, true), true⟩,
  ⟨some (20, false), .binOp .eql 3 (.tmp 19) (.const (.int .i64 2)) 3, 4, some (17, true), true⟩,
  ⟨some (21, false), .pick (.tmp 17) (.tmp 20) (.const (.bool false)), 4, none, true⟩,
  ⟨some (22, false), .move (.tmp 21), 4, none, true⟩,
  ⟨some (23, false), .move (.tmp 1), 34, some (22, true), true⟩,
  ⟨some (24, false), .indexAddr 34 (.tmp 23) (.const (.int .i64 1)), 0, some (22, true), true⟩,
  ⟨some (25, false), .load 37 (.tmp 24), 37, some (22, true), true⟩,
  ⟨some (26, false), .build 37 #[(0, .const (.int .u8 1)), (1, .const (.string { data := #[97] }))], 37, some (22, true), true⟩,
  ⟨some (27, false), .binOp .eql 37 (.tmp 25) (.tmp 26) 37, 4, some (22, true), true⟩,
  ⟨some (28, false), .pick (.tmp 22) (.tmp 27) (.const (.bool false)), 4, none, true⟩,
  ⟨some (0, true), .assign (.tmp 28), 4, none, true⟩]
theorem law1_poolWorks_r2_go {K : Env → Heap → Prop} {τ ρ : Env} {h : Heap} : vcOps Try.prog K law1_poolWorks_r2 τ ρ h = vcOps Try.prog K [
  ⟨some (11, false), .move (.tmp 3), 38, none, true⟩,
  ⟨some (12, false), .binOp .eql 38 (.tmp 11) (.const (.int .i64 0)) 38, 4, none, true⟩,
  ⟨some (13, false), .move (.tmp 12), 4, none, true⟩,
  ⟨some (14, false), .move (.tmp 2), 3, some (13, true), true⟩,
  ⟨some (15, false), .binOp .eql 3 (.tmp 14) (.const (.int .i64 6)) 3, 4, some (13, true), true⟩,
  ⟨some (16, false), .pick (.tmp 13) (.tmp 15) (.const (.bool false)), 4, none, true⟩,
  ⟨some (17, false), .move (.tmp 16), 4, none, true⟩,
  ⟨some (18, false), .move (.tmp 1), 34, some (17, true), true⟩,
  ⟨some (19, false), .call { callee := .builtin .len, args := #[.tmp 18], argTypes := #[34] }, 3, some (17, true), true⟩,
  ⟨some (20, false), .binOp .eql 3 (.tmp 19) (.const (.int .i64 2)) 3, 4, some (17, true), true⟩,
  ⟨some (21, false), .pick (.tmp 17) (.tmp 20) (.const (.bool false)), 4, none, true⟩,
  ⟨some (22, false), .move (.tmp 21), 4, none, true⟩,
  ⟨some (23, false), .move (.tmp 1), 34, some (22, true), true⟩,
  ⟨some (24, false), .indexAddr 34 (.tmp 23) (.const (.int .i64 1)), 0, some (22, true), true⟩,
  ⟨some (25, false), .load 37 (.tmp 24), 37, some (22, true), true⟩,
  ⟨some (26, false), .build 37 #[(0, .const (.int .u8 1)), (1, .const (.string { data := #[97] }))], 37, some (22, true), true⟩,
  ⟨some (27, false), .binOp .eql 37 (.tmp 25) (.tmp 26) 37, 4, some (22, true), true⟩,
  ⟨some (28, false), .pick (.tmp 22) (.tmp 27) (.const (.bool false)), 4, none, true⟩,
  ⟨some (0, true), .assign (.tmp 28), 4, none, true⟩] τ ρ h := _root_.id rfl
def law1_poolWorks : Cd := .seq (.region law1_poolWorks_r0) (.seq (.region law1_poolWorks_r1) (.seq (.region law1_poolWorks_r2) (.ret)))
theorem law1_poolWorks_go {Q : Ex → Env → Heap → Prop} {ρ : Env} {h : Heap} : Cd.vc Try.prog law1_poolWorks Q ρ h = Cd.vc Try.prog (.seq (.region law1_poolWorks_r0) (.seq (.region law1_poolWorks_r1) (.seq (.region law1_poolWorks_r2) (.ret)))) Q ρ h := _root_.id rfl
theorem law1_poolWorks_calls {args : List Value} {h : Heap} {R : Value → Heap → Prop} (hl : args.length = 0) (hv : Cd.vc Try.prog law1_poolWorks (retQ Try.prog [(0, none)] R) (initEnv args [0, 1, 2, 3]) h) : HCalls Try.prog 18 args.toArray h R :=
  hcalls_of_vc (by kernel_rfl) Try.func18 (cd := law1_poolWorks) (L := [0, 1, 2, 3]) (by kernel_rfl) (by kernel_rfl) ⟨by rw [hl, Try.ntmps18]; decide, by rw [Try.ntmps18]; decide⟩ hv
def law1_poolWorks_gos := And.intro @law1_poolWorks_go (And.intro @law1_poolWorks_r0_go (And.intro @law1_poolWorks_r1_go (@law1_poolWorks_r2_go)))

end Go.Proofs.Ytnpgmbpialokcaa.C
