/- The stripped code of some functions of this seat's program, printed by a program; that it is that code is proved by the kernel. No condition. -/

import Derived.Test.YtjpcpkhegjndeaaProg

import Derived.Test.YtjpcpkhegjndeaaVcH

set_option maxRecDepth 100000

set_option linter.defProp false

namespace Go.Proofs.Ytjpcpkhegjndeaa.C

open Go.Vc

/-! jvmcore/jvmcorelaw2.apart: function 13: slots [0, 2, 3, 4, 5, 6, 7, 8, 10, 12, 14, 15, 16, 23, 24, 25, 43, 44, 45, 60, 61, 62, 79, 80, 81, 82, 87, 88, 89, 90, 97, 100, 101, 102, 103, 110] -/
def law2_apart_r0 : List Sop := [
  ⟨some (2, true), .assign (.const (.bool false)), 4, none, true⟩]
theorem law2_apart_r0_go {K : Env → Heap → Prop} {τ ρ : Env} {h : Heap} : vcOps Try.prog K law2_apart_r0 τ ρ h = vcOps Try.prog K [
  ⟨some (2, true), .assign (.const (.bool false)), 4, none, true⟩] τ ρ h := _root_.id rfl
def law2_apart_r1 : List Sop := [
  ⟨some (13, false), .move (.tmp 0), 22, none, true⟩,
  ⟨some (14, true), .call { callee := .builtin .len, args := #[.tmp 13], argTypes := #[22] }, 3, none, true⟩,
  ⟨some (15, true), .move (.const (.int .i64 0)), 3, none, true⟩]
theorem law2_apart_r1_go {K : Env → Heap → Prop} {τ ρ : Env} {h : Heap} : vcOps Try.prog K law2_apart_r1 τ ρ h = vcOps Try.prog K [
  ⟨some (13, false), .move (.tmp 0), 22, none, true⟩,
  ⟨some (14, true), .call { callee := .builtin .len, args := #[.tmp 13], argTypes := #[22] }, 3, none, true⟩,
  ⟨some (15, true), .move (.const (.int .i64 0)), 3, none, true⟩] τ ρ h := _root_.id rfl
def law2_apart_r2 : List Sop := [
  ⟨some (16, true), .binOp .lss 3 (.tmp 15) (.tmp 14) 3, 0, none, true⟩]
theorem law2_apart_r2_go {K : Env → Heap → Prop} {τ ρ : Env} {h : Heap} : vcOps Try.prog K law2_apart_r2 τ ρ h = vcOps Try.prog K [
  ⟨some (16, true), .binOp .lss 3 (.tmp 15) (.tmp 14) 3, 0, none, true⟩] τ ρ h := _root_.id rfl
def law2_apart_r3 : List Sop := [
  ⟨some (17, false), .move (.tmp 15), 3, none, true⟩,
  ⟨some (3, true), .assign (.tmp 17), 3, none, true⟩]
theorem law2_apart_r3_go {K : Env → Heap → Prop} {τ ρ : Env} {h : Heap} : vcOps Try.prog K law2_apart_r3 τ ρ h = vcOps Try.prog K [
  ⟨some (17, false), .move (.tmp 15), 3, none, true⟩,
  ⟨some (3, true), .assign (.tmp 17), 3, none, true⟩] τ ρ h := _root_.id rfl
def law2_apart_r4 : List Sop := [
  ⟨some (18, false), .move (.tmp 0), 22, none, true⟩,
  ⟨some (19, false), .move (.tmp 3), 3, none, true⟩,
  ⟨some (20, false), .indexAddr 22 (.tmp 18) (.tmp 19), 0, none, true⟩,
  ⟨some (21, false), .fieldAddr 35 (.tmp 20) 6, 0, none, true⟩,
  ⟨some (22, false), .load 33 (.tmp 21), 33, none, true⟩,
  ⟨some (23, true), .call { callee := .builtin .len, args := #[.tmp 22], argTypes := #[33] }, 3, none, true⟩,
  ⟨some (24, true), .move (.const (.int .i64 0)), 3, none, true⟩]
theorem law2_apart_r4_go {K : Env → Heap → Prop} {τ ρ : Env} {h : Heap} : vcOps Try.prog K law2_apart_r4 τ ρ h = vcOps Try.prog K [
  ⟨some (18, false), .move (.tmp 0), 22, none, true⟩,
  ⟨some (19, false), .move (.tmp 3), 3, none, true⟩,
  ⟨some (20, false), .indexAddr 22 (.tmp 18) (.tmp 19), 0, none, true⟩,
  ⟨some (21, false), .fieldAddr 35 (.tmp 20) 6, 0, none, true⟩,
  ⟨some (22, false), .load 33 (.tmp 21), 33, none, true⟩,
  ⟨some (23, true), .call { callee := .builtin .len, args := #[.tmp 22], argTypes := #[33] }, 3, none, true⟩,
  ⟨some (24, true), .move (.const (.int .i64 0)), 3, none, true⟩] τ ρ h := _root_.id rfl
def law2_apart_r5 : List Sop := [
  ⟨some (25, true), .binOp .lss 3 (.tmp 24) (.tmp 23) 3, 0, none, true⟩]
theorem law2_apart_r5_go {K : Env → Heap → Prop} {τ ρ : Env} {h : Heap} : vcOps Try.prog K law2_apart_r5 τ ρ h = vcOps Try.prog K [
  ⟨some (25, true), .binOp .lss 3 (.tmp 24) (.tmp 23) 3, 0, none, true⟩] τ ρ h := _root_.id rfl
def law2_apart_r6 : List Sop := [
  ⟨some (26, false), .move (.tmp 24), 3, none, true⟩,
  ⟨some (4, true), .assign (.tmp 26), 3, none, true⟩]
theorem law2_apart_r6_go {K : Env → Heap → Prop} {τ ρ : Env} {h : Heap} : vcOps Try.prog K law2_apart_r6 τ ρ h = vcOps Try.prog K [
  ⟨some (26, false), .move (.tmp 24), 3, none, true⟩,
  ⟨some (4, true), .assign (.tmp 26), 3, none, true⟩] τ ρ h := _root_.id rfl
def law2_apart_r7 : List Sop := [
  ⟨some (27, false), .move (.tmp 0), 22, none, true⟩,
  ⟨some (28, false), .move (.tmp 3), 3, none, true⟩,
  ⟨some (29, false), .indexAddr 22 (.tmp 27) (.tmp 28), 0, none, true⟩,
  ⟨some (30, false), .fieldAddr 35 (.tmp 29) 6, 0, none, true⟩,
  ⟨some (31, false), .load 33 (.tmp 30), 33, none, true⟩,
  ⟨some (32, false), .move (.tmp 4), 3, none, true⟩,
  ⟨some (33, false), .move (.tmp 3), 3, none, true⟩,
  ⟨some (34, false), .binOp .mul 3 (.const (.int .i64 2)) (.tmp 33) 3, 3, none, true⟩,
  ⟨some (35, false), .binOp .add 3 (.tmp 34) (.const (.int .i64 1000000)) 3, 3, none, true⟩,
  ⟨some (36, false), .indexAddr 33 (.tmp 31) (.tmp 32), 0, none, true⟩,
  ⟨none, .store 3 (.tmp 36) (.tmp 35), 0, none, false⟩]
theorem law2_apart_r7_go {K : Env → Heap → Prop} {τ ρ : Env} {h : Heap} : vcOps Try.prog K law2_apart_r7 τ ρ h = vcOps Try.prog K [
  ⟨some (27, false), .move (.tmp 0), 22, none, true⟩,
  ⟨some (28, false), .move (.tmp 3), 3, none, true⟩,
  ⟨some (29, false), .indexAddr 22 (.tmp 27) (.tmp 28), 0, none, true⟩,
  ⟨some (30, false), .fieldAddr 35 (.tmp 29) 6, 0, none, true⟩,
  ⟨some (31, false), .load 33 (.tmp 30), 33, none, true⟩,
  ⟨some (32, false), .move (.tmp 4), 3, none, true⟩,
  ⟨some (33, false), .move (.tmp 3), 3, none, true⟩,
  ⟨some (34, false), .binOp .mul 3 (.const (.int .i64 2)) (.tmp 33) 3, 3, none, true⟩,
  ⟨some (35, false), .binOp .add 3 (.tmp 34) (.const (.int .i64 1000000)) 3, 3, none, true⟩,
  ⟨some (36, false), .indexAddr 33 (.tmp 31) (.tmp 32), 0, none, true⟩,
  ⟨none, .store 3 (.tmp 36) (.tmp 35), 0, none, false⟩] τ ρ h := _root_.id rfl
def law2_apart_r8 : List Sop := [
  ⟨some (37, false), .binOp .add 3 (.tmp 24) (.const (.int .i64 1)) 3, 3, none, true⟩,
  ⟨some (24, true), .move (.tmp 37), 3, none, true⟩]
theorem law2_apart_r8_go {K : Env → Heap → Prop} {τ ρ : Env} {h : Heap} : vcOps Try.prog K law2_apart_r8 τ ρ h = vcOps Try.prog K [
  ⟨some (37, false), .binOp .add 3 (.tmp 24) (.const (.int .i64 1)) 3, 3, none, true⟩,
  ⟨some (24, true), .move (.tmp 37), 3, none, true⟩] τ ρ h := _root_.id rfl
def law2_apart_r9 : List Sop := [
  ⟨some (38, false), .move (.tmp 0), 22, none, true⟩,
  ⟨some (39, false), .move (.tmp 3), 3, none, true⟩,
  ⟨some (40, false), .indexAddr 22 (.tmp 38) (.tmp 39), 0, none, true⟩,
  ⟨some (41, false), .fieldAddr 35 (.tmp 40) 7, 0, none, true⟩,
  ⟨some (42, false), .load 33 (.tmp 41), 33, none, true⟩,
  ⟨some (43, true), .call { callee := .builtin .len, args := #[.tmp 42], argTypes := #[33] }, 3, none, true⟩,
  ⟨some (44, true), .move (.const (.int .i64 0)), 3, none, true⟩]
theorem law2_apart_r9_go {K : Env → Heap → Prop} {τ ρ : Env} {h : Heap} : vcOps Try.prog K law2_apart_r9 τ ρ h = vcOps Try.prog K [
  ⟨some (38, false), .move (.tmp 0), 22, none, true⟩,
  ⟨some (39, false), .move (.tmp 3), 3, none, true⟩,
  ⟨some (40, false), .indexAddr 22 (.tmp 38) (.tmp 39), 0, none, true⟩,
  ⟨some (41, false), .fieldAddr 35 (.tmp 40) 7, 0, none, true⟩,
  ⟨some (42, false), .load 33 (.tmp 41), 33, none, true⟩,
  ⟨some (43, true), .call { callee := .builtin .len, args := #[.tmp 42], argTypes := #[33] }, 3, none, true⟩,
  ⟨some (44, true), .move (.const (.int .i64 0)), 3, none, true⟩] τ ρ h := _root_.id rfl
def law2_apart_r10 : List Sop := [
  ⟨some (45, true), .binOp .lss 3 (.tmp 44) (.tmp 43) 3, 0, none, true⟩]
theorem law2_apart_r10_go {K : Env → Heap → Prop} {τ ρ : Env} {h : Heap} : vcOps Try.prog K law2_apart_r10 τ ρ h = vcOps Try.prog K [
  ⟨some (45, true), .binOp .lss 3 (.tmp 44) (.tmp 43) 3, 0, none, true⟩] τ ρ h := _root_.id rfl
def law2_apart_r11 : List Sop := [
  ⟨some (46, false), .move (.tmp 44), 3, none, true⟩,
  ⟨some (5, true), .assign (.tmp 46), 3, none, true⟩]
theorem law2_apart_r11_go {K : Env → Heap → Prop} {τ ρ : Env} {h : Heap} : vcOps Try.prog K law2_apart_r11 τ ρ h = vcOps Try.prog K [
  ⟨some (46, false), .move (.tmp 44), 3, none, true⟩,
  ⟨some (5, true), .assign (.tmp 46), 3, none, true⟩] τ ρ h := _root_.id rfl
def law2_apart_r12 : List Sop := [
  ⟨some (47, false), .move (.tmp 0), 22, none, true⟩,
  ⟨some (48, false), .move (.tmp 3), 3, none, true⟩,
  ⟨some (49, false), .indexAddr 22 (.tmp 47) (.tmp 48), 0, none, true⟩,
  ⟨some (50, false), .fieldAddr 35 (.tmp 49) 7, 0, none, true⟩,
  ⟨some (51, false), .load 33 (.tmp 50), 33, none, true⟩,
  ⟨some (52, false), .move (.tmp 5), 3, none, true⟩,
  ⟨some (53, false), .move (.tmp 3), 3, none, true⟩,
  ⟨some (54, false), .binOp .mul 3 (.const (.int .i64 2)) (.tmp 53) 3, 3, none, true⟩,
  ⟨some (55, false), .binOp .add 3 (.tmp 54) (.const (.int .i64 1000001)) 3, 3, none, true⟩,
  ⟨some (56, false), .indexAddr 33 (.tmp 51) (.tmp 52), 0, none, true⟩,
  ⟨none, .store 3 (.tmp 56) (.tmp 55), 0, none, false⟩]
theorem law2_apart_r12_go {K : Env → Heap → Prop} {τ ρ : Env} {h : Heap} : vcOps Try.prog K law2_apart_r12 τ ρ h = vcOps Try.prog K [
  ⟨some (47, false), .move (.tmp 0), 22, none, true⟩,
  ⟨some (48, false), .move (.tmp 3), 3, none, true⟩,
  ⟨some (49, false), .indexAddr 22 (.tmp 47) (.tmp 48), 0, none, true⟩,
  ⟨some (50, false), .fieldAddr 35 (.tmp 49) 7, 0, none, true⟩,
  ⟨some (51, false), .load 33 (.tmp 50), 33, none, true⟩,
  ⟨some (52, false), .move (.tmp 5), 3, none, true⟩,
  ⟨some (53, false), .move (.tmp 3), 3, none, true⟩,
  ⟨some (54, false), .binOp .mul 3 (.const (.int .i64 2)) (.tmp 53) 3, 3, none, true⟩,
  ⟨some (55, false), .binOp .add 3 (.tmp 54) (.const (.int .i64 1000001)) 3, 3, none, true⟩,
  ⟨some (56, false), .indexAddr 33 (.tmp 51) (.tmp 52), 0, none, true⟩,
  ⟨none, .store 3 (.tmp 56) (.tmp 55), 0, none, false⟩] τ ρ h := _root_.id rfl
def law2_apart_r13 : List Sop := [
  ⟨some (57, false), .binOp .add 3 (.tmp 44) (.const (.int .i64 1)) 3, 3, none, true⟩,
  ⟨some (44, true), .move (.tmp 57), 3, none, true⟩]
theorem law2_apart_r13_go {K : Env → Heap → Prop} {τ ρ : Env} {h : Heap} : vcOps Try.prog K law2_apart_r13 τ ρ h = vcOps Try.prog K [
  ⟨some (57, false), .binOp .add 3 (.tmp 44) (.const (.int .i64 1)) 3, 3, none, true⟩,
  ⟨some (44, true), .move (.tmp 57), 3, none, true⟩] τ ρ h := _root_.id rfl
def law2_apart_r14 : List Sop := [
  ⟨some (58, false), .binOp .add 3 (.tmp 15) (.const (.int .i64 1)) 3, 3, none, true⟩,
  ⟨some (15, true), .move (.tmp 58), 3, none, true⟩]
theorem law2_apart_r14_go {K : Env → Heap → Prop} {τ ρ : Env} {h : Heap} : vcOps Try.prog K law2_apart_r14 τ ρ h = vcOps Try.prog K [
  ⟨some (58, false), .binOp .add 3 (.tmp 15) (.const (.int .i64 1)) 3, 3, none, true⟩,
  ⟨some (15, true), .move (.tmp 58), 3, none, true⟩] τ ρ h := _root_.id rfl
def law2_apart_r15 : List Sop := [
  ⟨some (59, false), .move (.tmp 0), 22, none, true⟩,
  ⟨some (60, true), .call { callee := .builtin .len, args := #[.tmp 59], argTypes := #[22] }, 3, none, true⟩,
  ⟨some (61, true), .move (.const (.int .i64 0)), 3, none, true⟩]
theorem law2_apart_r15_go {K : Env → Heap → Prop} {τ ρ : Env} {h : Heap} : vcOps Try.prog K law2_apart_r15 τ ρ h = vcOps Try.prog K [
  ⟨some (59, false), .move (.tmp 0), 22, none, true⟩,
  ⟨some (60, true), .call { callee := .builtin .len, args := #[.tmp 59], argTypes := #[22] }, 3, none, true⟩,
  ⟨some (61, true), .move (.const (.int .i64 0)), 3, none, true⟩] τ ρ h := _root_.id rfl
def law2_apart_r16 : List Sop := [
  ⟨some (62, true), .binOp .lss 3 (.tmp 61) (.tmp 60) 3, 0, none, true⟩]
theorem law2_apart_r16_go {K : Env → Heap → Prop} {τ ρ : Env} {h : Heap} : vcOps Try.prog K law2_apart_r16 τ ρ h = vcOps Try.prog K [
  ⟨some (62, true), .binOp .lss 3 (.tmp 61) (.tmp 60) 3, 0, none, true⟩] τ ρ h := _root_.id rfl
def law2_apart_r17 : List Sop := [
  ⟨some (63, false), .move (.tmp 61), 3, none, true⟩,
  ⟨some (6, true), .assign (.tmp 63), 3, none, true⟩]
theorem law2_apart_r17_go {K : Env → Heap → Prop} {τ ρ : Env} {h : Heap} : vcOps Try.prog K law2_apart_r17 τ ρ h = vcOps Try.prog K [
  ⟨some (63, false), .move (.tmp 61), 3, none, true⟩,
  ⟨some (6, true), .assign (.tmp 63), 3, none, true⟩] τ ρ h := _root_.id rfl
def law2_apart_r18 : List Sop := [
  ⟨some (64, false), .move (.tmp 0), 22, none, true⟩,
  ⟨some (65, false), .move (.tmp 6), 3, none, true⟩,
  ⟨some (66, false), .indexAddr 22 (.tmp 64) (.tmp 65), 0, none, true⟩,
  ⟨some (67, false), .fieldAddr 35 (.tmp 66) 6, 0, none, true⟩,
  ⟨some (68, false), .load 33 (.tmp 67), 33, none, true⟩,
  ⟨some (69, false), .buildSlice 33 2 #[(0, .const (.int .i64 (-1))), (1, .const (.int .i64 (-1)))], 33, none, false⟩,
  ⟨some (70, false), .call { callee := .builtin .append, args := #[.tmp 68, .tmp 69], argTypes := #[33, 33] }, 33, none, false⟩]
theorem law2_apart_r18_go {K : Env → Heap → Prop} {τ ρ : Env} {h : Heap} : vcOps Try.prog K law2_apart_r18 τ ρ h = vcOps Try.prog K [
  ⟨some (64, false), .move (.tmp 0), 22, none, true⟩,
  ⟨some (65, false), .move (.tmp 6), 3, none, true⟩,
  ⟨some (66, false), .indexAddr 22 (.tmp 64) (.tmp 65), 0, none, true⟩,
  ⟨some (67, false), .fieldAddr 35 (.tmp 66) 6, 0, none, true⟩,
  ⟨some (68, false), .load 33 (.tmp 67), 33, none, true⟩,
  ⟨some (69, false), .buildSlice 33 2 #[(0, .const (.int .i64 (-1))), (1, .const (.int .i64 (-1)))], 33, none, false⟩,
  ⟨some (70, false), .call { callee := .builtin .append, args := #[.tmp 68, .tmp 69], argTypes := #[33, 33] }, 33, none, false⟩] τ ρ h := _root_.id rfl
def law2_apart_r19 : List Sop := [
  ⟨some (71, false), .move (.tmp 0), 22, none, true⟩,
  ⟨some (72, false), .move (.tmp 6), 3, none, true⟩,
  ⟨some (73, false), .indexAddr 22 (.tmp 71) (.tmp 72), 0, none, true⟩,
  ⟨some (74, false), .fieldAddr 35 (.tmp 73) 7, 0, none, true⟩,
  ⟨some (75, false), .load 33 (.tmp 74), 33, none, true⟩,
  ⟨some (76, false), .buildSlice 33 2 #[(0, .const (.int .i64 (-1))), (1, .const (.int .i64 (-1)))], 33, none, false⟩,
  ⟨some (77, false), .call { callee := .builtin .append, args := #[.tmp 75, .tmp 76], argTypes := #[33, 33] }, 33, none, false⟩]
theorem law2_apart_r19_go {K : Env → Heap → Prop} {τ ρ : Env} {h : Heap} : vcOps Try.prog K law2_apart_r19 τ ρ h = vcOps Try.prog K [
  ⟨some (71, false), .move (.tmp 0), 22, none, true⟩,
  ⟨some (72, false), .move (.tmp 6), 3, none, true⟩,
  ⟨some (73, false), .indexAddr 22 (.tmp 71) (.tmp 72), 0, none, true⟩,
  ⟨some (74, false), .fieldAddr 35 (.tmp 73) 7, 0, none, true⟩,
  ⟨some (75, false), .load 33 (.tmp 74), 33, none, true⟩,
  ⟨some (76, false), .buildSlice 33 2 #[(0, .const (.int .i64 (-1))), (1, .const (.int .i64 (-1)))], 33, none, false⟩,
  ⟨some (77, false), .call { callee := .builtin .append, args := #[.tmp 75, .tmp 76], argTypes := #[33, 33] }, 33, none, false⟩] τ ρ h := _root_.id rfl
def law2_apart_r20 : List Sop := [
  ⟨some (78, false), .binOp .add 3 (.tmp 61) (.const (.int .i64 1)) 3, 3, none, true⟩,
  ⟨some (61, true), .move (.tmp 78), 3, none, true⟩]
theorem law2_apart_r20_go {K : Env → Heap → Prop} {τ ρ : Env} {h : Heap} : vcOps Try.prog K law2_apart_r20 τ ρ h = vcOps Try.prog K [
  ⟨some (78, false), .binOp .add 3 (.tmp 61) (.const (.int .i64 1)) 3, 3, none, true⟩,
  ⟨some (61, true), .move (.tmp 78), 3, none, true⟩] τ ρ h := _root_.id rfl
def law2_apart_r21 : List Sop := [
  ⟨some (79, true), .move (.tmp 0), 22, none, true⟩,
  ⟨some (80, true), .call { callee := .builtin .len, args := #[.tmp 79], argTypes := #[22] }, 3, none, true⟩,
  ⟨some (81, true), .move (.const (.int .i64 0)), 3, none, true⟩]
theorem law2_apart_r21_go {K : Env → Heap → Prop} {τ ρ : Env} {h : Heap} : vcOps Try.prog K law2_apart_r21 τ ρ h = vcOps Try.prog K [
  ⟨some (79, true), .move (.tmp 0), 22, none, true⟩,
  ⟨some (80, true), .call { callee := .builtin .len, args := #[.tmp 79], argTypes := #[22] }, 3, none, true⟩,
  ⟨some (81, true), .move (.const (.int .i64 0)), 3, none, true⟩] τ ρ h := _root_.id rfl
def law2_apart_r22 : List Sop := [
  ⟨some (82, true), .binOp .lss 3 (.tmp 81) (.tmp 80) 3, 0, none, true⟩]
theorem law2_apart_r22_go {K : Env → Heap → Prop} {τ ρ : Env} {h : Heap} : vcOps Try.prog K law2_apart_r22 τ ρ h = vcOps Try.prog K [
  ⟨some (82, true), .binOp .lss 3 (.tmp 81) (.tmp 80) 3, 0, none, true⟩] τ ρ h := _root_.id rfl
def law2_apart_r23 : List Sop := [
  ⟨some (83, false), .move (.tmp 81), 3, none, true⟩,
  ⟨some (84, false), .indexAddr 22 (.tmp 79) (.tmp 81), 0, none, true⟩,
  ⟨some (85, false), .load 35 (.tmp 84), 35, none, true⟩,
  ⟨some (8, true), .alloc 35, 0, none, false⟩,
  ⟨some (7, true), .assign (.tmp 83), 3, none, true⟩,
  ⟨none, .store 35 (.tmp 8) (.tmp 85), 0, none, false⟩]
theorem law2_apart_r23_go {K : Env → Heap → Prop} {τ ρ : Env} {h : Heap} : vcOps Try.prog K law2_apart_r23 τ ρ h = vcOps Try.prog K [
  ⟨some (83, false), .move (.tmp 81), 3, none, true⟩,
  ⟨some (84, false), .indexAddr 22 (.tmp 79) (.tmp 81), 0, none, true⟩,
  ⟨some (85, false), .load 35 (.tmp 84), 35, none, true⟩,
  ⟨some (8, true), .alloc 35, 0, none, false⟩,
  ⟨some (7, true), .assign (.tmp 83), 3, none, true⟩,
  ⟨none, .store 35 (.tmp 8) (.tmp 85), 0, none, false⟩] τ ρ h := _root_.id rfl
def law2_apart_r24 : List Sop := [
  ⟨some (86, false), .fieldAddr 35 (.tmp 8) 6, 0, none, true⟩,
  ⟨some (87, true), .load 33 (.tmp 86), 33, none, true⟩,
  ⟨some (88, true), .call { callee := .builtin .len, args := #[.tmp 87], argTypes := #[33] }, 3, none, true⟩,
  ⟨some (89, true), .move (.const (.int .i64 0)), 3, none, true⟩]
theorem law2_apart_r24_go {K : Env → Heap → Prop} {τ ρ : Env} {h : Heap} : vcOps Try.prog K law2_apart_r24 τ ρ h = vcOps Try.prog K [
  ⟨some (86, false), .fieldAddr 35 (.tmp 8) 6, 0, none, true⟩,
  ⟨some (87, true), .load 33 (.tmp 86), 33, none, true⟩,
  ⟨some (88, true), .call { callee := .builtin .len, args := #[.tmp 87], argTypes := #[33] }, 3, none, true⟩,
  ⟨some (89, true), .move (.const (.int .i64 0)), 3, none, true⟩] τ ρ h := _root_.id rfl
def law2_apart_r25 : List Sop := [
  ⟨some (90, true), .binOp .lss 3 (.tmp 89) (.tmp 88) 3, 0, none, true⟩]
theorem law2_apart_r25_go {K : Env → Heap → Prop} {τ ρ : Env} {h : Heap} : vcOps Try.prog K law2_apart_r25 τ ρ h = vcOps Try.prog K [
  ⟨some (90, true), .binOp .lss 3 (.tmp 89) (.tmp 88) 3, 0, none, true⟩] τ ρ h := _root_.id rfl
def law2_apart_r26 : List Sop := [
  ⟨some (91, false), .indexAddr 33 (.tmp 87) (.tmp 89), 0, none, true⟩,
  ⟨some (92, false), .load 3 (.tmp 91), 3, none, true⟩,
  ⟨some (10, true), .assign (.tmp 92), 3, none, true⟩]
theorem law2_apart_r26_go {K : Env → Heap → Prop} {τ ρ : Env} {h : Heap} : vcOps Try.prog K law2_apart_r26 τ ρ h = vcOps Try.prog K [
  ⟨some (91, false), .indexAddr 33 (.tmp 87) (.tmp 89), 0, none, true⟩,
  ⟨some (92, false), .load 3 (.tmp 91), 3, none, true⟩,
  ⟨some (10, true), .assign (.tmp 92), 3, none, true⟩] τ ρ h := _root_.id rfl
def law2_apart_r27 : List Sop := [
  ⟨some (93, false), .move (.tmp 10), 3, none, true⟩,
  ⟨some (94, false), .move (.tmp 7), 3, none, true⟩,
  ⟨some (95, false), .binOp .mul 3 (.const (.int .i64 2)) (.tmp 94) 3, 3, none, true⟩,
  ⟨some (96, false), .binOp .add 3 (.tmp 95) (.const (.int .i64 1000000)) 3, 3, none, true⟩,
  ⟨some (97, true), .binOp .neq 3 (.tmp 93) (.tmp 96) 3, 4, none, true⟩]
theorem law2_apart_r27_go {K : Env → Heap → Prop} {τ ρ : Env} {h : Heap} : vcOps Try.prog K law2_apart_r27 τ ρ h = vcOps Try.prog K [
  ⟨some (93, false), .move (.tmp 10), 3, none, true⟩,
  ⟨some (94, false), .move (.tmp 7), 3, none, true⟩,
  ⟨some (95, false), .binOp .mul 3 (.const (.int .i64 2)) (.tmp 94) 3, 3, none, true⟩,
  ⟨some (96, false), .binOp .add 3 (.tmp 95) (.const (.int .i64 1000000)) 3, 3, none, true⟩,
  ⟨some (97, true), .binOp .neq 3 (.tmp 93) (.tmp 96) 3, 4, none, true⟩] τ ρ h := _root_.id rfl
def law2_apart_r28 : List Sop := [
  ⟨some (2, true), .assign (.const (.bool false)), 4, none, true⟩]
theorem law2_apart_r28_go {K : Env → Heap → Prop} {τ ρ : Env} {h : Heap} : vcOps Try.prog K law2_apart_r28 τ ρ h = vcOps Try.prog K [
  ⟨some (2, true), .assign (.const (.bool false)), 4, none, true⟩] τ ρ h := _root_.id rfl
def law2_apart_r29 : List Sop := [
  ⟨some (98, false), .binOp .add 3 (.tmp 89) (.const (.int .i64 1)) 3, 3, none, true⟩,
  ⟨some (89, true), .move (.tmp 98), 3, none, true⟩]
theorem law2_apart_r29_go {K : Env → Heap → Prop} {τ ρ : Env} {h : Heap} : vcOps Try.prog K law2_apart_r29 τ ρ h = vcOps Try.prog K [
  ⟨some (98, false), .binOp .add 3 (.tmp 89) (.const (.int .i64 1)) 3, 3, none, true⟩,
  ⟨some (89, true), .move (.tmp 98), 3, none, true⟩] τ ρ h := _root_.id rfl
def law2_apart_r30 : List Sop := [
  ⟨some (99, false), .fieldAddr 35 (.tmp 8) 7, 0, none, true⟩,
  ⟨some (100, true), .load 33 (.tmp 99), 33, none, true⟩,
  ⟨some (101, true), .call { callee := .builtin .len, args := #[.tmp 100], argTypes := #[33] }, 3, none, true⟩,
  ⟨some (102, true), .move (.const (.int .i64 0)), 3, none, true⟩]
theorem law2_apart_r30_go {K : Env → Heap → Prop} {τ ρ : Env} {h : Heap} : vcOps Try.prog K law2_apart_r30 τ ρ h = vcOps Try.prog K [
  ⟨some (99, false), .fieldAddr 35 (.tmp 8) 7, 0, none, true⟩,
  ⟨some (100, true), .load 33 (.tmp 99), 33, none, true⟩,
  ⟨some (101, true), .call { callee := .builtin .len, args := #[.tmp 100], argTypes := #[33] }, 3, none, true⟩,
  ⟨some (102, true), .move (.const (.int .i64 0)), 3, none, true⟩] τ ρ h := _root_.id rfl
def law2_apart_r31 : List Sop := [
  ⟨some (103, true), .binOp .lss 3 (.tmp 102) (.tmp 101) 3, 0, none, true⟩]
theorem law2_apart_r31_go {K : Env → Heap → Prop} {τ ρ : Env} {h : Heap} : vcOps Try.prog K law2_apart_r31 τ ρ h = vcOps Try.prog K [
  ⟨some (103, true), .binOp .lss 3 (.tmp 102) (.tmp 101) 3, 0, none, true⟩] τ ρ h := _root_.id rfl
def law2_apart_r32 : List Sop := [
  ⟨some (104, false), .indexAddr 33 (.tmp 100) (.tmp 102), 0, none, true⟩,
  ⟨some (105, false), .load 3 (.tmp 104), 3, none, true⟩,
  ⟨some (12, true), .assign (.tmp 105), 3, none, true⟩]
theorem law2_apart_r32_go {K : Env → Heap → Prop} {τ ρ : Env} {h : Heap} : vcOps Try.prog K law2_apart_r32 τ ρ h = vcOps Try.prog K [
  ⟨some (104, false), .indexAddr 33 (.tmp 100) (.tmp 102), 0, none, true⟩,
  ⟨some (105, false), .load 3 (.tmp 104), 3, none, true⟩,
  ⟨some (12, true), .assign (.tmp 105), 3, none, true⟩] τ ρ h := _root_.id rfl
def law2_apart_r33 : List Sop := [
  ⟨some (106, false), .move (.tmp 12), 3, none, true⟩,
  ⟨some (107, false), .move (.tmp 7), 3, none, true⟩,
  ⟨some (108, false), .binOp .mul 3 (.const (.int .i64 2)) (.tmp 107) 3, 3, none, true⟩,
  ⟨some (109, false), .binOp .add 3 (.tmp 108) (.const (.int .i64 1000001)) 3, 3, none, true⟩,
  ⟨some (110, true), .binOp .neq 3 (.tmp 106) (.tmp 109) 3, 4, none, true⟩]
theorem law2_apart_r33_go {K : Env → Heap → Prop} {τ ρ : Env} {h : Heap} : vcOps Try.prog K law2_apart_r33 τ ρ h = vcOps Try.prog K [
  ⟨some (106, false), .move (.tmp 12), 3, none, true⟩,
  ⟨some (107, false), .move (.tmp 7), 3, none, true⟩,
  ⟨some (108, false), .binOp .mul 3 (.const (.int .i64 2)) (.tmp 107) 3, 3, none, true⟩,
  ⟨some (109, false), .binOp .add 3 (.tmp 108) (.const (.int .i64 1000001)) 3, 3, none, true⟩,
  ⟨some (110, true), .binOp .neq 3 (.tmp 106) (.tmp 109) 3, 4, none, true⟩] τ ρ h := _root_.id rfl
def law2_apart_r34 : List Sop := [
  ⟨some (2, true), .assign (.const (.bool false)), 4, none, true⟩]
theorem law2_apart_r34_go {K : Env → Heap → Prop} {τ ρ : Env} {h : Heap} : vcOps Try.prog K law2_apart_r34 τ ρ h = vcOps Try.prog K [
  ⟨some (2, true), .assign (.const (.bool false)), 4, none, true⟩] τ ρ h := _root_.id rfl
def law2_apart_r35 : List Sop := [
  ⟨some (111, false), .binOp .add 3 (.tmp 102) (.const (.int .i64 1)) 3, 3, none, true⟩,
  ⟨some (102, true), .move (.tmp 111), 3, none, true⟩]
theorem law2_apart_r35_go {K : Env → Heap → Prop} {τ ρ : Env} {h : Heap} : vcOps Try.prog K law2_apart_r35 τ ρ h = vcOps Try.prog K [
  ⟨some (111, false), .binOp .add 3 (.tmp 102) (.const (.int .i64 1)) 3, 3, none, true⟩,
  ⟨some (102, true), .move (.tmp 111), 3, none, true⟩] τ ρ h := _root_.id rfl
def law2_apart_r36 : List Sop := [
  ⟨some (112, false), .binOp .add 3 (.tmp 81) (.const (.int .i64 1)) 3, 3, none, true⟩,
  ⟨some (81, true), .move (.tmp 112), 3, none, true⟩]
theorem law2_apart_r36_go {K : Env → Heap → Prop} {τ ρ : Env} {h : Heap} : vcOps Try.prog K law2_apart_r36 τ ρ h = vcOps Try.prog K [
  ⟨some (112, false), .binOp .add 3 (.tmp 81) (.const (.int .i64 1)) 3, 3, none, true⟩,
  ⟨some (81, true), .move (.tmp 112), 3, none, true⟩] τ ρ h := _root_.id rfl
def law2_apart_r37 : List Sop := [
  ⟨some (2, true), .assign (.const (.bool true)), 4, none, true⟩]
theorem law2_apart_r37_go {K : Env → Heap → Prop} {τ ρ : Env} {h : Heap} : vcOps Try.prog K law2_apart_r37 τ ρ h = vcOps Try.prog K [
  ⟨some (2, true), .assign (.const (.bool true)), 4, none, true⟩] τ ρ h := _root_.id rfl
def law2_apart_l0 : Cd := .seq (.region law2_apart_r5) (.seq (.cond (.tmp 25) (.skip) (.exit 2)) (.seq (.block 3 (.seq (.region law2_apart_r6) (.region law2_apart_r7))) (.region law2_apart_r8)))
theorem law2_apart_l0_go {Q : Ex → Env → Heap → Prop} {ρ : Env} {h : Heap} : Cd.vc Try.prog law2_apart_l0 Q ρ h = Cd.vc Try.prog (.seq (.region law2_apart_r5) (.seq (.cond (.tmp 25) (.skip) (.exit 2)) (.seq (.block 3 (.seq (.region law2_apart_r6) (.region law2_apart_r7))) (.region law2_apart_r8)))) Q ρ h := _root_.id rfl
def law2_apart_l1 : Cd := .seq (.region law2_apart_r10) (.seq (.cond (.tmp 45) (.skip) (.exit 4)) (.seq (.block 5 (.seq (.region law2_apart_r11) (.region law2_apart_r12))) (.region law2_apart_r13)))
theorem law2_apart_l1_go {Q : Ex → Env → Heap → Prop} {ρ : Env} {h : Heap} : Cd.vc Try.prog law2_apart_l1 Q ρ h = Cd.vc Try.prog (.seq (.region law2_apart_r10) (.seq (.cond (.tmp 45) (.skip) (.exit 4)) (.seq (.block 5 (.seq (.region law2_apart_r11) (.region law2_apart_r12))) (.region law2_apart_r13)))) Q ρ h := _root_.id rfl
def law2_apart_l2 : Cd := .seq (.region law2_apart_r2) (.seq (.cond (.tmp 16) (.skip) (.exit 0)) (.seq (.block 1 (.seq (.region law2_apart_r3) (.seq (.seq (.region law2_apart_r4) (.block 2 (.loop law2_apart_l0))) (.seq (.region law2_apart_r9) (.block 4 (.loop law2_apart_l1)))))) (.region law2_apart_r14)))
theorem law2_apart_l2_go {Q : Ex → Env → Heap → Prop} {ρ : Env} {h : Heap} : Cd.vc Try.prog law2_apart_l2 Q ρ h = Cd.vc Try.prog (.seq (.region law2_apart_r2) (.seq (.cond (.tmp 16) (.skip) (.exit 0)) (.seq (.block 1 (.seq (.region law2_apart_r3) (.seq (.seq (.region law2_apart_r4) (.block 2 (.loop law2_apart_l0))) (.seq (.region law2_apart_r9) (.block 4 (.loop law2_apart_l1)))))) (.region law2_apart_r14)))) Q ρ h := _root_.id rfl
def law2_apart_l3 : Cd := .seq (.region law2_apart_r16) (.seq (.cond (.tmp 62) (.skip) (.exit 6)) (.seq (.block 7 (.seq (.region law2_apart_r17) (.seq (.region law2_apart_r18) (.region law2_apart_r19)))) (.region law2_apart_r20)))
theorem law2_apart_l3_go {Q : Ex → Env → Heap → Prop} {ρ : Env} {h : Heap} : Cd.vc Try.prog law2_apart_l3 Q ρ h = Cd.vc Try.prog (.seq (.region law2_apart_r16) (.seq (.cond (.tmp 62) (.skip) (.exit 6)) (.seq (.block 7 (.seq (.region law2_apart_r17) (.seq (.region law2_apart_r18) (.region law2_apart_r19)))) (.region law2_apart_r20)))) Q ρ h := _root_.id rfl
def law2_apart_l4 : Cd := .seq (.region law2_apart_r25) (.seq (.cond (.tmp 90) (.skip) (.exit 10)) (.seq (.block 11 (.seq (.region law2_apart_r26) (.seq (.region law2_apart_r27) (.cond (.tmp 97) (.seq (.region law2_apart_r28) (.ret)) (.skip))))) (.region law2_apart_r29)))
theorem law2_apart_l4_go {Q : Ex → Env → Heap → Prop} {ρ : Env} {h : Heap} : Cd.vc Try.prog law2_apart_l4 Q ρ h = Cd.vc Try.prog (.seq (.region law2_apart_r25) (.seq (.cond (.tmp 90) (.skip) (.exit 10)) (.seq (.block 11 (.seq (.region law2_apart_r26) (.seq (.region law2_apart_r27) (.cond (.tmp 97) (.seq (.region law2_apart_r28) (.ret)) (.skip))))) (.region law2_apart_r29)))) Q ρ h := _root_.id rfl
def law2_apart_l5 : Cd := .seq (.region law2_apart_r31) (.seq (.cond (.tmp 103) (.skip) (.exit 12)) (.seq (.block 13 (.seq (.region law2_apart_r32) (.seq (.region law2_apart_r33) (.cond (.tmp 110) (.seq (.region law2_apart_r34) (.ret)) (.skip))))) (.region law2_apart_r35)))
theorem law2_apart_l5_go {Q : Ex → Env → Heap → Prop} {ρ : Env} {h : Heap} : Cd.vc Try.prog law2_apart_l5 Q ρ h = Cd.vc Try.prog (.seq (.region law2_apart_r31) (.seq (.cond (.tmp 103) (.skip) (.exit 12)) (.seq (.block 13 (.seq (.region law2_apart_r32) (.seq (.region law2_apart_r33) (.cond (.tmp 110) (.seq (.region law2_apart_r34) (.ret)) (.skip))))) (.region law2_apart_r35)))) Q ρ h := _root_.id rfl
def law2_apart_l6 : Cd := .seq (.region law2_apart_r22) (.seq (.cond (.tmp 82) (.skip) (.exit 8)) (.seq (.block 9 (.seq (.region law2_apart_r23) (.seq (.seq (.region law2_apart_r24) (.block 10 (.loop law2_apart_l4))) (.seq (.region law2_apart_r30) (.block 12 (.loop law2_apart_l5)))))) (.region law2_apart_r36)))
theorem law2_apart_l6_go {Q : Ex → Env → Heap → Prop} {ρ : Env} {h : Heap} : Cd.vc Try.prog law2_apart_l6 Q ρ h = Cd.vc Try.prog (.seq (.region law2_apart_r22) (.seq (.cond (.tmp 82) (.skip) (.exit 8)) (.seq (.block 9 (.seq (.region law2_apart_r23) (.seq (.seq (.region law2_apart_r24) (.block 10 (.loop law2_apart_l4))) (.seq (.region law2_apart_r30) (.block 12 (.loop law2_apart_l5)))))) (.region law2_apart_r36)))) Q ρ h := _root_.id rfl
def law2_apart : Cd := .seq (.region law2_apart_r0) (.seq (.seq (.region law2_apart_r1) (.block 0 (.loop law2_apart_l2))) (.seq (.seq (.region law2_apart_r15) (.block 6 (.loop law2_apart_l3))) (.seq (.seq (.region law2_apart_r21) (.block 8 (.loop law2_apart_l6))) (.seq (.region law2_apart_r37) (.ret)))))
theorem law2_apart_go {Q : Ex → Env → Heap → Prop} {ρ : Env} {h : Heap} : Cd.vc Try.prog law2_apart Q ρ h = Cd.vc Try.prog (.seq (.region law2_apart_r0) (.seq (.seq (.region law2_apart_r1) (.block 0 (.loop law2_apart_l2))) (.seq (.seq (.region law2_apart_r15) (.block 6 (.loop law2_apart_l3))) (.seq (.seq (.region law2_apart_r21) (.block 8 (.loop law2_apart_l6))) (.seq (.region law2_apart_r37) (.ret)))))) Q ρ h := _root_.id rfl
theorem law2_apart_calls {args : List Value} {h : Heap} {R : Value → Heap → Prop} (hl : args.length = 1) (hv : Cd.vc Try.prog law2_apart (retQ Try.prog [(2, none)] R) (initEnv args [0, 2, 3, 4, 5, 6, 7, 8, 10, 12, 14, 15, 16, 23, 24, 25, 43, 44, 45, 60, 61, 62, 79, 80, 81, 82, 87, 88, 89, 90, 97, 100, 101, 102, 103, 110]) h) : HCalls Try.prog 13 args.toArray h R :=
  hcalls_of_vc (by kernel_rfl) Try.func13 (cd := law2_apart) (L := [0, 2, 3, 4, 5, 6, 7, 8, 10, 12, 14, 15, 16, 23, 24, 25, 43, 44, 45, 60, 61, 62, 79, 80, 81, 82, 87, 88, 89, 90, 97, 100, 101, 102, 103, 110]) (by kernel_rfl) (by kernel_rfl) ⟨by rw [hl, Try.ntmps13]; decide, by rw [Try.ntmps13]; decide⟩ hv
def law2_apart_gos := And.intro @law2_apart_go (And.intro @law2_apart_r0_go (And.intro @law2_apart_r1_go (And.intro @law2_apart_r2_go (And.intro @law2_apart_r3_go (And.intro @law2_apart_r4_go (And.intro @law2_apart_r5_go (And.intro @law2_apart_r6_go (And.intro @law2_apart_r7_go (And.intro @law2_apart_r8_go (And.intro @law2_apart_r9_go (And.intro @law2_apart_r10_go (And.intro @law2_apart_r11_go (And.intro @law2_apart_r12_go (And.intro @law2_apart_r13_go (And.intro @law2_apart_r14_go (And.intro @law2_apart_r15_go (And.intro @law2_apart_r16_go (And.intro @law2_apart_r17_go (And.intro @law2_apart_r18_go (And.intro @law2_apart_r19_go (And.intro @law2_apart_r20_go (And.intro @law2_apart_r21_go (And.intro @law2_apart_r22_go (And.intro @law2_apart_r23_go (And.intro @law2_apart_r24_go (And.intro @law2_apart_r25_go (And.intro @law2_apart_r26_go (And.intro @law2_apart_r27_go (And.intro @law2_apart_r28_go (And.intro @law2_apart_r29_go (And.intro @law2_apart_r30_go (And.intro @law2_apart_r31_go (And.intro @law2_apart_r32_go (And.intro @law2_apart_r33_go (And.intro @law2_apart_r34_go (And.intro @law2_apart_r35_go (And.intro @law2_apart_r36_go (And.intro @law2_apart_r37_go (And.intro @law2_apart_l0_go (And.intro @law2_apart_l1_go (And.intro @law2_apart_l2_go (And.intro @law2_apart_l3_go (And.intro @law2_apart_l4_go (And.intro @law2_apart_l5_go (@law2_apart_l6_go)))))))))))))))))))))))))))))))))))))))))))))

/-! jvmcore/jvmcorelaw2.CodeReads: function 4: slots [0, 2, 3, 4, 5, 6, 7, 8, 11] -/
def law2_CodeReads_r0 : List Sop := [
  ⟨some (2, true), .assign (.const (.bool false)), 4, none, true⟩]
theorem law2_CodeReads_r0_go {K : Env → Heap → Prop} {τ ρ : Env} {h : Heap} : vcOps Try.prog K law2_CodeReads_r0 τ ρ h = vcOps Try.prog K [
  ⟨some (2, true), .assign (.const (.bool false)), 4, none, true⟩] τ ρ h := _root_.id rfl
def law2_CodeReads_r1 : List Sop := [
  ⟨some (9, false), .move (.tmp 0), 9, none, true⟩,
  ⟨some (10, false), .call { callee := .builtin .len, args := #[.tmp 9], argTypes := #[9] }, 3, none, true⟩,
  ⟨some (11, true), .binOp .gtr 3 (.tmp 10) (.const (.int .i64 32768)) 3, 4, none, true⟩]
theorem law2_CodeReads_r1_go {K : Env → Heap → Prop} {τ ρ : Env} {h : Heap} : vcOps Try.prog K law2_CodeReads_r1 τ ρ h = vcOps Try.prog K [
  ⟨some (9, false), .move (.tmp 0), 9, none, true⟩,
  ⟨some (10, false), .call { callee := .builtin .len, args := #[.tmp 9], argTypes := #[9] }, 3, none, true⟩,
  ⟨some (11, true), .binOp .gtr 3 (.tmp 10) (.const (.int .i64 32768)) 3, 4, none, true⟩] τ ρ h := _root_.id rfl
def law2_CodeReads_r2 : List Sop := [
  ⟨some (2, true), .assign (.const (.bool true)), 4, none, true⟩]
theorem law2_CodeReads_r2_go {K : Env → Heap → Prop} {τ ρ : Env} {h : Heap} : vcOps Try.prog K law2_CodeReads_r2 τ ρ h = vcOps Try.prog K [
  ⟨some (2, true), .assign (.const (.bool true)), 4, none, true⟩] τ ρ h := _root_.id rfl
def law2_CodeReads_r3 : List Sop := [
  ⟨some (13, false), .move (.tmp 0), 9, none, true⟩,
  ⟨some (14, false), .call { callee := .value (.func 11), args := #[.tmp 13], argTypes := #[9] }, 30, none, false⟩,
  ⟨some (12, false), .move (.tmp 14), 30, none, true⟩,
  ⟨some (15, false), .extract (.tmp 12) 0, 22, none, true⟩,
  ⟨some (16, false), .extract (.tmp 12) 1, 25, none, true⟩,
  ⟨some (17, false), .extract (.tmp 12) 2, 3, none, true⟩,
  ⟨some (3, true), .assign (.tmp 15), 22, none, true⟩,
  ⟨some (4, true), .assign (.tmp 16), 25, none, true⟩,
  ⟨some (5, true), .assign (.tmp 17), 3, none, true⟩]
theorem law2_CodeReads_r3_go {K : Env → Heap → Prop} {τ ρ : Env} {h : Heap} : vcOps Try.prog K law2_CodeReads_r3 τ ρ h = vcOps Try.prog K [
  ⟨some (13, false), .move (.tmp 0), 9, none, true⟩,
  ⟨some (14, false), .call { callee := .value (.func 11), args := #[.tmp 13], argTypes := #[9] }, 30, none, false⟩,
  ⟨some (12, false), .move (.tmp 14), 30, none, true⟩,
  ⟨some (15, false), .extract (.tmp 12) 0, 22, none, true⟩,
  ⟨some (16, false), .extract (.tmp 12) 1, 25, none, true⟩,
  ⟨some (17, false), .extract (.tmp 12) 2, 3, none, true⟩,
  ⟨some (3, true), .assign (.tmp 15), 22, none, true⟩,
  ⟨some (4, true), .assign (.tmp 16), 25, none, true⟩,
  ⟨some (5, true), .assign (.tmp 17), 3, none, true⟩] τ ρ h := _root_.id rfl
def law2_CodeReads_r4 : List Sop := [
  ⟨some (19, false), .move (.tmp 0), 9, none, true⟩,
  ⟨some (20, false), .call { callee := .value (.func 12), args := #[.tmp 19], argTypes := #[9] }, 30, none, false⟩,
  ⟨some (18, false), .move (.tmp 20), 30, none, true⟩,
  ⟨some (21, false), .extract (.tmp 18) 0, 22, none, true⟩,
  ⟨some (22, false), .extract (.tmp 18) 1, 25, none, true⟩,
  ⟨some (23, false), .extract (.tmp 18) 2, 3, none, true⟩,
  ⟨some (6, true), .assign (.tmp 21), 22, none, true⟩,
  ⟨some (7, true), .assign (.tmp 22), 25, none, true⟩,
  ⟨some (8, true), .assign (.tmp 23), 3, none, true⟩]
theorem law2_CodeReads_r4_go {K : Env → Heap → Prop} {τ ρ : Env} {h : Heap} : vcOps Try.prog K law2_CodeReads_r4 τ ρ h = vcOps Try.prog K [
  ⟨some (19, false), .move (.tmp 0), 9, none, true⟩,
  ⟨some (20, false), .call { callee := .value (.func 12), args := #[.tmp 19], argTypes := #[9] }, 30, none, false⟩,
  ⟨some (18, false), .move (.tmp 20), 30, none, true⟩,
  ⟨some (21, false), .extract (.tmp 18) 0, 22, none, true⟩,
  ⟨some (22, false), .extract (.tmp 18) 1, 25, none, true⟩,
  ⟨some (23, false), .extract (.tmp 18) 2, 3, none, true⟩,
  ⟨some (6, true), .assign (.tmp 21), 22, none, true⟩,
  ⟨some (7, true), .assign (.tmp 22), 25, none, true⟩,
  ⟨some (8, true), .assign (.tmp 23), 3, none, true⟩] τ ρ h := _root_.id rfl
def law2_CodeReads_r5 : List Sop := [
  ⟨some (24, false), .move (.tmp 3), 22, none, true⟩,
  ⟨some (25, false), .move (.tmp 6), 22, none, true⟩,
  ⟨some (26, false), .call { callee := .value (.func 10), args := #[.tmp 24, .tmp 25], argTypes := #[22, 22] }, 4, none, false⟩,
  ⟨some (27, false), .move (.tmp 26), 4, none, true⟩,
  ⟨some (28, false), .move (.tmp 4), 25, some (27, true), true⟩,
  ⟨some (29, false), .move (.tmp 7), 25, some (27, true), true⟩,
  ⟨some (30, false), .binOp .eql 25 (.tmp 28) (.tmp 29) 25, 4, some (27, true), true⟩,
  ⟨some (31, false), .pick (.tmp 27) (.tmp 30) (.const (.bool false)), 4, none, true⟩,
  ⟨some (32, false), .move (.tmp 31), 4, none, true⟩,
  ⟨some (33, false), .move (.tmp 5), 3, some (32, true), true⟩,
  ⟨some (34, false), .move (.tmp 8), 3, some (32, true), true⟩,
  ⟨some (35, false), .binOp .eql 3 (.tmp 33) (.tmp 34) 3, 4, some (32, true), true⟩,
  ⟨some (36, false), .pick (.tmp 32) (.tmp 35) (.const (.bool false)), 4, none, true⟩,
  ⟨some (37, false), .move (.tmp 36), 4, none, true⟩,
  ⟨some (38, false), .move (.tmp 3), 22, some (37, true), true⟩,
  ⟨some (39, false), .call { callee := .value (.func 13), args := #[.tmp 38], argTypes := #[22] }, 4, some (37, true), false⟩,
  ⟨some (40, false), .pick (.tmp 37) (.tmp 39) (.const (.bool false)), 4, none, true⟩,
  ⟨some (2, true), .assign (.tmp 40), 4, none, true⟩]
theorem law2_CodeReads_r5_go {K : Env → Heap → Prop} {τ ρ : Env} {h : Heap} : vcOps Try.prog K law2_CodeReads_r5 τ ρ h = vcOps Try.prog K [
  ⟨some (24, false), .move (.tmp 3), 22, none, true⟩,
  ⟨some (25, false), .move (.tmp 6), 22, none, true⟩,
  ⟨some (26, false), .call { callee := .value (.func 10), args := #[.tmp 24, .tmp 25], argTypes := #[22, 22] }, 4, none, false⟩,
  ⟨some (27, false), .move (.tmp 26), 4, none, true⟩,
  ⟨some (28, false), .move (.tmp 4), 25, some (27, true), true⟩,
  ⟨some (29, false), .move (.tmp 7), 25, some (27, true), true⟩,
  ⟨some (30, false), .binOp .eql 25 (.tmp 28) (.tmp 29) 25, 4, some (27, true), true⟩,
  ⟨some (31, false), .pick (.tmp 27) (.tmp 30) (.const (.bool false)), 4, none, true⟩,
  ⟨some (32, false), .move (.tmp 31), 4, none, true⟩,
  ⟨some (33, false), .move (.tmp 5), 3, some (32, true), true⟩,
  ⟨some (34, false), .move (.tmp 8), 3, some (32, true), true⟩,
  ⟨some (35, false), .binOp .eql 3 (.tmp 33) (.tmp 34) 3, 4, some (32, true), true⟩,
  ⟨some (36, false), .pick (.tmp 32) (.tmp 35) (.const (.bool false)), 4, none, true⟩,
  ⟨some (37, false), .move (.tmp 36), 4, none, true⟩,
  ⟨some (38, false), .move (.tmp 3), 22, some (37, true), true⟩,
  ⟨some (39, false), .call { callee := .value (.func 13), args := #[.tmp 38], argTypes := #[22] }, 4, some (37, true), false⟩,
  ⟨some (40, false), .pick (.tmp 37) (.tmp 39) (.const (.bool false)), 4, none, true⟩,
  ⟨some (2, true), .assign (.tmp 40), 4, none, true⟩] τ ρ h := _root_.id rfl
def law2_CodeReads : Cd := .seq (.region law2_CodeReads_r0) (.seq (.seq (.region law2_CodeReads_r1) (.cond (.tmp 11) (.seq (.region law2_CodeReads_r2) (.ret)) (.skip))) (.seq (.region law2_CodeReads_r3) (.seq (.region law2_CodeReads_r4) (.seq (.region law2_CodeReads_r5) (.ret)))))
theorem law2_CodeReads_go {Q : Ex → Env → Heap → Prop} {ρ : Env} {h : Heap} : Cd.vc Try.prog law2_CodeReads Q ρ h = Cd.vc Try.prog (.seq (.region law2_CodeReads_r0) (.seq (.seq (.region law2_CodeReads_r1) (.cond (.tmp 11) (.seq (.region law2_CodeReads_r2) (.ret)) (.skip))) (.seq (.region law2_CodeReads_r3) (.seq (.region law2_CodeReads_r4) (.seq (.region law2_CodeReads_r5) (.ret)))))) Q ρ h := _root_.id rfl
theorem law2_CodeReads_calls {args : List Value} {h : Heap} {R : Value → Heap → Prop} (hl : args.length = 1) (hv : Cd.vc Try.prog law2_CodeReads (retQ Try.prog [(2, none)] R) (initEnv args [0, 2, 3, 4, 5, 6, 7, 8, 11]) h) : HCalls Try.prog 4 args.toArray h R :=
  hcalls_of_vc (by kernel_rfl) Try.func4 (cd := law2_CodeReads) (L := [0, 2, 3, 4, 5, 6, 7, 8, 11]) (by kernel_rfl) (by kernel_rfl) ⟨by rw [hl, Try.ntmps4]; decide, by rw [Try.ntmps4]; decide⟩ hv
def law2_CodeReads_gos := And.intro @law2_CodeReads_go (And.intro @law2_CodeReads_r0_go (And.intro @law2_CodeReads_r1_go (And.intro @law2_CodeReads_r2_go (And.intro @law2_CodeReads_r3_go (And.intro @law2_CodeReads_r4_go (@law2_CodeReads_r5_go))))))

/-! jvmcore/jvmcorelaw2.CodeRounds: function 5: slots [0, 2, 3, 4, 6, 7, 9, 13, 21] -/
def law2_CodeRounds_r0 : List Sop := [
  ⟨some (2, true), .assign (.const (.bool false)), 4, none, true⟩]
theorem law2_CodeRounds_r0_go {K : Env → Heap → Prop} {τ ρ : Env} {h : Heap} : vcOps Try.prog K law2_CodeRounds_r0 τ ρ h = vcOps Try.prog K [
  ⟨some (2, true), .assign (.const (.bool false)), 4, none, true⟩] τ ρ h := _root_.id rfl
def law2_CodeRounds_r1 : List Sop := [
  ⟨some (11, false), .move (.tmp 0), 9, none, true⟩,
  ⟨some (12, false), .call { callee := .builtin .len, args := #[.tmp 11], argTypes := #[9] }, 3, none, true⟩,
  ⟨some (13, true), .binOp .gtr 3 (.tmp 12) (.const (.int .i64 32768)) 3, 4, none, true⟩]
theorem law2_CodeRounds_r1_go {K : Env → Heap → Prop} {τ ρ : Env} {h : Heap} : vcOps Try.prog K law2_CodeRounds_r1 τ ρ h = vcOps Try.prog K [
  ⟨some (11, false), .move (.tmp 0), 9, none, true⟩,
  ⟨some (12, false), .call { callee := .builtin .len, args := #[.tmp 11], argTypes := #[9] }, 3, none, true⟩,
  ⟨some (13, true), .binOp .gtr 3 (.tmp 12) (.const (.int .i64 32768)) 3, 4, none, true⟩] τ ρ h := _root_.id rfl
def law2_CodeRounds_r2 : List Sop := [
  ⟨some (2, true), .assign (.const (.bool true)), 4, none, true⟩]
theorem law2_CodeRounds_r2_go {K : Env → Heap → Prop} {τ ρ : Env} {h : Heap} : vcOps Try.prog K law2_CodeRounds_r2 τ ρ h = vcOps Try.prog K [
  ⟨some (2, true), .assign (.const (.bool true)), 4, none, true⟩] τ ρ h := _root_.id rfl
def law2_CodeRounds_r3 : List Sop := [
  ⟨some (15, false), .move (.tmp 0), 9, none, true⟩,
  ⟨some (16, false), .call { callee := .value (.func 11), args := #[.tmp 15], argTypes := #[9] }, 30, none, false⟩,
  ⟨some (14, false), .move (.tmp 16), 30, none, true⟩,
  ⟨some (17, false), .extract (.tmp 14) 0, 22, none, true⟩,
  ⟨some (18, false), .extract (.tmp 14) 1, 25, none, true⟩,
  ⟨some (19, false), .extract (.tmp 14) 2, 3, none, true⟩,
  ⟨some (3, true), .assign (.tmp 17), 22, none, true⟩,
  ⟨some (4, true), .assign (.tmp 18), 25, none, true⟩,
  ⟨some (5, false), .assign (.tmp 19), 3, none, true⟩]
theorem law2_CodeRounds_r3_go {K : Env → Heap → Prop} {τ ρ : Env} {h : Heap} : vcOps Try.prog K law2_CodeRounds_r3 τ ρ h = vcOps Try.prog K [
  ⟨some (15, false), .move (.tmp 0), 9, none, true⟩,
  ⟨some (16, false), .call { callee := .value (.func 11), args := #[.tmp 15], argTypes := #[9] }, 30, none, false⟩,
  ⟨some (14, false), .move (.tmp 16), 30, none, true⟩,
  ⟨some (17, false), .extract (.tmp 14) 0, 22, none, true⟩,
  ⟨some (18, false), .extract (.tmp 14) 1, 25, none, true⟩,
  ⟨some (19, false), .extract (.tmp 14) 2, 3, none, true⟩,
  ⟨some (3, true), .assign (.tmp 17), 22, none, true⟩,
  ⟨some (4, true), .assign (.tmp 18), 25, none, true⟩,
  ⟨some (5, false), .assign (.tmp 19), 3, none, true⟩] τ ρ h := _root_.id rfl
def law2_CodeRounds_r4 : List Sop := [
  ⟨some (20, false), .move (.tmp 4), 25, none, true⟩,
  ⟨some (21, true), .binOp .neq 25 (.tmp 20) (.const (.int .i64 0)) 25, 4, none, true⟩]
theorem law2_CodeRounds_r4_go {K : Env → Heap → Prop} {τ ρ : Env} {h : Heap} : vcOps Try.prog K law2_CodeRounds_r4 τ ρ h = vcOps Try.prog K [
  ⟨some (20, false), .move (.tmp 4), 25, none, true⟩,
  ⟨some (21, true), .binOp .neq 25 (.tmp 20) (.const (.int .i64 0)) 25, 4, none, true⟩] τ ρ h := _root_.id rfl
def law2_CodeRounds_r5 : List Sop := [
  ⟨some (23, false), .call { callee := .value (.func 11), args := #[.const (.string { data := #[0, 177] })], argTypes := #[9] }, 30, none, false⟩,
  ⟨some (22, false), .move (.tmp 23), 30, none, true⟩,
  ⟨some (24, false), .extract (.tmp 22) 0, 22, none, true⟩,
  ⟨some (25, false), .extract (.tmp 22) 1, 25, none, true⟩,
  ⟨some (26, false), .extract (.tmp 22) 2, 3, none, true⟩,
  ⟨some (6, true), .assign (.tmp 24), 22, none, true⟩,
  ⟨some (7, true), .assign (.tmp 25), 25, none, true⟩,
  ⟨some (8, false), .assign (.tmp 26), 3, none, true⟩]
theorem law2_CodeRounds_r5_go {K : Env → Heap → Prop} {τ ρ : Env} {h : Heap} : vcOps Try.prog K law2_CodeRounds_r5 τ ρ h = vcOps Try.prog K [
  ⟨some (23, false), .call { callee := .value (.func 11), args := #[.const (.string { data := #[0, 177] })], argTypes := #[9] }, 30, none, false⟩,
  ⟨some (22, false), .move (.tmp 23), 30, none, true⟩,
  ⟨some (24, false), .extract (.tmp 22) 0, 22, none, true⟩,
  ⟨some (25, false), .extract (.tmp 22) 1, 25, none, true⟩,
  ⟨some (26, false), .extract (.tmp 22) 2, 3, none, true⟩,
  ⟨some (6, true), .assign (.tmp 24), 22, none, true⟩,
  ⟨some (7, true), .assign (.tmp 25), 25, none, true⟩,
  ⟨some (8, false), .assign (.tmp 26), 3, none, true⟩] τ ρ h := _root_.id rfl
def law2_CodeRounds_r6 : List Sop := [
  ⟨some (27, false), .move (.tmp 3), 22, none, true⟩,
  ⟨some (28, false), .call { callee := .builtin .len, args := #[.tmp 27], argTypes := #[22] }, 3, none, true⟩,
  ⟨some (29, false), .binOp .eql 3 (.tmp 28) (.const (.int .i64 0)) 3, 4, none, true⟩,
  ⟨some (30, false), .move (.tmp 29), 4, none, true⟩,
  ⟨some (31, false), .move (.tmp 7), 25, some (30, true), true⟩,
  ⟨some (32, false), .binOp .eql 25 (.tmp 31) (.const (.int .i64 0)) 25, 4, some (30, true), true⟩,
  ⟨some (33, false), .pick (.tmp 30) (.tmp 32) (.const (.bool false)), 4, none, true⟩,
  ⟨some (34, false), .move (.tmp 33), 4, none, true⟩,
  ⟨some (35, false), .move (.tmp 6), 22, some (34, true), true⟩,
  ⟨some (36, false), .call { callee := .builtin .len, args := #[.tmp 35], argTypes := #[22] }, 3, some (34, true), true⟩,
  ⟨some (37, false), .binOp .eql 3 (.tmp 36) (.const (.int .i64 2)) 3, 4, some (34, true), true⟩,
  ⟨some (38, false), .pick (.tmp 34) (.tmp 37) (.const (.bool false)), 4, none, true⟩,
  ⟨some (39, false), .move (.tmp 38), 4, none, true⟩,
  ⟨some (40, false), .move (.tmp 6), 22, some (39, true), true⟩,
  ⟨some (41, false), .indexAddr 22 (.tmp 40) (.const (.int .i64 1)), 0, some (39, true), true⟩,
  ⟨some (42, false), .fieldAddr 35 (.tmp 41) 0, 0, some (39, true), true⟩,
  ⟨some (43, false), .load 3 (.tmp 42), 3, some (39, true), true⟩,
  ⟨some (44, false), .binOp .eql 3 (.tmp 43) (.const (.int .i64 1)) 3, 4, some (39, true), true⟩,
  ⟨some (45, false), .pick (.tmp 39) (.tmp 44) (.const (.bool false)), 4, none, true⟩,
  ⟨some (2, true), .assign (.tmp 45), 4, none, true⟩]
theorem law2_CodeRounds_r6_go {K : Env → Heap → Prop} {τ ρ : Env} {h : Heap} : vcOps Try.prog K law2_CodeRounds_r6 τ ρ h = vcOps Try.prog K [
  ⟨some (27, false), .move (.tmp 3), 22, none, true⟩,
  ⟨some (28, false), .call { callee := .builtin .len, args := #[.tmp 27], argTypes := #[22] }, 3, none, true⟩,
  ⟨some (29, false), .binOp .eql 3 (.tmp 28) (.const (.int .i64 0)) 3, 4, none, true⟩,
  ⟨some (30, false), .move (.tmp 29), 4, none, true⟩,
  ⟨some (31, false), .move (.tmp 7), 25, some (30, true), true⟩,
  ⟨some (32, false), .binOp .eql 25 (.tmp 31) (.const (.int .i64 0)) 25, 4, some (30, true), true⟩,
  ⟨some (33, false), .pick (.tmp 30) (.tmp 32) (.const (.bool false)), 4, none, true⟩,
  ⟨some (34, false), .move (.tmp 33), 4, none, true⟩,
  ⟨some (35, false), .move (.tmp 6), 22, some (34, true), true⟩,
  ⟨some (36, false), .call { callee := .builtin .len, args := #[.tmp 35], argTypes := #[22] }, 3, some (34, true), true⟩,
  ⟨some (37, false), .binOp .eql 3 (.tmp 36) (.const (.int .i64 2)) 3, 4, some (34, true), true⟩,
  ⟨some (38, false), .pick (.tmp 34) (.tmp 37) (.const (.bool false)), 4, none, true⟩,
  ⟨some (39, false), .move (.tmp 38), 4, none, true⟩,
  ⟨some (40, false), .move (.tmp 6), 22, some (39, true), true⟩,
  ⟨some (41, false), .indexAddr 22 (.tmp 40) (.const (.int .i64 1)), 0, some (39, true), true⟩,
  ⟨some (42, false), .fieldAddr 35 (.tmp 41) 0, 0, some (39, true), true⟩,
  ⟨some (43, false), .load 3 (.tmp 42), 3, some (39, true), true⟩,
  ⟨some (44, false), .binOp .eql 3 (.tmp 43) (.const (.int .i64 1)) 3, 4, some (39, true), true⟩,
  ⟨some (45, false), .pick (.tmp 39) (.tmp 44) (.const (.bool false)), 4, none, true⟩,
  ⟨some (2, true), .assign (.tmp 45), 4, none, true⟩] τ ρ h := _root_.id rfl
def law2_CodeRounds_r7 : List Sop := [
  ⟨some (47, false), .move (.tmp 3), 22, none, true⟩,
  ⟨some (48, false), .call { callee := .value (.func 8), args := #[.tmp 47], argTypes := #[22] }, 26, none, false⟩,
  ⟨some (46, false), .move (.tmp 48), 26, none, true⟩,
  ⟨some (49, false), .extract (.tmp 46) 0, 9, none, true⟩,
  ⟨some (50, false), .extract (.tmp 46) 1, 25, none, true⟩,
  ⟨some (51, false), .extract (.tmp 46) 2, 3, none, true⟩,
  ⟨some (9, true), .assign (.tmp 49), 9, none, true⟩,
  ⟨some (4, true), .assign (.tmp 50), 25, none, true⟩,
  ⟨some (10, false), .assign (.tmp 51), 3, none, true⟩]
theorem law2_CodeRounds_r7_go {K : Env → Heap → Prop} {τ ρ : Env} {h : Heap} : vcOps Try.prog K law2_CodeRounds_r7 τ ρ h = vcOps Try.prog K [
  ⟨some (47, false), .move (.tmp 3), 22, none, true⟩,
  ⟨some (48, false), .call { callee := .value (.func 8), args := #[.tmp 47], argTypes := #[22] }, 26, none, false⟩,
  ⟨some (46, false), .move (.tmp 48), 26, none, true⟩,
  ⟨some (49, false), .extract (.tmp 46) 0, 9, none, true⟩,
  ⟨some (50, false), .extract (.tmp 46) 1, 25, none, true⟩,
  ⟨some (51, false), .extract (.tmp 46) 2, 3, none, true⟩,
  ⟨some (9, true), .assign (.tmp 49), 9, none, true⟩,
  ⟨some (4, true), .assign (.tmp 50), 25, none, true⟩,
  ⟨some (10, false), .assign (.tmp 51), 3, none, true⟩] τ ρ h := _root_.id rfl
def law2_CodeRounds_r8 : List Sop := [
  ⟨some (52, false), .move (.tmp 4), 25, none, true⟩,
  ⟨some (53, false), .binOp .eql 25 (.tmp 52) (.const (.int .i64 0)) 25, 4, none, true⟩,
  ⟨some (54, false), .move (.tmp 53), 4, none, true⟩,
  ⟨some (55, false), .move (.tmp 9), 9, some (54, true), true⟩,
  ⟨some (56, false), .move (.tmp 0), 9, some (54, true), true⟩,
  ⟨some (57, false), .binOp .eql 9 (.tmp 55) (.tmp 56) 9, 4, some (54, true), true⟩,
  ⟨some (58, false), .pick (.tmp 54) (.tmp 57) (.const (.bool false)), 4, none, true⟩,
  ⟨some (2, true), .assign (.tmp 58), 4, none, true⟩]
theorem law2_CodeRounds_r8_go {K : Env → Heap → Prop} {τ ρ : Env} {h : Heap} : vcOps Try.prog K law2_CodeRounds_r8 τ ρ h = vcOps Try.prog K [
  ⟨some (52, false), .move (.tmp 4), 25, none, true⟩,
  ⟨some (53, false), .binOp .eql 25 (.tmp 52) (.const (.int .i64 0)) 25, 4, none, true⟩,
  ⟨some (54, false), .move (.tmp 53), 4, none, true⟩,
  ⟨some (55, false), .move (.tmp 9), 9, some (54, true), true⟩,
  ⟨some (56, false), .move (.tmp 0), 9, some (54, true), true⟩,
  ⟨some (57, false), .binOp .eql 9 (.tmp 55) (.tmp 56) 9, 4, some (54, true), true⟩,
  ⟨some (58, false), .pick (.tmp 54) (.tmp 57) (.const (.bool false)), 4, none, true⟩,
  ⟨some (2, true), .assign (.tmp 58), 4, none, true⟩] τ ρ h := _root_.id rfl
def law2_CodeRounds : Cd := .seq (.region law2_CodeRounds_r0) (.seq (.seq (.region law2_CodeRounds_r1) (.cond (.tmp 13) (.seq (.region law2_CodeRounds_r2) (.ret)) (.skip))) (.seq (.region law2_CodeRounds_r3) (.seq (.seq (.region law2_CodeRounds_r4) (.cond (.tmp 21) (.seq (.region law2_CodeRounds_r5) (.seq (.region law2_CodeRounds_r6) (.ret))) (.skip))) (.seq (.region law2_CodeRounds_r7) (.seq (.region law2_CodeRounds_r8) (.ret))))))
theorem law2_CodeRounds_go {Q : Ex → Env → Heap → Prop} {ρ : Env} {h : Heap} : Cd.vc Try.prog law2_CodeRounds Q ρ h = Cd.vc Try.prog (.seq (.region law2_CodeRounds_r0) (.seq (.seq (.region law2_CodeRounds_r1) (.cond (.tmp 13) (.seq (.region law2_CodeRounds_r2) (.ret)) (.skip))) (.seq (.region law2_CodeRounds_r3) (.seq (.seq (.region law2_CodeRounds_r4) (.cond (.tmp 21) (.seq (.region law2_CodeRounds_r5) (.seq (.region law2_CodeRounds_r6) (.ret))) (.skip))) (.seq (.region law2_CodeRounds_r7) (.seq (.region law2_CodeRounds_r8) (.ret))))))) Q ρ h := _root_.id rfl
theorem law2_CodeRounds_calls {args : List Value} {h : Heap} {R : Value → Heap → Prop} (hl : args.length = 1) (hv : Cd.vc Try.prog law2_CodeRounds (retQ Try.prog [(2, none)] R) (initEnv args [0, 2, 3, 4, 6, 7, 9, 13, 21]) h) : HCalls Try.prog 5 args.toArray h R :=
  hcalls_of_vc (by kernel_rfl) Try.func5 (cd := law2_CodeRounds) (L := [0, 2, 3, 4, 6, 7, 9, 13, 21]) (by kernel_rfl) (by kernel_rfl) ⟨by rw [hl, Try.ntmps5]; decide, by rw [Try.ntmps5]; decide⟩ hv
def law2_CodeRounds_gos := And.intro @law2_CodeRounds_go (And.intro @law2_CodeRounds_r0_go (And.intro @law2_CodeRounds_r1_go (And.intro @law2_CodeRounds_r2_go (And.intro @law2_CodeRounds_r3_go (And.intro @law2_CodeRounds_r4_go (And.intro @law2_CodeRounds_r5_go (And.intro @law2_CodeRounds_r6_go (And.intro @law2_CodeRounds_r7_go (@law2_CodeRounds_r8_go)))))))))

end Go.Proofs.Ytjpcpkhegjndeaa.C
