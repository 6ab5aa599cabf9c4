/- The stripped code of some functions of this seat's program, printed by a program; that it is that code is proved by the kernel. No condition. -/

import Derived.Test.YtohkbpnblkkdgaaProg

import Derived.Test.YtohkbpnblkkdgaaVcH

set_option maxRecDepth 100000

set_option linter.defProp false

namespace Go.Proofs.Ytohkbpnblkkdgaa.C

open Go.Vc

/-! jvmcore/jvmcorelaw3.MapReads: function 3: slots [0, 1, 2, 6, 7, 8, 9, 10, 11, 12, 13, 14, 15, 24, 63] -/
def law3_MapReads_r0 : List Sop := [
  ⟨some (6, true), .assign (.const (.bool false)), 4, none, true⟩]
theorem law3_MapReads_r0_go {K : Env → Heap → Prop} {τ ρ : Env} {h : Heap} : vcOps Try.prog K law3_MapReads_r0 τ ρ h = vcOps Try.prog K [
  ⟨some (6, true), .assign (.const (.bool false)), 4, none, true⟩] τ ρ h := _root_.id rfl
def law3_MapReads_r1 : List Sop := [
  ⟨some (16, false), .move (.tmp 0), 9, none, true⟩,
  ⟨some (17, false), .call { callee := .builtin .len, args := #[.tmp 16], argTypes := #[9] }, 3, none, true⟩,
  ⟨some (18, false), .move (.tmp 1), 22, none, true⟩,
  ⟨some (19, false), .call { callee := .builtin .len, args := #[.tmp 18], argTypes := #[22] }, 3, none, true⟩,
  ⟨some (20, false), .binOp .add 3 (.tmp 17) (.tmp 19) 3, 3, none, true⟩,
  ⟨some (21, false), .move (.tmp 2), 23, none, true⟩,
  ⟨some (22, false), .call { callee := .builtin .len, args := #[.tmp 21], argTypes := #[23] }, 3, none, true⟩,
  ⟨some (23, false), .binOp .add 3 (.tmp 20) (.tmp 22) 3, 3, none, true⟩,
  ⟨some (24, true), .binOp .gtr 3 (.tmp 23) (.const (.int .i64 4096)) 3, 4, none, true⟩]
theorem law3_MapReads_r1_go {K : Env → Heap → Prop} {τ ρ : Env} {h : Heap} : vcOps Try.prog K law3_MapReads_r1 τ ρ h = vcOps Try.prog K [
  ⟨some (16, false), .move (.tmp 0), 9, none, true⟩,
  ⟨some (17, false), .call { callee := .builtin .len, args := #[.tmp 16], argTypes := #[9] }, 3, none, true⟩,
  ⟨some (18, false), .move (.tmp 1), 22, none, true⟩,
  ⟨some (19, false), .call { callee := .builtin .len, args := #[.tmp 18], argTypes := #[22] }, 3, none, true⟩,
  ⟨some (20, false), .binOp .add 3 (.tmp 17) (.tmp 19) 3, 3, none, true⟩,
  ⟨some (21, false), .move (.tmp 2), 23, none, true⟩,
  ⟨some (22, false), .call { callee := .builtin .len, args := #[.tmp 21], argTypes := #[23] }, 3, none, true⟩,
  ⟨some (23, false), .binOp .add 3 (.tmp 20) (.tmp 22) 3, 3, none, true⟩,
  ⟨some (24, true), .binOp .gtr 3 (.tmp 23) (.const (.int .i64 4096)) 3, 4, none, true⟩] τ ρ h := _root_.id rfl
def law3_MapReads_r2 : List Sop := [
  ⟨some (6, true), .assign (.const (.bool true)), 4, none, true⟩]
theorem law3_MapReads_r2_go {K : Env → Heap → Prop} {τ ρ : Env} {h : Heap} : vcOps Try.prog K law3_MapReads_r2 τ ρ h = vcOps Try.prog K [
  ⟨some (6, true), .assign (.const (.bool true)), 4, none, true⟩] τ ρ h := _root_.id rfl
def law3_MapReads_r3 : List Sop := [
  ⟨some (25, false), .build 25 #[(0, .const (.int .u8 77)), (2, .const (.int .i64 7))], 25, none, true⟩,
  ⟨some (7, true), .alloc 25, 0, none, false⟩,
  ⟨none, .store 25 (.tmp 7) (.tmp 25), 0, none, false⟩]
theorem law3_MapReads_r3_go {K : Env → Heap → Prop} {τ ρ : Env} {h : Heap} : vcOps Try.prog K law3_MapReads_r3 τ ρ h = vcOps Try.prog K [
  ⟨some (25, false), .build 25 #[(0, .const (.int .u8 77)), (2, .const (.int .i64 7))], 25, none, true⟩,
  ⟨some (7, true), .alloc 25, 0, none, false⟩,
  ⟨none, .store 25 (.tmp 7) (.tmp 25), 0, none, false⟩] τ ρ h := _root_.id rfl
def law3_MapReads_r4 : List Sop := [
  ⟨some (26, false), .move (.tmp 2), 23, none, true⟩,
  ⟨some (27, false), .call { callee := .builtin .append, args := #[.const (.slice none 0 0), .tmp 26], argTypes := #[23, 23] }, 23, none, false⟩,
  ⟨some (8, true), .assign (.tmp 27), 23, none, true⟩]
theorem law3_MapReads_r4_go {K : Env → Heap → Prop} {τ ρ : Env} {h : Heap} : vcOps Try.prog K law3_MapReads_r4 τ ρ h = vcOps Try.prog K [
  ⟨some (26, false), .move (.tmp 2), 23, none, true⟩,
  ⟨some (27, false), .call { callee := .builtin .append, args := #[.const (.slice none 0 0), .tmp 26], argTypes := #[23, 23] }, 23, none, false⟩,
  ⟨some (8, true), .assign (.tmp 27), 23, none, true⟩] τ ρ h := _root_.id rfl
def law3_MapReads_r5 : Dt :=
  .run ⟨some (28, false), .move (.tmp 2), 23, none, true⟩ [] (
  .run ⟨some (30, false), .load 25 (.tmp 7), 25, none, true⟩ [] (
  .run ⟨some (31, false), .load 25 (.tmp 7), 25, none, true⟩ [] (
  .run ⟨some (32, false), .load 25 (.tmp 7), 25, none, true⟩ [] (
  .both (.run ⟨some (29, false), .call { callee := .builtin .append, args := #[.const (.slice none 0 0), .tmp 28], argTypes := #[23, 23] }, 23, none, false⟩ [⟨some (30, false), .load 25 (.tmp 7), 25, none, true⟩, ⟨some (31, false), .load 25 (.tmp 7), 25, none, true⟩, ⟨some (32, false), .load 25 (.tmp 7), 25, none, true⟩] (
  .run ⟨some (33, false), .buildSlice 23 3 #[(0, .tmp 30), (1, .tmp 31), (2, .tmp 32)], 23, none, false⟩ [] (
  .run ⟨some (34, false), .call { callee := .builtin .append, args := #[.tmp 29, .tmp 33], argTypes := #[23, 23] }, 23, none, false⟩ [] (
  .run ⟨some (9, true), .assign (.tmp 34), 23, none, true⟩ [] (
  .done))))) (.run ⟨some (33, false), .buildSlice 23 3 #[(0, .tmp 30), (1, .tmp 31), (2, .tmp 32)], 23, none, false⟩ [] (
  .run ⟨some (29, false), .call { callee := .builtin .append, args := #[.const (.slice none 0 0), .tmp 28], argTypes := #[23, 23] }, 23, none, false⟩ [⟨some (30, false), .load 25 (.tmp 7), 25, none, true⟩, ⟨some (31, false), .load 25 (.tmp 7), 25, none, true⟩, ⟨some (32, false), .load 25 (.tmp 7), 25, none, true⟩] (
  .run ⟨some (34, false), .call { callee := .builtin .append, args := #[.tmp 29, .tmp 33], argTypes := #[23, 23] }, 23, none, false⟩ [] (
  .run ⟨some (9, true), .assign (.tmp 34), 23, none, true⟩ [] (
  .done)))))))))
theorem law3_MapReads_r5_go {K : Env → Heap → Prop} {τ ρ : Env} {h : Heap} : vcT Try.prog K law3_MapReads_r5 τ ρ h = vcT Try.prog K (
  .run ⟨some (28, false), .move (.tmp 2), 23, none, true⟩ [] (
  .run ⟨some (30, false), .load 25 (.tmp 7), 25, none, true⟩ [] (
  .run ⟨some (31, false), .load 25 (.tmp 7), 25, none, true⟩ [] (
  .run ⟨some (32, false), .load 25 (.tmp 7), 25, none, true⟩ [] (
  .both (.run ⟨some (29, false), .call { callee := .builtin .append, args := #[.const (.slice none 0 0), .tmp 28], argTypes := #[23, 23] }, 23, none, false⟩ [⟨some (30, false), .load 25 (.tmp 7), 25, none, true⟩, ⟨some (31, false), .load 25 (.tmp 7), 25, none, true⟩, ⟨some (32, false), .load 25 (.tmp 7), 25, none, true⟩] (
  .run ⟨some (33, false), .buildSlice 23 3 #[(0, .tmp 30), (1, .tmp 31), (2, .tmp 32)], 23, none, false⟩ [] (
  .run ⟨some (34, false), .call { callee := .builtin .append, args := #[.tmp 29, .tmp 33], argTypes := #[23, 23] }, 23, none, false⟩ [] (
  .run ⟨some (9, true), .assign (.tmp 34), 23, none, true⟩ [] (
  .done))))) (.run ⟨some (33, false), .buildSlice 23 3 #[(0, .tmp 30), (1, .tmp 31), (2, .tmp 32)], 23, none, false⟩ [] (
  .run ⟨some (29, false), .call { callee := .builtin .append, args := #[.const (.slice none 0 0), .tmp 28], argTypes := #[23, 23] }, 23, none, false⟩ [⟨some (30, false), .load 25 (.tmp 7), 25, none, true⟩, ⟨some (31, false), .load 25 (.tmp 7), 25, none, true⟩, ⟨some (32, false), .load 25 (.tmp 7), 25, none, true⟩] (
  .run ⟨some (34, false), .call { callee := .builtin .append, args := #[.tmp 29, .tmp 33], argTypes := #[23, 23] }, 23, none, false⟩ [] (
  .run ⟨some (9, true), .assign (.tmp 34), 23, none, true⟩ [] (
  .done)))))))))) τ ρ h := _root_.id rfl
def law3_MapReads_r6 : List Sop := [
  ⟨some (36, false), .move (.tmp 0), 9, none, true⟩,
  ⟨some (37, false), .move (.tmp 1), 22, none, true⟩,
  ⟨some (38, false), .move (.tmp 9), 23, none, true⟩,
  ⟨some (39, false), .move (.tmp 2), 23, none, true⟩,
  ⟨some (40, false), .call { callee := .builtin .len, args := #[.tmp 39], argTypes := #[23] }, 3, none, true⟩,
  ⟨some (41, false), .slice 23 (.tmp 38) none (some (.tmp 40)) none, 23, none, true⟩,
  ⟨some (42, false), .call { callee := .value (.func 8), args := #[.tmp 36, .tmp 37, .tmp 41], argTypes := #[9, 22, 23] }, 28, none, false⟩,
  ⟨some (35, false), .move (.tmp 42), 28, none, true⟩,
  ⟨some (43, false), .extract (.tmp 35) 0, 26, none, true⟩,
  ⟨some (44, false), .extract (.tmp 35) 1, 27, none, true⟩,
  ⟨some (45, false), .extract (.tmp 35) 2, 3, none, true⟩,
  ⟨some (10, true), .assign (.tmp 43), 26, none, true⟩,
  ⟨some (11, true), .assign (.tmp 44), 27, none, true⟩,
  ⟨some (12, true), .assign (.tmp 45), 3, none, true⟩]
theorem law3_MapReads_r6_go {K : Env → Heap → Prop} {τ ρ : Env} {h : Heap} : vcOps Try.prog K law3_MapReads_r6 τ ρ h = vcOps Try.prog K [
  ⟨some (36, false), .move (.tmp 0), 9, none, true⟩,
  ⟨some (37, false), .move (.tmp 1), 22, none, true⟩,
  ⟨some (38, false), .move (.tmp 9), 23, none, true⟩,
  ⟨some (39, false), .move (.tmp 2), 23, none, true⟩,
  ⟨some (40, false), .call { callee := .builtin .len, args := #[.tmp 39], argTypes := #[23] }, 3, none, true⟩,
  ⟨some (41, false), .slice 23 (.tmp 38) none (some (.tmp 40)) none, 23, none, true⟩,
  ⟨some (42, false), .call { callee := .value (.func 8), args := #[.tmp 36, .tmp 37, .tmp 41], argTypes := #[9, 22, 23] }, 28, none, false⟩,
  ⟨some (35, false), .move (.tmp 42), 28, none, true⟩,
  ⟨some (43, false), .extract (.tmp 35) 0, 26, none, true⟩,
  ⟨some (44, false), .extract (.tmp 35) 1, 27, none, true⟩,
  ⟨some (45, false), .extract (.tmp 35) 2, 3, none, true⟩,
  ⟨some (10, true), .assign (.tmp 43), 26, none, true⟩,
  ⟨some (11, true), .assign (.tmp 44), 27, none, true⟩,
  ⟨some (12, true), .assign (.tmp 45), 3, none, true⟩] τ ρ h := _root_.id rfl
def law3_MapReads_r7 : List Sop := [
  ⟨some (47, false), .move (.tmp 0), 9, none, true⟩,
  ⟨some (48, false), .move (.tmp 1), 22, none, true⟩,
  ⟨some (49, false), .move (.tmp 8), 23, none, true⟩,
  ⟨some (50, false), .call { callee := .value (.func 9), args := #[.tmp 47, .tmp 48, .tmp 49], argTypes := #[9, 22, 23] }, 28, none, false⟩,
  ⟨some (46, false), .move (.tmp 50), 28, none, true⟩,
  ⟨some (51, false), .extract (.tmp 46) 0, 26, none, true⟩,
  ⟨some (52, false), .extract (.tmp 46) 1, 27, none, true⟩,
  ⟨some (53, false), .extract (.tmp 46) 2, 3, none, true⟩,
  ⟨some (13, true), .assign (.tmp 51), 26, none, true⟩,
  ⟨some (14, true), .assign (.tmp 52), 27, none, true⟩,
  ⟨some (15, true), .assign (.tmp 53), 3, none, true⟩]
theorem law3_MapReads_r7_go {K : Env → Heap → Prop} {τ ρ : Env} {h : Heap} : vcOps Try.prog K law3_MapReads_r7 τ ρ h = vcOps Try.prog K [
  ⟨some (47, false), .move (.tmp 0), 9, none, true⟩,
  ⟨some (48, false), .move (.tmp 1), 22, none, true⟩,
  ⟨some (49, false), .move (.tmp 8), 23, none, true⟩,
  ⟨some (50, false), .call { callee := .value (.func 9), args := #[.tmp 47, .tmp 48, .tmp 49], argTypes := #[9, 22, 23] }, 28, none, false⟩,
  ⟨some (46, false), .move (.tmp 50), 28, none, true⟩,
  ⟨some (51, false), .extract (.tmp 46) 0, 26, none, true⟩,
  ⟨some (52, false), .extract (.tmp 46) 1, 27, none, true⟩,
  ⟨some (53, false), .extract (.tmp 46) 2, 3, none, true⟩,
  ⟨some (13, true), .assign (.tmp 51), 26, none, true⟩,
  ⟨some (14, true), .assign (.tmp 52), 27, none, true⟩,
  ⟨some (15, true), .assign (.tmp 53), 3, none, true⟩] τ ρ h := _root_.id rfl
def law3_MapReads_r8 : Dt :=
  .run ⟨some (54, false), .move (.tmp 9), 23, none, true⟩ [] (
  .run ⟨some (55, false), .move (.tmp 2), 23, none, true⟩ [] (
  .run ⟨some (57, false), .load 25 (.tmp 7), 25, none, true⟩ [] (
  .run ⟨some (58, false), .load 25 (.tmp 7), 25, none, true⟩ [] (
  .run ⟨some (59, false), .load 25 (.tmp 7), 25, none, true⟩ [] (
  .both (.run ⟨some (56, false), .call { callee := .builtin .append, args := #[.const (.slice none 0 0), .tmp 55], argTypes := #[23, 23] }, 23, none, false⟩ [⟨some (57, false), .load 25 (.tmp 7), 25, none, true⟩, ⟨some (58, false), .load 25 (.tmp 7), 25, none, true⟩, ⟨some (59, false), .load 25 (.tmp 7), 25, none, true⟩] (
  .run ⟨some (60, false), .buildSlice 23 3 #[(0, .tmp 57), (1, .tmp 58), (2, .tmp 59)], 23, none, false⟩ [] (
  .run ⟨some (61, false), .call { callee := .builtin .append, args := #[.tmp 56, .tmp 60], argTypes := #[23, 23] }, 23, none, false⟩ [] (
  .run ⟨some (62, false), .call { callee := .value (.func 10), args := #[.tmp 54, .tmp 61], argTypes := #[23, 23] }, 4, none, false⟩ [] (
  .run ⟨some (63, true), .unOp .not 4 (.tmp 62), 4, none, true⟩ [] (
  .done)))))) (.run ⟨some (60, false), .buildSlice 23 3 #[(0, .tmp 57), (1, .tmp 58), (2, .tmp 59)], 23, none, false⟩ [] (
  .run ⟨some (56, false), .call { callee := .builtin .append, args := #[.const (.slice none 0 0), .tmp 55], argTypes := #[23, 23] }, 23, none, false⟩ [⟨some (57, false), .load 25 (.tmp 7), 25, none, true⟩, ⟨some (58, false), .load 25 (.tmp 7), 25, none, true⟩, ⟨some (59, false), .load 25 (.tmp 7), 25, none, true⟩] (
  .run ⟨some (61, false), .call { callee := .builtin .append, args := #[.tmp 56, .tmp 60], argTypes := #[23, 23] }, 23, none, false⟩ [] (
  .run ⟨some (62, false), .call { callee := .value (.func 10), args := #[.tmp 54, .tmp 61], argTypes := #[23, 23] }, 4, none, false⟩ [] (
  .run ⟨some (63, true), .unOp .not 4 (.tmp 62), 4, none, true⟩ [] (
  .done)))))))))))
theorem law3_MapReads_r8_go {K : Env → Heap → Prop} {τ ρ : Env} {h : Heap} : vcT Try.prog K law3_MapReads_r8 τ ρ h = vcT Try.prog K (
  .run ⟨some (54, false), .move (.tmp 9), 23, none, true⟩ [] (
  .run ⟨some (55, false), .move (.tmp 2), 23, none, true⟩ [] (
  .run ⟨some (57, false), .load 25 (.tmp 7), 25, none, true⟩ [] (
  .run ⟨some (58, false), .load 25 (.tmp 7), 25, none, true⟩ [] (
  .run ⟨some (59, false), .load 25 (.tmp 7), 25, none, true⟩ [] (
  .both (.run ⟨some (56, false), .call { callee := .builtin .append, args := #[.const (.slice none 0 0), .tmp 55], argTypes := #[23, 23] }, 23, none, false⟩ [⟨some (57, false), .load 25 (.tmp 7), 25, none, true⟩, ⟨some (58, false), .load 25 (.tmp 7), 25, none, true⟩, ⟨some (59, false), .load 25 (.tmp 7), 25, none, true⟩] (
  .run ⟨some (60, false), .buildSlice 23 3 #[(0, .tmp 57), (1, .tmp 58), (2, .tmp 59)], 23, none, false⟩ [] (
  .run ⟨some (61, false), .call { callee := .builtin .append, args := #[.tmp 56, .tmp 60], argTypes := #[23, 23] }, 23, none, false⟩ [] (
  .run ⟨some (62, false), .call { callee := .value (.func 10), args := #[.tmp 54, .tmp 61], argTypes := #[23, 23] }, 4, none, false⟩ [] (
  .run ⟨some (63, true), .unOp .not 4 (.tmp 62), 4, none, true⟩ [] (
  .done)))))) (.run ⟨some (60, false), .buildSlice 23 3 #[(0, .tmp 57), (1, .tmp 58), (2, .tmp 59)], 23, none, false⟩ [] (
  .run ⟨some (56, false), .call { callee := .builtin .append, args := #[.const (.slice none 0 0), .tmp 55], argTypes := #[23, 23] }, 23, none, false⟩ [⟨some (57, false), .load 25 (.tmp 7), 25, none, true⟩, ⟨some (58, false), .load 25 (.tmp 7), 25, none, true⟩, ⟨some (59, false), .load 25 (.tmp 7), 25, none, true⟩] (
  .run ⟨some (61, false), .call { callee := .builtin .append, args := #[.tmp 56, .tmp 60], argTypes := #[23, 23] }, 23, none, false⟩ [] (
  .run ⟨some (62, false), .call { callee := .value (.func 10), args := #[.tmp 54, .tmp 61], argTypes := #[23, 23] }, 4, none, false⟩ [] (
  .run ⟨some (63, true), .unOp .not 4 (.tmp 62), 4, none, true⟩ [] (
  .done)))))))))))) τ ρ h := _root_.id rfl
def law3_MapReads_r9 : List Sop := [
  ⟨some (6, true), .assign (.const (.bool false)), 4, none, true⟩]
theorem law3_MapReads_r9_go {K : Env → Heap → Prop} {τ ρ : Env} {h : Heap} : vcOps Try.prog K law3_MapReads_r9 τ ρ h = vcOps Try.prog K [
  ⟨some (6, true), .assign (.const (.bool false)), 4, none, true⟩] τ ρ h := _root_.id rfl
def law3_MapReads_r10 : List Sop := [
  ⟨some (64, false), .move (.tmp 10), 26, none, true⟩,
  ⟨some (65, false), .move (.tmp 13), 26, none, true⟩,
  ⟨some (66, false), .call { callee := .value (.func 11), args := #[.tmp 64, .tmp 65], argTypes := #[26, 26] }, 4, none, false⟩,
  ⟨some (67, false), .move (.tmp 66), 4, none, true⟩,
  ⟨some (68, false), .move (.tmp 11), 27, some (67, true), true⟩,
  ⟨some (69, false), .move (.tmp 14), 27, some (67, true), true⟩,
  ⟨some (70, false), .binOp .eql 27 (.tmp 68) (.tmp 69) 27, 4, some (67, true), true⟩,
  ⟨some (71, false), .pick (.tmp 67) (.tmp 70) (.const (.bool false)), 4, none, true⟩,
  ⟨some (72, false), .move (.tmp 71), 4, none, true⟩,
  ⟨some (73, false), .move (.tmp 12), 3, some (72, true), true⟩,
  ⟨some (74, false), .move (.tmp 15), 3, some (72, true), true⟩,
  ⟨some (75, false), .binOp .eql 3 (.tmp 73) (.tmp 74) 3, 4, some (72, true), true⟩,
  ⟨some (76, false), .pick (.tmp 72) (.tmp 75) (.const (.bool false)), 4, none, true⟩,
  ⟨some (77, false), .move (.tmp 76), 4, none, true⟩,
  ⟨some (78, false), .move (.tmp 10), 26, some (77, true), true⟩,
  ⟨some (79, false), .call { callee := .value (.func 12), args := #[.tmp 78], argTypes := #[26] }, 4, some (77, true), false⟩,
  ⟨some (80, false), .pick (.tmp 77) (.tmp 79) (.const (.bool false)), 4, none, true⟩,
  ⟨some (6, true), .assign (.tmp 80), 4, none, true⟩]
theorem law3_MapReads_r10_go {K : Env → Heap → Prop} {τ ρ : Env} {h : Heap} : vcOps Try.prog K law3_MapReads_r10 τ ρ h = vcOps Try.prog K [
  ⟨some (64, false), .move (.tmp 10), 26, none, true⟩,
  ⟨some (65, false), .move (.tmp 13), 26, none, true⟩,
  ⟨some (66, false), .call { callee := .value (.func 11), args := #[.tmp 64, .tmp 65], argTypes := #[26, 26] }, 4, none, false⟩,
  ⟨some (67, false), .move (.tmp 66), 4, none, true⟩,
  ⟨some (68, false), .move (.tmp 11), 27, some (67, true), true⟩,
  ⟨some (69, false), .move (.tmp 14), 27, some (67, true), true⟩,
  ⟨some (70, false), .binOp .eql 27 (.tmp 68) (.tmp 69) 27, 4, some (67, true), true⟩,
  ⟨some (71, false), .pick (.tmp 67) (.tmp 70) (.const (.bool false)), 4, none, true⟩,
  ⟨some (72, false), .move (.tmp 71), 4, none, true⟩,
  ⟨some (73, false), .move (.tmp 12), 3, some (72, true), true⟩,
  ⟨some (74, false), .move (.tmp 15), 3, some (72, true), true⟩,
  ⟨some (75, false), .binOp .eql 3 (.tmp 73) (.tmp 74) 3, 4, some (72, true), true⟩,
  ⟨some (76, false), .pick (.tmp 72) (.tmp 75) (.const (.bool false)), 4, none, true⟩,
  ⟨some (77, false), .move (.tmp 76), 4, none, true⟩,
  ⟨some (78, false), .move (.tmp 10), 26, some (77, true), true⟩,
  ⟨some (79, false), .call { callee := .value (.func 12), args := #[.tmp 78], argTypes := #[26] }, 4, some (77, true), false⟩,
  ⟨some (80, false), .pick (.tmp 77) (.tmp 79) (.const (.bool false)), 4, none, true⟩,
  ⟨some (6, true), .assign (.tmp 80), 4, none, true⟩] τ ρ h := _root_.id rfl
def law3_MapReads_t0 : Cd := .cond (.tmp 63) (.seq (.region law3_MapReads_r9) (.ret)) (.skip)
theorem law3_MapReads_t0_go {Q : Ex → Env → Heap → Prop} {ρ : Env} {h : Heap} : Cd.vc Try.prog law3_MapReads_t0 Q ρ h = Cd.vc Try.prog (.cond (.tmp 63) (.seq (.region law3_MapReads_r9) (.ret)) (.skip)) Q ρ h := _root_.id rfl
def law3_MapReads_t1 : Cd := .seq (.region law3_MapReads_r6) (.seq (.region law3_MapReads_r7) (.seq (.seq (.tree law3_MapReads_r8) (law3_MapReads_t0)) (.seq (.region law3_MapReads_r10) (.ret))))
theorem law3_MapReads_t1_go {Q : Ex → Env → Heap → Prop} {ρ : Env} {h : Heap} : Cd.vc Try.prog law3_MapReads_t1 Q ρ h = Cd.vc Try.prog (.seq (.region law3_MapReads_r6) (.seq (.region law3_MapReads_r7) (.seq (.seq (.tree law3_MapReads_r8) (law3_MapReads_t0)) (.seq (.region law3_MapReads_r10) (.ret))))) Q ρ h := _root_.id rfl
def law3_MapReads : Cd := .seq (.region law3_MapReads_r0) (.seq (.seq (.region law3_MapReads_r1) (.cond (.tmp 24) (.seq (.region law3_MapReads_r2) (.ret)) (.skip))) (.seq (.region law3_MapReads_r3) (.seq (.region law3_MapReads_r4) (.seq (.tree law3_MapReads_r5) (law3_MapReads_t1)))))
theorem law3_MapReads_go {Q : Ex → Env → Heap → Prop} {ρ : Env} {h : Heap} : Cd.vc Try.prog law3_MapReads Q ρ h = Cd.vc Try.prog (.seq (.region law3_MapReads_r0) (.seq (.seq (.region law3_MapReads_r1) (.cond (.tmp 24) (.seq (.region law3_MapReads_r2) (.ret)) (.skip))) (.seq (.region law3_MapReads_r3) (.seq (.region law3_MapReads_r4) (.seq (.tree law3_MapReads_r5) (law3_MapReads_t1)))))) Q ρ h := _root_.id rfl
theorem law3_MapReads_calls {args : List Value} {h : Heap} {R : Value → Heap → Prop} (hl : args.length = 3) (hv : Cd.vc Try.prog law3_MapReads (retQ Try.prog [(6, none)] R) (initEnv args [0, 1, 2, 6, 7, 8, 9, 10, 11, 12, 13, 14, 15, 24, 63]) h) : HCalls Try.prog 3 args.toArray h R :=
  hcalls_of_vc (by kernel_rfl) Try.func3 (cd := law3_MapReads) (L := [0, 1, 2, 6, 7, 8, 9, 10, 11, 12, 13, 14, 15, 24, 63]) (by kernel_rfl) (by kernel_rfl) ⟨by rw [hl, Try.ntmps3]; decide, by rw [Try.ntmps3]; decide⟩ hv
def law3_MapReads_gos := And.intro @law3_MapReads_go (And.intro @law3_MapReads_r0_go (And.intro @law3_MapReads_r1_go (And.intro @law3_MapReads_r2_go (And.intro @law3_MapReads_r3_go (And.intro @law3_MapReads_r4_go (And.intro @law3_MapReads_r5_go (And.intro @law3_MapReads_r6_go (And.intro @law3_MapReads_r7_go (And.intro @law3_MapReads_r8_go (And.intro @law3_MapReads_r9_go (@law3_MapReads_r10_go)))))))))))

/-! jvmcore/jvmcorelaw3.apart: function 12: slots [0, 2, 3, 4, 5, 6, 7, 8, 10, 12, 14, 15, 16, 23, 24, 25, 42, 43, 44, 58, 59, 60, 81, 82, 83, 84, 89, 90, 91, 92, 103, 106, 107, 108, 109, 120] -/
def law3_apart_r0 : List Sop := [
  ⟨some (2, true), .assign (.const (.bool false)), 4, none, true⟩]
theorem law3_apart_r0_go {K : Env → Heap → Prop} {τ ρ : Env} {h : Heap} : vcOps Try.prog K law3_apart_r0 τ ρ h = vcOps Try.prog K [
  ⟨some (2, true), .assign (.const (.bool false)), 4, none, true⟩] τ ρ h := _root_.id rfl
def law3_apart_r1 : List Sop := [
  ⟨some (13, false), .move (.tmp 0), 26, none, true⟩,
  ⟨some (14, true), .call { callee := .builtin .len, args := #[.tmp 13], argTypes := #[26] }, 3, none, true⟩,
  ⟨some (15, true), .move (.const (.int .i64 0)), 3, none, true⟩]
theorem law3_apart_r1_go {K : Env → Heap → Prop} {τ ρ : Env} {h : Heap} : vcOps Try.prog K law3_apart_r1 τ ρ h = vcOps Try.prog K [
  ⟨some (13, false), .move (.tmp 0), 26, none, true⟩,
  ⟨some (14, true), .call { callee := .builtin .len, args := #[.tmp 13], argTypes := #[26] }, 3, none, true⟩,
  ⟨some (15, true), .move (.const (.int .i64 0)), 3, none, true⟩] τ ρ h := _root_.id rfl
def law3_apart_r2 : List Sop := [
  ⟨some (16, true), .binOp .lss 3 (.tmp 15) (.tmp 14) 3, 0, none, true⟩]
theorem law3_apart_r2_go {K : Env → Heap → Prop} {τ ρ : Env} {h : Heap} : vcOps Try.prog K law3_apart_r2 τ ρ h = vcOps Try.prog K [
  ⟨some (16, true), .binOp .lss 3 (.tmp 15) (.tmp 14) 3, 0, none, true⟩] τ ρ h := _root_.id rfl
def law3_apart_r3 : List Sop := [
  ⟨some (17, false), .move (.tmp 15), 3, none, true⟩,
  ⟨some (3, true), .assign (.tmp 17), 3, none, true⟩]
theorem law3_apart_r3_go {K : Env → Heap → Prop} {τ ρ : Env} {h : Heap} : vcOps Try.prog K law3_apart_r3 τ ρ h = vcOps Try.prog K [
  ⟨some (17, false), .move (.tmp 15), 3, none, true⟩,
  ⟨some (3, true), .assign (.tmp 17), 3, none, true⟩] τ ρ h := _root_.id rfl
def law3_apart_r4 : List Sop := [
  ⟨some (18, false), .move (.tmp 0), 26, none, true⟩,
  ⟨some (19, false), .move (.tmp 3), 3, none, true⟩,
  ⟨some (20, false), .indexAddr 26 (.tmp 18) (.tmp 19), 0, none, true⟩,
  ⟨some (21, false), .fieldAddr 35 (.tmp 20) 1, 0, none, true⟩,
  ⟨some (22, false), .load 23 (.tmp 21), 23, none, true⟩,
  ⟨some (23, true), .call { callee := .builtin .len, args := #[.tmp 22], argTypes := #[23] }, 3, none, true⟩,
  ⟨some (24, true), .move (.const (.int .i64 0)), 3, none, true⟩]
theorem law3_apart_r4_go {K : Env → Heap → Prop} {τ ρ : Env} {h : Heap} : vcOps Try.prog K law3_apart_r4 τ ρ h = vcOps Try.prog K [
  ⟨some (18, false), .move (.tmp 0), 26, none, true⟩,
  ⟨some (19, false), .move (.tmp 3), 3, none, true⟩,
  ⟨some (20, false), .indexAddr 26 (.tmp 18) (.tmp 19), 0, none, true⟩,
  ⟨some (21, false), .fieldAddr 35 (.tmp 20) 1, 0, none, true⟩,
  ⟨some (22, false), .load 23 (.tmp 21), 23, none, true⟩,
  ⟨some (23, true), .call { callee := .builtin .len, args := #[.tmp 22], argTypes := #[23] }, 3, none, true⟩,
  ⟨some (24, true), .move (.const (.int .i64 0)), 3, none, true⟩] τ ρ h := _root_.id rfl
def law3_apart_r5 : List Sop := [
  ⟨some (25, true), .binOp .lss 3 (.tmp 24) (.tmp 23) 3, 0, none, true⟩]
theorem law3_apart_r5_go {K : Env → Heap → Prop} {τ ρ : Env} {h : Heap} : vcOps Try.prog K law3_apart_r5 τ ρ h = vcOps Try.prog K [
  ⟨some (25, true), .binOp .lss 3 (.tmp 24) (.tmp 23) 3, 0, none, true⟩] τ ρ h := _root_.id rfl
def law3_apart_r6 : List Sop := [
  ⟨some (26, false), .move (.tmp 24), 3, none, true⟩,
  ⟨some (4, true), .assign (.tmp 26), 3, none, true⟩]
theorem law3_apart_r6_go {K : Env → Heap → Prop} {τ ρ : Env} {h : Heap} : vcOps Try.prog K law3_apart_r6 τ ρ h = vcOps Try.prog K [
  ⟨some (26, false), .move (.tmp 24), 3, none, true⟩,
  ⟨some (4, true), .assign (.tmp 26), 3, none, true⟩] τ ρ h := _root_.id rfl
def law3_apart_r7 : List Sop := [
  ⟨some (27, false), .move (.tmp 0), 26, none, true⟩,
  ⟨some (28, false), .move (.tmp 3), 3, none, true⟩,
  ⟨some (29, false), .indexAddr 26 (.tmp 27) (.tmp 28), 0, none, true⟩,
  ⟨some (30, false), .fieldAddr 35 (.tmp 29) 1, 0, none, true⟩,
  ⟨some (31, false), .load 23 (.tmp 30), 23, none, true⟩,
  ⟨some (32, false), .move (.tmp 4), 3, none, true⟩,
  ⟨some (33, false), .move (.tmp 3), 3, none, true⟩,
  ⟨some (34, false), .build 25 #[(0, .const (.int .u8 78)), (2, .tmp 33)], 25, none, true⟩,
  ⟨some (35, false), .indexAddr 23 (.tmp 31) (.tmp 32), 0, none, true⟩,
  ⟨none, .store 25 (.tmp 35) (.tmp 34), 0, none, false⟩]
theorem law3_apart_r7_go {K : Env → Heap → Prop} {τ ρ : Env} {h : Heap} : vcOps Try.prog K law3_apart_r7 τ ρ h = vcOps Try.prog K [
  ⟨some (27, false), .move (.tmp 0), 26, none, true⟩,
  ⟨some (28, false), .move (.tmp 3), 3, none, true⟩,
  ⟨some (29, false), .indexAddr 26 (.tmp 27) (.tmp 28), 0, none, true⟩,
  ⟨some (30, false), .fieldAddr 35 (.tmp 29) 1, 0, none, true⟩,
  ⟨some (31, false), .load 23 (.tmp 30), 23, none, true⟩,
  ⟨some (32, false), .move (.tmp 4), 3, none, true⟩,
  ⟨some (33, false), .move (.tmp 3), 3, none, true⟩,
  ⟨some (34, false), .build 25 #[(0, .const (.int .u8 78)), (2, .tmp 33)], 25, none, true⟩,
  ⟨some (35, false), .indexAddr 23 (.tmp 31) (.tmp 32), 0, none, true⟩,
  ⟨none, .store 25 (.tmp 35) (.tmp 34), 0, none, false⟩] τ ρ h := _root_.id rfl
def law3_apart_r8 : List Sop := [
  ⟨some (36, false), .binOp .add 3 (.tmp 24) (.const (.int .i64 1)) 3, 3, none, true⟩,
  ⟨some (24, true), .move (.tmp 36), 3, none, true⟩]
theorem law3_apart_r8_go {K : Env → Heap → Prop} {τ ρ : Env} {h : Heap} : vcOps Try.prog K law3_apart_r8 τ ρ h = vcOps Try.prog K [
  ⟨some (36, false), .binOp .add 3 (.tmp 24) (.const (.int .i64 1)) 3, 3, none, true⟩,
  ⟨some (24, true), .move (.tmp 36), 3, none, true⟩] τ ρ h := _root_.id rfl
def law3_apart_r9 : List Sop := [
  ⟨some (37, false), .move (.tmp 0), 26, none, true⟩,
  ⟨some (38, false), .move (.tmp 3), 3, none, true⟩,
  ⟨some (39, false), .indexAddr 26 (.tmp 37) (.tmp 38), 0, none, true⟩,
  ⟨some (40, false), .fieldAddr 35 (.tmp 39) 2, 0, none, true⟩,
  ⟨some (41, false), .load 23 (.tmp 40), 23, none, true⟩,
  ⟨some (42, true), .call { callee := .builtin .len, args := #[.tmp 41], argTypes := #[23] }, 3, none, true⟩,
  ⟨some (43, true), .move (.const (.int .i64 0)), 3, none, true⟩]
theorem law3_apart_r9_go {K : Env → Heap → Prop} {τ ρ : Env} {h : Heap} : vcOps Try.prog K law3_apart_r9 τ ρ h = vcOps Try.prog K [
  ⟨some (37, false), .move (.tmp 0), 26, none, true⟩,
  ⟨some (38, false), .move (.tmp 3), 3, none, true⟩,
  ⟨some (39, false), .indexAddr 26 (.tmp 37) (.tmp 38), 0, none, true⟩,
  ⟨some (40, false), .fieldAddr 35 (.tmp 39) 2, 0, none, true⟩,
  ⟨some (41, false), .load 23 (.tmp 40), 23, none, true⟩,
  ⟨some (42, true), .call { callee := .builtin .len, args := #[.tmp 41], argTypes := #[23] }, 3, none, true⟩,
  ⟨some (43, true), .move (.const (.int .i64 0)), 3, none, true⟩] τ ρ h := _root_.id rfl
def law3_apart_r10 : List Sop := [
  ⟨some (44, true), .binOp .lss 3 (.tmp 43) (.tmp 42) 3, 0, none, true⟩]
theorem law3_apart_r10_go {K : Env → Heap → Prop} {τ ρ : Env} {h : Heap} : vcOps Try.prog K law3_apart_r10 τ ρ h = vcOps Try.prog K [
  ⟨some (44, true), .binOp .lss 3 (.tmp 43) (.tmp 42) 3, 0, none, true⟩] τ ρ h := _root_.id rfl
def law3_apart_r11 : List Sop := [
  ⟨some (45, false), .move (.tmp 43), 3, none, true⟩,
  ⟨some (5, true), .assign (.tmp 45), 3, none, true⟩]
theorem law3_apart_r11_go {K : Env → Heap → Prop} {τ ρ : Env} {h : Heap} : vcOps Try.prog K law3_apart_r11 τ ρ h = vcOps Try.prog K [
  ⟨some (45, false), .move (.tmp 43), 3, none, true⟩,
  ⟨some (5, true), .assign (.tmp 45), 3, none, true⟩] τ ρ h := _root_.id rfl
def law3_apart_r12 : List Sop := [
  ⟨some (46, false), .move (.tmp 0), 26, none, true⟩,
  ⟨some (47, false), .move (.tmp 3), 3, none, true⟩,
  ⟨some (48, false), .indexAddr 26 (.tmp 46) (.tmp 47), 0, none, true⟩,
  ⟨some (49, false), .fieldAddr 35 (.tmp 48) 2, 0, none, true⟩,
  ⟨some (50, false), .load 23 (.tmp 49), 23, none, true⟩,
  ⟨some (51, false), .move (.tmp 5), 3, none, true⟩,
  ⟨some (52, false), .move (.tmp 3), 3, none, true⟩,
  ⟨some (53, false), .build 25 #[(0, .const (.int .u8 79)), (2, .tmp 52)], 25, none, true⟩,
  ⟨some (54, false), .indexAddr 23 (.tmp 50) (.tmp 51), 0, none, true⟩,
  ⟨none, .store 25 (.tmp 54) (.tmp 53), 0, none, false⟩]
theorem law3_apart_r12_go {K : Env → Heap → Prop} {τ ρ : Env} {h : Heap} : vcOps Try.prog K law3_apart_r12 τ ρ h = vcOps Try.prog K [
  ⟨some (46, false), .move (.tmp 0), 26, none, true⟩,
  ⟨some (47, false), .move (.tmp 3), 3, none, true⟩,
  ⟨some (48, false), .indexAddr 26 (.tmp 46) (.tmp 47), 0, none, true⟩,
  ⟨some (49, false), .fieldAddr 35 (.tmp 48) 2, 0, none, true⟩,
  ⟨some (50, false), .load 23 (.tmp 49), 23, none, true⟩,
  ⟨some (51, false), .move (.tmp 5), 3, none, true⟩,
  ⟨some (52, false), .move (.tmp 3), 3, none, true⟩,
  ⟨some (53, false), .build 25 #[(0, .const (.int .u8 79)), (2, .tmp 52)], 25, none, true⟩,
  ⟨some (54, false), .indexAddr 23 (.tmp 50) (.tmp 51), 0, none, true⟩,
  ⟨none, .store 25 (.tmp 54) (.tmp 53), 0, none, false⟩] τ ρ h := _root_.id rfl
def law3_apart_r13 : List Sop := [
  ⟨some (55, false), .binOp .add 3 (.tmp 43) (.const (.int .i64 1)) 3, 3, none, true⟩,
  ⟨some (43, true), .move (.tmp 55), 3, none, true⟩]
theorem law3_apart_r13_go {K : Env → Heap → Prop} {τ ρ : Env} {h : Heap} : vcOps Try.prog K law3_apart_r13 τ ρ h = vcOps Try.prog K [
  ⟨some (55, false), .binOp .add 3 (.tmp 43) (.const (.int .i64 1)) 3, 3, none, true⟩,
  ⟨some (43, true), .move (.tmp 55), 3, none, true⟩] τ ρ h := _root_.id rfl
def law3_apart_r14 : List Sop := [
  ⟨some (56, false), .binOp .add 3 (.tmp 15) (.const (.int .i64 1)) 3, 3, none, true⟩,
  ⟨some (15, true), .move (.tmp 56), 3, none, true⟩]
theorem law3_apart_r14_go {K : Env → Heap → Prop} {τ ρ : Env} {h : Heap} : vcOps Try.prog K law3_apart_r14 τ ρ h = vcOps Try.prog K [
  ⟨some (56, false), .binOp .add 3 (.tmp 15) (.const (.int .i64 1)) 3, 3, none, true⟩,
  ⟨some (15, true), .move (.tmp 56), 3, none, true⟩] τ ρ h := _root_.id rfl
def law3_apart_r15 : List Sop := [
  ⟨some (57, false), .move (.tmp 0), 26, none, true⟩,
  ⟨some (58, true), .call { callee := .builtin .len, args := #[.tmp 57], argTypes := #[26] }, 3, none, true⟩,
  ⟨some (59, true), .move (.const (.int .i64 0)), 3, none, true⟩]
theorem law3_apart_r15_go {K : Env → Heap → Prop} {τ ρ : Env} {h : Heap} : vcOps Try.prog K law3_apart_r15 τ ρ h = vcOps Try.prog K [
  ⟨some (57, false), .move (.tmp 0), 26, none, true⟩,
  ⟨some (58, true), .call { callee := .builtin .len, args := #[.tmp 57], argTypes := #[26] }, 3, none, true⟩,
  ⟨some (59, true), .move (.const (.int .i64 0)), 3, none, true⟩] τ ρ h := _root_.id rfl
def law3_apart_r16 : List Sop := [
  ⟨some (60, true), .binOp .lss 3 (.tmp 59) (.tmp 58) 3, 0, none, true⟩]
theorem law3_apart_r16_go {K : Env → Heap → Prop} {τ ρ : Env} {h : Heap} : vcOps Try.prog K law3_apart_r16 τ ρ h = vcOps Try.prog K [
  ⟨some (60, true), .binOp .lss 3 (.tmp 59) (.tmp 58) 3, 0, none, true⟩] τ ρ h := _root_.id rfl
def law3_apart_r17 : List Sop := [
  ⟨some (61, false), .move (.tmp 59), 3, none, true⟩,
  ⟨some (6, true), .assign (.tmp 61), 3, none, true⟩]
theorem law3_apart_r17_go {K : Env → Heap → Prop} {τ ρ : Env} {h : Heap} : vcOps Try.prog K law3_apart_r17 τ ρ h = vcOps Try.prog K [
  ⟨some (61, false), .move (.tmp 59), 3, none, true⟩,
  ⟨some (6, true), .assign (.tmp 61), 3, none, true⟩] τ ρ h := _root_.id rfl
def law3_apart_r18 : List Sop := [
  ⟨some (62, false), .move (.tmp 0), 26, none, true⟩,
  ⟨some (63, false), .move (.tmp 6), 3, none, true⟩,
  ⟨some (64, false), .indexAddr 26 (.tmp 62) (.tmp 63), 0, none, true⟩,
  ⟨some (65, false), .fieldAddr 35 (.tmp 64) 1, 0, none, true⟩,
  ⟨some (66, false), .load 23 (.tmp 65), 23, none, true⟩,
  ⟨some (67, false), .build 25 #[(0, .const (.int .u8 80))], 25, none, true⟩,
  ⟨some (68, false), .build 25 #[(0, .const (.int .u8 80))], 25, none, true⟩,
  ⟨some (69, false), .buildSlice 23 2 #[(0, .tmp 67), (1, .tmp 68)], 23, none, false⟩,
  ⟨some (70, false), .call { callee := .builtin .append, args := #[.tmp 66, .tmp 69], argTypes := #[23, 23] }, 23, none, false⟩]
theorem law3_apart_r18_go {K : Env → Heap → Prop} {τ ρ : Env} {h : Heap} : vcOps Try.prog K law3_apart_r18 τ ρ h = vcOps Try.prog K [
  ⟨some (62, false), .move (.tmp 0), 26, none, true⟩,
  ⟨some (63, false), .move (.tmp 6), 3, none, true⟩,
  ⟨some (64, false), .indexAddr 26 (.tmp 62) (.tmp 63), 0, none, true⟩,
  ⟨some (65, false), .fieldAddr 35 (.tmp 64) 1, 0, none, true⟩,
  ⟨some (66, false), .load 23 (.tmp 65), 23, none, true⟩,
  ⟨some (67, false), .build 25 #[(0, .const (.int .u8 80))], 25, none, true⟩,
  ⟨some (68, false), .build 25 #[(0, .const (.int .u8 80))], 25, none, true⟩,
  ⟨some (69, false), .buildSlice 23 2 #[(0, .tmp 67), (1, .tmp 68)], 23, none, false⟩,
  ⟨some (70, false), .call { callee := .builtin .append, args := #[.tmp 66, .tmp 69], argTypes := #[23, 23] }, 23, none, false⟩] τ ρ h := _root_.id rfl
def law3_apart_r19 : List Sop := [
  ⟨some (71, false), .move (.tmp 0), 26, none, true⟩,
  ⟨some (72, false), .move (.tmp 6), 3, none, true⟩,
  ⟨some (73, false), .indexAddr 26 (.tmp 71) (.tmp 72), 0, none, true⟩,
  ⟨some (74, false), .fieldAddr 35 (.tmp 73) 2, 0, none, true⟩,
  ⟨some (75, false), .load 23 (.tmp 74), 23, none, true⟩,
  ⟨some (76, false), .build 25 #[(0, .const (.int .u8 80))], 25, none, true⟩,
  ⟨some (77, false), .build 25 #[(0, .const (.int .u8 80))], 25, none, true⟩,
  ⟨some (78, false), .buildSlice 23 2 #[(0, .tmp 76), (1, .tmp 77)], 23, none, false⟩,
  ⟨some (79, false), .call { callee := .builtin .append, args := #[.tmp 75, .tmp 78], argTypes := #[23, 23] }, 23, none, false⟩]
theorem law3_apart_r19_go {K : Env → Heap → Prop} {τ ρ : Env} {h : Heap} : vcOps Try.prog K law3_apart_r19 τ ρ h = vcOps Try.prog K [
  ⟨some (71, false), .move (.tmp 0), 26, none, true⟩,
  ⟨some (72, false), .move (.tmp 6), 3, none, true⟩,
  ⟨some (73, false), .indexAddr 26 (.tmp 71) (.tmp 72), 0, none, true⟩,
  ⟨some (74, false), .fieldAddr 35 (.tmp 73) 2, 0, none, true⟩,
  ⟨some (75, false), .load 23 (.tmp 74), 23, none, true⟩,
  ⟨some (76, false), .build 25 #[(0, .const (.int .u8 80))], 25, none, true⟩,
  ⟨some (77, false), .build 25 #[(0, .const (.int .u8 80))], 25, none, true⟩,
  ⟨some (78, false), .buildSlice 23 2 #[(0, .tmp 76), (1, .tmp 77)], 23, none, false⟩,
  ⟨some (79, false), .call { callee := .builtin .append, args := #[.tmp 75, .tmp 78], argTypes := #[23, 23] }, 23, none, false⟩] τ ρ h := _root_.id rfl
def law3_apart_r20 : List Sop := [
  ⟨some (80, false), .binOp .add 3 (.tmp 59) (.const (.int .i64 1)) 3, 3, none, true⟩,
  ⟨some (59, true), .move (.tmp 80), 3, none, true⟩]
theorem law3_apart_r20_go {K : Env → Heap → Prop} {τ ρ : Env} {h : Heap} : vcOps Try.prog K law3_apart_r20 τ ρ h = vcOps Try.prog K [
  ⟨some (80, false), .binOp .add 3 (.tmp 59) (.const (.int .i64 1)) 3, 3, none, true⟩,
  ⟨some (59, true), .move (.tmp 80), 3, none, true⟩] τ ρ h := _root_.id rfl
def law3_apart_r21 : List Sop := [
  ⟨some (81, true), .move (.tmp 0), 26, none, true⟩,
  ⟨some (82, true), .call { callee := .builtin .len, args := #[.tmp 81], argTypes := #[26] }, 3, none, true⟩,
  ⟨some (83, true), .move (.const (.int .i64 0)), 3, none, true⟩]
theorem law3_apart_r21_go {K : Env → Heap → Prop} {τ ρ : Env} {h : Heap} : vcOps Try.prog K law3_apart_r21 τ ρ h = vcOps Try.prog K [
  ⟨some (81, true), .move (.tmp 0), 26, none, true⟩,
  ⟨some (82, true), .call { callee := .builtin .len, args := #[.tmp 81], argTypes := #[26] }, 3, none, true⟩,
  ⟨some (83, true), .move (.const (.int .i64 0)), 3, none, true⟩] τ ρ h := _root_.id rfl
def law3_apart_r22 : List Sop := [
  ⟨some (84, true), .binOp .lss 3 (.tmp 83) (.tmp 82) 3, 0, none, true⟩]
theorem law3_apart_r22_go {K : Env → Heap → Prop} {τ ρ : Env} {h : Heap} : vcOps Try.prog K law3_apart_r22 τ ρ h = vcOps Try.prog K [
  ⟨some (84, true), .binOp .lss 3 (.tmp 83) (.tmp 82) 3, 0, none, true⟩] τ ρ h := _root_.id rfl
def law3_apart_r23 : List Sop := [
  ⟨some (85, false), .move (.tmp 83), 3, none, true⟩,
  ⟨some (86, false), .indexAddr 26 (.tmp 81) (.tmp 83), 0, none, true⟩,
  ⟨some (87, false), .load 35 (.tmp 86), 35, none, true⟩,
  ⟨some (8, true), .alloc 35, 0, none, false⟩,
  ⟨some (7, true), .assign (.tmp 85), 3, none, true⟩,
  ⟨none, .store 35 (.tmp 8) (.tmp 87), 0, none, false⟩]
theorem law3_apart_r23_go {K : Env → Heap → Prop} {τ ρ : Env} {h : Heap} : vcOps Try.prog K law3_apart_r23 τ ρ h = vcOps Try.prog K [
  ⟨some (85, false), .move (.tmp 83), 3, none, true⟩,
  ⟨some (86, false), .indexAddr 26 (.tmp 81) (.tmp 83), 0, none, true⟩,
  ⟨some (87, false), .load 35 (.tmp 86), 35, none, true⟩,
  ⟨some (8, true), .alloc 35, 0, none, false⟩,
  ⟨some (7, true), .assign (.tmp 85), 3, none, true⟩,
  ⟨none, .store 35 (.tmp 8) (.tmp 87), 0, none, false⟩] τ ρ h := _root_.id rfl
def law3_apart_r24 : List Sop := [
  ⟨some (88, false), .fieldAddr 35 (.tmp 8) 1, 0, none, true⟩,
  ⟨some (89, true), .load 23 (.tmp 88), 23, none, true⟩,
  ⟨some (90, true), .call { callee := .builtin .len, args := #[.tmp 89], argTypes := #[23] }, 3, none, true⟩,
  ⟨some (91, true), .move (.const (.int .i64 0)), 3, none, true⟩]
theorem law3_apart_r24_go {K : Env → Heap → Prop} {τ ρ : Env} {h : Heap} : vcOps Try.prog K law3_apart_r24 τ ρ h = vcOps Try.prog K [
  ⟨some (88, false), .fieldAddr 35 (.tmp 8) 1, 0, none, true⟩,
  ⟨some (89, true), .load 23 (.tmp 88), 23, none, true⟩,
  ⟨some (90, true), .call { callee := .builtin .len, args := #[.tmp 89], argTypes := #[23] }, 3, none, true⟩,
  ⟨some (91, true), .move (.const (.int .i64 0)), 3, none, true⟩] τ ρ h := _root_.id rfl
def law3_apart_r25 : List Sop := [
  ⟨some (92, true), .binOp .lss 3 (.tmp 91) (.tmp 90) 3, 0, none, true⟩]
theorem law3_apart_r25_go {K : Env → Heap → Prop} {τ ρ : Env} {h : Heap} : vcOps Try.prog K law3_apart_r25 τ ρ h = vcOps Try.prog K [
  ⟨some (92, true), .binOp .lss 3 (.tmp 91) (.tmp 90) 3, 0, none, true⟩] τ ρ h := _root_.id rfl
def law3_apart_r26 : List Sop := [
  ⟨some (93, false), .indexAddr 23 (.tmp 89) (.tmp 91), 0, none, true⟩,
  ⟨some (94, false), .load 25 (.tmp 93), 25, none, true⟩,
  ⟨some (10, true), .alloc 25, 0, none, false⟩,
  ⟨none, .store 25 (.tmp 10) (.tmp 94), 0, none, false⟩]
theorem law3_apart_r26_go {K : Env → Heap → Prop} {τ ρ : Env} {h : Heap} : vcOps Try.prog K law3_apart_r26 τ ρ h = vcOps Try.prog K [
  ⟨some (93, false), .indexAddr 23 (.tmp 89) (.tmp 91), 0, none, true⟩,
  ⟨some (94, false), .load 25 (.tmp 93), 25, none, true⟩,
  ⟨some (10, true), .alloc 25, 0, none, false⟩,
  ⟨none, .store 25 (.tmp 10) (.tmp 94), 0, none, false⟩] τ ρ h := _root_.id rfl
def law3_apart_r27 : List Sop := [
  ⟨some (95, false), .fieldAddr 25 (.tmp 10) 0, 0, none, true⟩,
  ⟨some (96, false), .load 5 (.tmp 95), 5, none, true⟩,
  ⟨some (97, false), .binOp .neq 5 (.tmp 96) (.const (.int .u8 78)) 5, 4, none, true⟩,
  ⟨some (98, false), .move (.tmp 97), 4, none, true⟩,
  ⟨some (99, false), .fieldAddr 25 (.tmp 10) 2, 0, some (98, false), true⟩,
  ⟨some (100, false), .load 3 (.tmp 99), 3, some (98, false), true⟩,
  ⟨some (101, false), .move (.tmp 7), 3, some (98, false), true⟩,
  ⟨some (102, false), .binOp .neq 3 (.tmp 100) (.tmp 101) 3, 4, some (98, false), true⟩,
  ⟨some (103, true), .pick (.tmp 98) (.const (.bool true)) (.tmp 102), 4, none, true⟩]
theorem law3_apart_r27_go {K : Env → Heap → Prop} {τ ρ : Env} {h : Heap} : vcOps Try.prog K law3_apart_r27 τ ρ h = vcOps Try.prog K [
  ⟨some (95, false), .fieldAddr 25 (.tmp 10) 0, 0, none, true⟩,
  ⟨some (96, false), .load 5 (.tmp 95), 5, none, true⟩,
  ⟨some (97, false), .binOp .neq 5 (.tmp 96) (.const (.int .u8 78)) 5, 4, none, true⟩,
  ⟨some (98, false), .move (.tmp 97), 4, none, true⟩,
  ⟨some (99, false), .fieldAddr 25 (.tmp 10) 2, 0, some (98, false), true⟩,
  ⟨some (100, false), .load 3 (.tmp 99), 3, some (98, false), true⟩,
  ⟨some (101, false), .move (.tmp 7), 3, some (98, false), true⟩,
  ⟨some (102, false), .binOp .neq 3 (.tmp 100) (.tmp 101) 3, 4, some (98, false), true⟩,
  ⟨some (103, true), .pick (.tmp 98) (.const (.bool true)) (.tmp 102), 4, none, true⟩] τ ρ h := _root_.id rfl
def law3_apart_r28 : List Sop := [
  ⟨some (2, true), .assign (.const (.bool false)), 4, none, true⟩]
theorem law3_apart_r28_go {K : Env → Heap → Prop} {τ ρ : Env} {h : Heap} : vcOps Try.prog K law3_apart_r28 τ ρ h = vcOps Try.prog K [
  ⟨some (2, true), .assign (.const (.bool false)), 4, none, true⟩] τ ρ h := _root_.id rfl
def law3_apart_r29 : List Sop := [
  ⟨some (104, false), .binOp .add 3 (.tmp 91) (.const (.int .i64 1)) 3, 3, none, true⟩,
  ⟨some (91, true), .move (.tmp 104), 3, none, true⟩]
theorem law3_apart_r29_go {K : Env → Heap → Prop} {τ ρ : Env} {h : Heap} : vcOps Try.prog K law3_apart_r29 τ ρ h = vcOps Try.prog K [
  ⟨some (104, false), .binOp .add 3 (.tmp 91) (.const (.int .i64 1)) 3, 3, none, true⟩,
  ⟨some (91, true), .move (.tmp 104), 3, none, true⟩] τ ρ h := _root_.id rfl
def law3_apart_r30 : List Sop := [
  ⟨some (105, false), .fieldAddr 35 (.tmp 8) 2, 0, none, true⟩,
  ⟨some (106, true), .load 23 (.tmp 105), 23, none, true⟩,
  ⟨some (107, true), .call { callee := .builtin .len, args := #[.tmp 106], argTypes := #[23] }, 3, none, true⟩,
  ⟨some (108, true), .move (.const (.int .i64 0)), 3, none, true⟩]
theorem law3_apart_r30_go {K : Env → Heap → Prop} {τ ρ : Env} {h : Heap} : vcOps Try.prog K law3_apart_r30 τ ρ h = vcOps Try.prog K [
  ⟨some (105, false), .fieldAddr 35 (.tmp 8) 2, 0, none, true⟩,
  ⟨some (106, true), .load 23 (.tmp 105), 23, none, true⟩,
  ⟨some (107, true), .call { callee := .builtin .len, args := #[.tmp 106], argTypes := #[23] }, 3, none, true⟩,
  ⟨some (108, true), .move (.const (.int .i64 0)), 3, none, true⟩] τ ρ h := _root_.id rfl
def law3_apart_r31 : List Sop := [
  ⟨some (109, true), .binOp .lss 3 (.tmp 108) (.tmp 107) 3, 0, none, true⟩]
theorem law3_apart_r31_go {K : Env → Heap → Prop} {τ ρ : Env} {h : Heap} : vcOps Try.prog K law3_apart_r31 τ ρ h = vcOps Try.prog K [
  ⟨some (109, true), .binOp .lss 3 (.tmp 108) (.tmp 107) 3, 0, none, true⟩] τ ρ h := _root_.id rfl
def law3_apart_r32 : List Sop := [
  ⟨some (110, false), .indexAddr 23 (.tmp 106) (.tmp 108), 0, none, true⟩,
  ⟨some (111, false), .load 25 (.tmp 110), 25, none, true⟩,
  ⟨some (12, true), .alloc 25, 0, none, false⟩,
  ⟨none, .store 25 (.tmp 12) (.tmp 111), 0, none, false⟩]
theorem law3_apart_r32_go {K : Env → Heap → Prop} {τ ρ : Env} {h : Heap} : vcOps Try.prog K law3_apart_r32 τ ρ h = vcOps Try.prog K [
  ⟨some (110, false), .indexAddr 23 (.tmp 106) (.tmp 108), 0, none, true⟩,
  ⟨some (111, false), .load 25 (.tmp 110), 25, none, true⟩,
  ⟨some (12, true), .alloc 25, 0, none, false⟩,
  ⟨none, .store 25 (.tmp 12) (.tmp 111), 0, none, false⟩] τ ρ h := _root_.id rfl
def law3_apart_r33 : List Sop := [
  ⟨some (112, false), .fieldAddr 25 (.tmp 12) 0, 0, none, true⟩,
  ⟨some (113, false), .load 5 (.tmp 112), 5, none, true⟩,
  ⟨some (114, false), .binOp .neq 5 (.tmp 113) (.const (.int .u8 79)) 5, 4, none, true⟩,
  ⟨some (115, false), .move (.tmp 114), 4, none, true⟩,
  ⟨some (116, false), .fieldAddr 25 (.tmp 12) 2, 0, some (115, false), true⟩,
  ⟨some (117, false), .load 3 (.tmp 116), 3, some (115, false), true⟩,
  ⟨some (118, false), .move (.tmp 7), 3, some (115, false), true⟩,
  ⟨some (119, false), .binOp .neq 3 (.tmp 117) (.tmp 118) 3, 4, some (115, false), true⟩,
  ⟨some (120, true), .pick (.tmp 115) (.const (.bool true)) (.tmp 119), 4, none, true⟩]
theorem law3_apart_r33_go {K : Env → Heap → Prop} {τ ρ : Env} {h : Heap} : vcOps Try.prog K law3_apart_r33 τ ρ h = vcOps Try.prog K [
  ⟨some (112, false), .fieldAddr 25 (.tmp 12) 0, 0, none, true⟩,
  ⟨some (113, false), .load 5 (.tmp 112), 5, none, true⟩,
  ⟨some (114, false), .binOp .neq 5 (.tmp 113) (.const (.int .u8 79)) 5, 4, none, true⟩,
  ⟨some (115, false), .move (.tmp 114), 4, none, true⟩,
  ⟨some (116, false), .fieldAddr 25 (.tmp 12) 2, 0, some (115, false), true⟩,
  ⟨some (117, false), .load 3 (.tmp 116), 3, some (115, false), true⟩,
  ⟨some (118, false), .move (.tmp 7), 3, some (115, false), true⟩,
  ⟨some (119, false), .binOp .neq 3 (.tmp 117) (.tmp 118) 3, 4, some (115, false), true⟩,
  ⟨some (120, true), .pick (.tmp 115) (.const (.bool true)) (.tmp 119), 4, none, true⟩] τ ρ h := _root_.id rfl
def law3_apart_r34 : List Sop := [
  ⟨some (2, true), .assign (.const (.bool false)), 4, none, true⟩]
theorem law3_apart_r34_go {K : Env → Heap → Prop} {τ ρ : Env} {h : Heap} : vcOps Try.prog K law3_apart_r34 τ ρ h = vcOps Try.prog K [
  ⟨some (2, true), .assign (.const (.bool false)), 4, none, true⟩] τ ρ h := _root_.id rfl
def law3_apart_r35 : List Sop := [
  ⟨some (121, false), .binOp .add 3 (.tmp 108) (.const (.int .i64 1)) 3, 3, none, true⟩,
  ⟨some (108, true), .move (.tmp 121), 3, none, true⟩]
theorem law3_apart_r35_go {K : Env → Heap → Prop} {τ ρ : Env} {h : Heap} : vcOps Try.prog K law3_apart_r35 τ ρ h = vcOps Try.prog K [
  ⟨some (121, false), .binOp .add 3 (.tmp 108) (.const (.int .i64 1)) 3, 3, none, true⟩,
  ⟨some (108, true), .move (.tmp 121), 3, none, true⟩] τ ρ h := _root_.id rfl
def law3_apart_r36 : List Sop := [
  ⟨some (122, false), .binOp .add 3 (.tmp 83) (.const (.int .i64 1)) 3, 3, none, true⟩,
  ⟨some (83, true), .move (.tmp 122), 3, none, true⟩]
theorem law3_apart_r36_go {K : Env → Heap → Prop} {τ ρ : Env} {h : Heap} : vcOps Try.prog K law3_apart_r36 τ ρ h = vcOps Try.prog K [
  ⟨some (122, false), .binOp .add 3 (.tmp 83) (.const (.int .i64 1)) 3, 3, none, true⟩,
  ⟨some (83, true), .move (.tmp 122), 3, none, true⟩] τ ρ h := _root_.id rfl
def law3_apart_r37 : List Sop := [
  ⟨some (2, true), .assign (.const (.bool true)), 4, none, true⟩]
theorem law3_apart_r37_go {K : Env → Heap → Prop} {τ ρ : Env} {h : Heap} : vcOps Try.prog K law3_apart_r37 τ ρ h = vcOps Try.prog K [
  ⟨some (2, true), .assign (.const (.bool true)), 4, none, true⟩] τ ρ h := _root_.id rfl
def law3_apart_l0 : Cd := .seq (.region law3_apart_r5) (.seq (.cond (.tmp 25) (.skip) (.exit 2)) (.seq (.block 3 (.seq (.region law3_apart_r6) (.region law3_apart_r7))) (.region law3_apart_r8)))
theorem law3_apart_l0_go {Q : Ex → Env → Heap → Prop} {ρ : Env} {h : Heap} : Cd.vc Try.prog law3_apart_l0 Q ρ h = Cd.vc Try.prog (.seq (.region law3_apart_r5) (.seq (.cond (.tmp 25) (.skip) (.exit 2)) (.seq (.block 3 (.seq (.region law3_apart_r6) (.region law3_apart_r7))) (.region law3_apart_r8)))) Q ρ h := _root_.id rfl
def law3_apart_l1 : Cd := .seq (.region law3_apart_r10) (.seq (.cond (.tmp 44) (.skip) (.exit 4)) (.seq (.block 5 (.seq (.region law3_apart_r11) (.region law3_apart_r12))) (.region law3_apart_r13)))
theorem law3_apart_l1_go {Q : Ex → Env → Heap → Prop} {ρ : Env} {h : Heap} : Cd.vc Try.prog law3_apart_l1 Q ρ h = Cd.vc Try.prog (.seq (.region law3_apart_r10) (.seq (.cond (.tmp 44) (.skip) (.exit 4)) (.seq (.block 5 (.seq (.region law3_apart_r11) (.region law3_apart_r12))) (.region law3_apart_r13)))) Q ρ h := _root_.id rfl
def law3_apart_l2 : Cd := .seq (.region law3_apart_r2) (.seq (.cond (.tmp 16) (.skip) (.exit 0)) (.seq (.block 1 (.seq (.region law3_apart_r3) (.seq (.seq (.region law3_apart_r4) (.block 2 (.loop law3_apart_l0))) (.seq (.region law3_apart_r9) (.block 4 (.loop law3_apart_l1)))))) (.region law3_apart_r14)))
theorem law3_apart_l2_go {Q : Ex → Env → Heap → Prop} {ρ : Env} {h : Heap} : Cd.vc Try.prog law3_apart_l2 Q ρ h = Cd.vc Try.prog (.seq (.region law3_apart_r2) (.seq (.cond (.tmp 16) (.skip) (.exit 0)) (.seq (.block 1 (.seq (.region law3_apart_r3) (.seq (.seq (.region law3_apart_r4) (.block 2 (.loop law3_apart_l0))) (.seq (.region law3_apart_r9) (.block 4 (.loop law3_apart_l1)))))) (.region law3_apart_r14)))) Q ρ h := _root_.id rfl
def law3_apart_l3 : Cd := .seq (.region law3_apart_r16) (.seq (.cond (.tmp 60) (.skip) (.exit 6)) (.seq (.block 7 (.seq (.region law3_apart_r17) (.seq (.region law3_apart_r18) (.region law3_apart_r19)))) (.region law3_apart_r20)))
theorem law3_apart_l3_go {Q : Ex → Env → Heap → Prop} {ρ : Env} {h : Heap} : Cd.vc Try.prog law3_apart_l3 Q ρ h = Cd.vc Try.prog (.seq (.region law3_apart_r16) (.seq (.cond (.tmp 60) (.skip) (.exit 6)) (.seq (.block 7 (.seq (.region law3_apart_r17) (.seq (.region law3_apart_r18) (.region law3_apart_r19)))) (.region law3_apart_r20)))) Q ρ h := _root_.id rfl
def law3_apart_l4 : Cd := .seq (.region law3_apart_r25) (.seq (.cond (.tmp 92) (.skip) (.exit 10)) (.seq (.block 11 (.seq (.region law3_apart_r26) (.seq (.region law3_apart_r27) (.cond (.tmp 103) (.seq (.region law3_apart_r28) (.ret)) (.skip))))) (.region law3_apart_r29)))
theorem law3_apart_l4_go {Q : Ex → Env → Heap → Prop} {ρ : Env} {h : Heap} : Cd.vc Try.prog law3_apart_l4 Q ρ h = Cd.vc Try.prog (.seq (.region law3_apart_r25) (.seq (.cond (.tmp 92) (.skip) (.exit 10)) (.seq (.block 11 (.seq (.region law3_apart_r26) (.seq (.region law3_apart_r27) (.cond (.tmp 103) (.seq (.region law3_apart_r28) (.ret)) (.skip))))) (.region law3_apart_r29)))) Q ρ h := _root_.id rfl
def law3_apart_l5 : Cd := .seq (.region law3_apart_r31) (.seq (.cond (.tmp 109) (.skip) (.exit 12)) (.seq (.block 13 (.seq (.region law3_apart_r32) (.seq (.region law3_apart_r33) (.cond (.tmp 120) (.seq (.region law3_apart_r34) (.ret)) (.skip))))) (.region law3_apart_r35)))
theorem law3_apart_l5_go {Q : Ex → Env → Heap → Prop} {ρ : Env} {h : Heap} : Cd.vc Try.prog law3_apart_l5 Q ρ h = Cd.vc Try.prog (.seq (.region law3_apart_r31) (.seq (.cond (.tmp 109) (.skip) (.exit 12)) (.seq (.block 13 (.seq (.region law3_apart_r32) (.seq (.region law3_apart_r33) (.cond (.tmp 120) (.seq (.region law3_apart_r34) (.ret)) (.skip))))) (.region law3_apart_r35)))) Q ρ h := _root_.id rfl
def law3_apart_l6 : Cd := .seq (.region law3_apart_r22) (.seq (.cond (.tmp 84) (.skip) (.exit 8)) (.seq (.block 9 (.seq (.region law3_apart_r23) (.seq (.seq (.region law3_apart_r24) (.block 10 (.loop law3_apart_l4))) (.seq (.region law3_apart_r30) (.block 12 (.loop law3_apart_l5)))))) (.region law3_apart_r36)))
theorem law3_apart_l6_go {Q : Ex → Env → Heap → Prop} {ρ : Env} {h : Heap} : Cd.vc Try.prog law3_apart_l6 Q ρ h = Cd.vc Try.prog (.seq (.region law3_apart_r22) (.seq (.cond (.tmp 84) (.skip) (.exit 8)) (.seq (.block 9 (.seq (.region law3_apart_r23) (.seq (.seq (.region law3_apart_r24) (.block 10 (.loop law3_apart_l4))) (.seq (.region law3_apart_r30) (.block 12 (.loop law3_apart_l5)))))) (.region law3_apart_r36)))) Q ρ h := _root_.id rfl
def law3_apart : Cd := .seq (.region law3_apart_r0) (.seq (.seq (.region law3_apart_r1) (.block 0 (.loop law3_apart_l2))) (.seq (.seq (.region law3_apart_r15) (.block 6 (.loop law3_apart_l3))) (.seq (.seq (.region law3_apart_r21) (.block 8 (.loop law3_apart_l6))) (.seq (.region law3_apart_r37) (.ret)))))
theorem law3_apart_go {Q : Ex → Env → Heap → Prop} {ρ : Env} {h : Heap} : Cd.vc Try.prog law3_apart Q ρ h = Cd.vc Try.prog (.seq (.region law3_apart_r0) (.seq (.seq (.region law3_apart_r1) (.block 0 (.loop law3_apart_l2))) (.seq (.seq (.region law3_apart_r15) (.block 6 (.loop law3_apart_l3))) (.seq (.seq (.region law3_apart_r21) (.block 8 (.loop law3_apart_l6))) (.seq (.region law3_apart_r37) (.ret)))))) Q ρ h := _root_.id rfl
theorem law3_apart_calls {args : List Value} {h : Heap} {R : Value → Heap → Prop} (hl : args.length = 1) (hv : Cd.vc Try.prog law3_apart (retQ Try.prog [(2, none)] R) (initEnv args [0, 2, 3, 4, 5, 6, 7, 8, 10, 12, 14, 15, 16, 23, 24, 25, 42, 43, 44, 58, 59, 60, 81, 82, 83, 84, 89, 90, 91, 92, 103, 106, 107, 108, 109, 120]) h) : HCalls Try.prog 12 args.toArray h R :=
  hcalls_of_vc (by kernel_rfl) Try.func12 (cd := law3_apart) (L := [0, 2, 3, 4, 5, 6, 7, 8, 10, 12, 14, 15, 16, 23, 24, 25, 42, 43, 44, 58, 59, 60, 81, 82, 83, 84, 89, 90, 91, 92, 103, 106, 107, 108, 109, 120]) (by kernel_rfl) (by kernel_rfl) ⟨by rw [hl, Try.ntmps12]; decide, by rw [Try.ntmps12]; decide⟩ hv
def law3_apart_gos := And.intro @law3_apart_go (And.intro @law3_apart_r0_go (And.intro @law3_apart_r1_go (And.intro @law3_apart_r2_go (And.intro @law3_apart_r3_go (And.intro @law3_apart_r4_go (And.intro @law3_apart_r5_go (And.intro @law3_apart_r6_go (And.intro @law3_apart_r7_go (And.intro @law3_apart_r8_go (And.intro @law3_apart_r9_go (And.intro @law3_apart_r10_go (And.intro @law3_apart_r11_go (And.intro @law3_apart_r12_go (And.intro @law3_apart_r13_go (And.intro @law3_apart_r14_go (And.intro @law3_apart_r15_go (And.intro @law3_apart_r16_go (And.intro @law3_apart_r17_go (And.intro @law3_apart_r18_go (And.intro @law3_apart_r19_go (And.intro @law3_apart_r20_go (And.intro @law3_apart_r21_go (And.intro @law3_apart_r22_go (And.intro @law3_apart_r23_go (And.intro @law3_apart_r24_go (And.intro @law3_apart_r25_go (And.intro @law3_apart_r26_go (And.intro @law3_apart_r27_go (And.intro @law3_apart_r28_go (And.intro @law3_apart_r29_go (And.intro @law3_apart_r30_go (And.intro @law3_apart_r31_go (And.intro @law3_apart_r32_go (And.intro @law3_apart_r33_go (And.intro @law3_apart_r34_go (And.intro @law3_apart_r35_go (And.intro @law3_apart_r36_go (And.intro @law3_apart_r37_go (And.intro @law3_apart_l0_go (And.intro @law3_apart_l1_go (And.intro @law3_apart_l2_go (And.intro @law3_apart_l3_go (And.intro @law3_apart_l4_go (And.intro @law3_apart_l5_go (@law3_apart_l6_go)))))))))))))))))))))))))))))))))))))))))))))

end Go.Proofs.Ytohkbpnblkkdgaa.C
