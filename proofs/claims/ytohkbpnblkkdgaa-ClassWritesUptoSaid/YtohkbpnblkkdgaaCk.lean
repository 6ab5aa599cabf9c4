/- The stripped code of some functions of this seat's program, printed by a program; that it is that code is proved by the kernel. No condition. -/

import Derived.Test.YtohkbpnblkkdgaaProg

import Derived.Test.YtohkbpnblkkdgaaVcH

set_option maxRecDepth 100000

set_option linter.defProp false

namespace Go.Proofs.Ytohkbpnblkkdgaa.C

open Go.Vc

/-! jvmcore/jvmcorelaw3.ClassWrites: function 5: slots [0, 1, 2, 3, 4, 5, 6, 7, 10] -/
def law3_ClassWrites_r0 : List Sop := [
  ⟨some (1, true), .box 43 (.tmp 0), 0, none, false⟩,
  ⟨some (2, true), .assign (.const (.bool false)), 4, none, true⟩]
theorem law3_ClassWrites_r0_go {K : Env → Heap → Prop} {τ ρ : Env} {h : Heap} : vcOps Try.prog K law3_ClassWrites_r0 τ ρ h = vcOps Try.prog K [
  ⟨some (1, true), .box 43 (.tmp 0), 0, none, false⟩,
  ⟨some (2, true), .assign (.const (.bool false)), 4, none, true⟩] τ ρ h := _root_.id rfl
def law3_ClassWrites_r1 : List Sop := [
  ⟨some (8, false), .load 43 (.tmp 1), 43, none, true⟩,
  ⟨some (9, false), .call { callee := .value (.func 14), args := #[.tmp 8], argTypes := #[43] }, 3, none, false⟩,
  ⟨some (10, true), .binOp .gtr 3 (.tmp 9) (.const (.int .i64 32768)) 3, 4, none, true⟩]
theorem law3_ClassWrites_r1_go {K : Env → Heap → Prop} {τ ρ : Env} {h : Heap} : vcOps Try.prog K law3_ClassWrites_r1 τ ρ h = vcOps Try.prog K [
  ⟨some (8, false), .load 43 (.tmp 1), 43, none, true⟩,
  ⟨some (9, false), .call { callee := .value (.func 14), args := #[.tmp 8], argTypes := #[43] }, 3, none, false⟩,
  ⟨some (10, true), .binOp .gtr 3 (.tmp 9) (.const (.int .i64 32768)) 3, 4, none, true⟩] τ ρ h := _root_.id rfl
def law3_ClassWrites_r2 : List Sop := [
  ⟨some (2, true), .assign (.const (.bool true)), 4, none, true⟩]
theorem law3_ClassWrites_r2_go {K : Env → Heap → Prop} {τ ρ : Env} {h : Heap} : vcOps Try.prog K law3_ClassWrites_r2 τ ρ h = vcOps Try.prog K [
  ⟨some (2, true), .assign (.const (.bool true)), 4, none, true⟩] τ ρ h := _root_.id rfl
def law3_ClassWrites_r3 : List Sop := [
  ⟨some (11, false), .load 43 (.tmp 1), 43, none, true⟩,
  ⟨some (12, false), .call { callee := .value (.func 15), args := #[.tmp 11], argTypes := #[43] }, 43, none, false⟩,
  ⟨some (3, true), .alloc 43, 0, none, false⟩,
  ⟨none, .store 43 (.tmp 3) (.tmp 12), 0, none, false⟩]
theorem law3_ClassWrites_r3_go {K : Env → Heap → Prop} {τ ρ : Env} {h : Heap} : vcOps Try.prog K law3_ClassWrites_r3 τ ρ h = vcOps Try.prog K [
  ⟨some (11, false), .load 43 (.tmp 1), 43, none, true⟩,
  ⟨some (12, false), .call { callee := .value (.func 15), args := #[.tmp 11], argTypes := #[43] }, 43, none, false⟩,
  ⟨some (3, true), .alloc 43, 0, none, false⟩,
  ⟨none, .store 43 (.tmp 3) (.tmp 12), 0, none, false⟩] τ ρ h := _root_.id rfl
def law3_ClassWrites_r4 : List Sop := [
  ⟨some (14, false), .load 43 (.tmp 1), 43, none, true⟩,
  ⟨some (15, false), .call { callee := .value (.func 16), args := #[.tmp 14], argTypes := #[43] }, 46, none, false⟩,
  ⟨some (13, false), .move (.tmp 15), 46, none, true⟩,
  ⟨some (16, false), .extract (.tmp 13) 0, 9, none, true⟩,
  ⟨some (17, false), .extract (.tmp 13) 1, 27, none, true⟩,
  ⟨some (4, true), .assign (.tmp 16), 9, none, true⟩,
  ⟨some (5, true), .assign (.tmp 17), 27, none, true⟩]
theorem law3_ClassWrites_r4_go {K : Env → Heap → Prop} {τ ρ : Env} {h : Heap} : vcOps Try.prog K law3_ClassWrites_r4 τ ρ h = vcOps Try.prog K [
  ⟨some (14, false), .load 43 (.tmp 1), 43, none, true⟩,
  ⟨some (15, false), .call { callee := .value (.func 16), args := #[.tmp 14], argTypes := #[43] }, 46, none, false⟩,
  ⟨some (13, false), .move (.tmp 15), 46, none, true⟩,
  ⟨some (16, false), .extract (.tmp 13) 0, 9, none, true⟩,
  ⟨some (17, false), .extract (.tmp 13) 1, 27, none, true⟩,
  ⟨some (4, true), .assign (.tmp 16), 9, none, true⟩,
  ⟨some (5, true), .assign (.tmp 17), 27, none, true⟩] τ ρ h := _root_.id rfl
def law3_ClassWrites_r5 : List Sop := [
  ⟨some (19, false), .load 43 (.tmp 3), 43, none, true⟩,
  ⟨some (20, false), .call { callee := .value (.func 17), args := #[.tmp 19], argTypes := #[43] }, 46, none, false⟩,
  ⟨some (18, false), .move (.tmp 20), 46, none, true⟩,
  ⟨some (21, false), .extract (.tmp 18) 0, 9, none, true⟩,
  ⟨some (22, false), .extract (.tmp 18) 1, 27, none, true⟩,
  ⟨some (6, true), .assign (.tmp 21), 9, none, true⟩,
  ⟨some (7, true), .assign (.tmp 22), 27, none, true⟩]
theorem law3_ClassWrites_r5_go {K : Env → Heap → Prop} {τ ρ : Env} {h : Heap} : vcOps Try.prog K law3_ClassWrites_r5 τ ρ h = vcOps Try.prog K [
  ⟨some (19, false), .load 43 (.tmp 3), 43, none, true⟩,
  ⟨some (20, false), .call { callee := .value (.func 17), args := #[.tmp 19], argTypes := #[43] }, 46, none, false⟩,
  ⟨some (18, false), .move (.tmp 20), 46, none, true⟩,
  ⟨some (21, false), .extract (.tmp 18) 0, 9, none, true⟩,
  ⟨some (22, false), .extract (.tmp 18) 1, 27, none, true⟩,
  ⟨some (6, true), .assign (.tmp 21), 9, none, true⟩,
  ⟨some (7, true), .assign (.tmp 22), 27, none, true⟩] τ ρ h := _root_.id rfl
def law3_ClassWrites_r6 : List Sop := [
  ⟨some (23, false), .move (.tmp 4), 9, none, true⟩,
  ⟨some (24, false), .move (.tmp 6), 9, none, true⟩,
  ⟨some (25, false), .binOp .eql 9 (.tmp 23) (.tmp 24) 9, 4, none, true⟩,
  ⟨some (26, false), .move (.tmp 25), 4, none, true⟩,
  ⟨some (27, false), .move (.tmp 5), 27, some (26, true), true⟩,
  ⟨some (28, false), .move (.tmp 7), 27, some (26, true), true⟩,
  ⟨some (29, false), .binOp .eql 27 (.tmp 27) (.tmp 28) 27, 4, some (26, true), true⟩,
  ⟨some (30, false), .pick (.tmp 26) (.tmp 29) (.const (.bool false)), 4, none, true⟩,
  ⟨some (31, false), .move (.tmp 30), 4, none, true⟩,
  ⟨some (32, false), .load 43 (.tmp 1), 43, some (31, true), true⟩,
  ⟨some (33, false), .load 43 (.tmp 3), 43, some (31, true), true⟩,
  ⟨some (34, false), .call { callee := .value (.func 18), args := #[.tmp 32, .tmp 33], argTypes := #[43, 43] }, 4, some (31, true), false⟩,
  ⟨some (35, false), .pick (.tmp 31) (.tmp 34) (.const (.bool false)), 4, none, true⟩,
  ⟨some (2, true), .assign (.tmp 35), 4, none, true⟩]
theorem law3_ClassWrites_r6_go {K : Env → Heap → Prop} {τ ρ : Env} {h : Heap} : vcOps Try.prog K law3_ClassWrites_r6 τ ρ h = vcOps Try.prog K [
  ⟨some (23, false), .move (.tmp 4), 9, none, true⟩,
  ⟨some (24, false), .move (.tmp 6), 9, none, true⟩,
  ⟨some (25, false), .binOp .eql 9 (.tmp 23) (.tmp 24) 9, 4, none, true⟩,
  ⟨some (26, false), .move (.tmp 25), 4, none, true⟩,
  ⟨some (27, false), .move (.tmp 5), 27, some (26, true), true⟩,
  ⟨some (28, false), .move (.tmp 7), 27, some (26, true), true⟩,
  ⟨some (29, false), .binOp .eql 27 (.tmp 27) (.tmp 28) 27, 4, some (26, true), true⟩,
  ⟨some (30, false), .pick (.tmp 26) (.tmp 29) (.const (.bool false)), 4, none, true⟩,
  ⟨some (31, false), .move (.tmp 30), 4, none, true⟩,
  ⟨some (32, false), .load 43 (.tmp 1), 43, some (31, true), true⟩,
  ⟨some (33, false), .load 43 (.tmp 3), 43, some (31, true), true⟩,
  ⟨some (34, false), .call { callee := .value (.func 18), args := #[.tmp 32, .tmp 33], argTypes := #[43, 43] }, 4, some (31, true), false⟩,
  ⟨some (35, false), .pick (.tmp 31) (.tmp 34) (.const (.bool false)), 4, none, true⟩,
  ⟨some (2, true), .assign (.tmp 35), 4, none, true⟩] τ ρ h := _root_.id rfl
def law3_ClassWrites : Cd := .seq (.region law3_ClassWrites_r0) (.seq (.seq (.region law3_ClassWrites_r1) (.cond (.tmp 10) (.seq (.region law3_ClassWrites_r2) (.ret)) (.skip))) (.seq (.region law3_ClassWrites_r3) (.seq (.region law3_ClassWrites_r4) (.seq (.region law3_ClassWrites_r5) (.seq (.region law3_ClassWrites_r6) (.ret))))))
theorem law3_ClassWrites_go {Q : Ex → Env → Heap → Prop} {ρ : Env} {h : Heap} : Cd.vc Try.prog law3_ClassWrites Q ρ h = Cd.vc Try.prog (.seq (.region law3_ClassWrites_r0) (.seq (.seq (.region law3_ClassWrites_r1) (.cond (.tmp 10) (.seq (.region law3_ClassWrites_r2) (.ret)) (.skip))) (.seq (.region law3_ClassWrites_r3) (.seq (.region law3_ClassWrites_r4) (.seq (.region law3_ClassWrites_r5) (.seq (.region law3_ClassWrites_r6) (.ret))))))) Q ρ h := _root_.id rfl
theorem law3_ClassWrites_calls {args : List Value} {h : Heap} {R : Value → Heap → Prop} (hl : args.length = 1) (hv : Cd.vc Try.prog law3_ClassWrites (retQ Try.prog [(2, none)] R) (initEnv args [0, 1, 2, 3, 4, 5, 6, 7, 10]) h) : HCalls Try.prog 5 args.toArray h R :=
  hcalls_of_vc (by kernel_rfl) Try.func5 (cd := law3_ClassWrites) (L := [0, 1, 2, 3, 4, 5, 6, 7, 10]) (by kernel_rfl) (by kernel_rfl) ⟨by rw [hl, Try.ntmps5]; decide, by rw [Try.ntmps5]; decide⟩ hv
def law3_ClassWrites_gos := And.intro @law3_ClassWrites_go (And.intro @law3_ClassWrites_r0_go (And.intro @law3_ClassWrites_r1_go (And.intro @law3_ClassWrites_r2_go (And.intro @law3_ClassWrites_r3_go (And.intro @law3_ClassWrites_r4_go (And.intro @law3_ClassWrites_r5_go (@law3_ClassWrites_r6_go)))))))

/-! jvmcore/jvmcorelaw3.size: function 14: slots [0, 1, 2, 3, 5, 7, 24, 25, 26, 27, 37, 38, 39, 40] -/
def law3_size_r0 : List Sop := [
  ⟨some (1, true), .box 43 (.tmp 0), 0, none, false⟩,
  ⟨some (2, true), .assign (.const (.int .i64 0)), 3, none, true⟩]
theorem law3_size_r0_go {K : Env → Heap → Prop} {τ ρ : Env} {h : Heap} : vcOps Try.prog K law3_size_r0 τ ρ h = vcOps Try.prog K [
  ⟨some (1, true), .box 43 (.tmp 0), 0, none, false⟩,
  ⟨some (2, true), .assign (.const (.int .i64 0)), 3, none, true⟩] τ ρ h := _root_.id rfl
def law3_size_r1 : List Sop := [
  ⟨some (8, false), .fieldAddr 43 (.tmp 1) 5, 0, none, true⟩,
  ⟨some (9, false), .load 22 (.tmp 8), 22, none, true⟩,
  ⟨some (10, false), .call { callee := .builtin .len, args := #[.tmp 9], argTypes := #[22] }, 3, none, true⟩,
  ⟨some (11, false), .fieldAddr 43 (.tmp 1) 6, 0, none, true⟩,
  ⟨some (12, false), .load 39 (.tmp 11), 39, none, true⟩,
  ⟨some (13, false), .call { callee := .builtin .len, args := #[.tmp 12], argTypes := #[39] }, 3, none, true⟩,
  ⟨some (14, false), .binOp .add 3 (.tmp 10) (.tmp 13) 3, 3, none, true⟩,
  ⟨some (15, false), .fieldAddr 43 (.tmp 1) 7, 0, none, true⟩,
  ⟨some (16, false), .load 40 (.tmp 15), 40, none, true⟩,
  ⟨some (17, false), .call { callee := .builtin .len, args := #[.tmp 16], argTypes := #[40] }, 3, none, true⟩,
  ⟨some (18, false), .binOp .add 3 (.tmp 14) (.tmp 17) 3, 3, none, true⟩,
  ⟨some (19, false), .fieldAddr 43 (.tmp 1) 8, 0, none, true⟩,
  ⟨some (20, false), .load 41 (.tmp 19), 41, none, true⟩,
  ⟨some (21, false), .call { callee := .builtin .len, args := #[.tmp 20], argTypes := #[41] }, 3, none, true⟩,
  ⟨some (22, false), .binOp .add 3 (.tmp 18) (.tmp 21) 3, 3, none, true⟩,
  ⟨some (3, true), .assign (.tmp 22), 3, none, true⟩]
theorem law3_size_r1_go {K : Env → Heap → Prop} {τ ρ : Env} {h : Heap} : vcOps Try.prog K law3_size_r1 τ ρ h = vcOps Try.prog K [
  ⟨some (8, false), .fieldAddr 43 (.tmp 1) 5, 0, none, true⟩,
  ⟨some (9, false), .load 22 (.tmp 8), 22, none, true⟩,
  ⟨some (10, false), .call { callee := .builtin .len, args := #[.tmp 9], argTypes := #[22] }, 3, none, true⟩,
  ⟨some (11, false), .fieldAddr 43 (.tmp 1) 6, 0, none, true⟩,
  ⟨some (12, false), .load 39 (.tmp 11), 39, none, true⟩,
  ⟨some (13, false), .call { callee := .builtin .len, args := #[.tmp 12], argTypes := #[39] }, 3, none, true⟩,
  ⟨some (14, false), .binOp .add 3 (.tmp 10) (.tmp 13) 3, 3, none, true⟩,
  ⟨some (15, false), .fieldAddr 43 (.tmp 1) 7, 0, none, true⟩,
  ⟨some (16, false), .load 40 (.tmp 15), 40, none, true⟩,
  ⟨some (17, false), .call { callee := .builtin .len, args := #[.tmp 16], argTypes := #[40] }, 3, none, true⟩,
  ⟨some (18, false), .binOp .add 3 (.tmp 14) (.tmp 17) 3, 3, none, true⟩,
  ⟨some (19, false), .fieldAddr 43 (.tmp 1) 8, 0, none, true⟩,
  ⟨some (20, false), .load 41 (.tmp 19), 41, none, true⟩,
  ⟨some (21, false), .call { callee := .builtin .len, args := #[.tmp 20], argTypes := #[41] }, 3, none, true⟩,
  ⟨some (22, false), .binOp .add 3 (.tmp 18) (.tmp 21) 3, 3, none, true⟩,
  ⟨some (3, true), .assign (.tmp 22), 3, none, true⟩] τ ρ h := _root_.id rfl
def law3_size_r2 : List Sop := [
  ⟨some (23, false), .fieldAddr 43 (.tmp 1) 5, 0, none, true⟩,
  ⟨some (24, true), .load 22 (.tmp 23), 22, none, true⟩,
  ⟨some (25, true), .call { callee := .builtin .len, args := #[.tmp 24], argTypes := #[22] }, 3, none, true⟩,
  ⟨some (26, true), .move (.const (.int .i64 0)), 3, none, true⟩]
theorem law3_size_r2_go {K : Env → Heap → Prop} {τ ρ : Env} {h : Heap} : vcOps Try.prog K law3_size_r2 τ ρ h = vcOps Try.prog K [
  ⟨some (23, false), .fieldAddr 43 (.tmp 1) 5, 0, none, true⟩,
  ⟨some (24, true), .load 22 (.tmp 23), 22, none, true⟩,
  ⟨some (25, true), .call { callee := .builtin .len, args := #[.tmp 24], argTypes := #[22] }, 3, none, true⟩,
  ⟨some (26, true), .move (.const (.int .i64 0)), 3, none, true⟩] τ ρ h := _root_.id rfl
def law3_size_r3 : List Sop := [
  ⟨some (27, true), .binOp .lss 3 (.tmp 26) (.tmp 25) 3, 0, none, true⟩]
theorem law3_size_r3_go {K : Env → Heap → Prop} {τ ρ : Env} {h : Heap} : vcOps Try.prog K law3_size_r3 τ ρ h = vcOps Try.prog K [
  ⟨some (27, true), .binOp .lss 3 (.tmp 26) (.tmp 25) 3, 0, none, true⟩] τ ρ h := _root_.id rfl
def law3_size_r4 : List Sop := [
  ⟨some (28, false), .indexAddr 22 (.tmp 24) (.tmp 26), 0, none, true⟩,
  ⟨some (29, false), .load 76 (.tmp 28), 76, none, true⟩,
  ⟨some (5, true), .alloc 76, 0, none, false⟩,
  ⟨none, .store 76 (.tmp 5) (.tmp 29), 0, none, false⟩]
theorem law3_size_r4_go {K : Env → Heap → Prop} {τ ρ : Env} {h : Heap} : vcOps Try.prog K law3_size_r4 τ ρ h = vcOps Try.prog K [
  ⟨some (28, false), .indexAddr 22 (.tmp 24) (.tmp 26), 0, none, true⟩,
  ⟨some (29, false), .load 76 (.tmp 28), 76, none, true⟩,
  ⟨some (5, true), .alloc 76, 0, none, false⟩,
  ⟨none, .store 76 (.tmp 5) (.tmp 29), 0, none, false⟩] τ ρ h := _root_.id rfl
def law3_size_r5 : List Sop := [
  ⟨some (30, false), .move (.tmp 3), 3, none, true⟩,
  ⟨some (31, false), .fieldAddr 76 (.tmp 5) 1, 0, none, true⟩,
  ⟨some (32, false), .load 9 (.tmp 31), 9, none, true⟩,
  ⟨some (33, false), .call { callee := .builtin .len, args := #[.tmp 32], argTypes := #[9] }, 3, none, true⟩,
  ⟨some (34, false), .binOp .add 3 (.tmp 30) (.tmp 33) 3, 3, none, true⟩,
  ⟨some (3, true), .assign (.tmp 34), 3, none, true⟩]
theorem law3_size_r5_go {K : Env → Heap → Prop} {τ ρ : Env} {h : Heap} : vcOps Try.prog K law3_size_r5 τ ρ h = vcOps Try.prog K [
  ⟨some (30, false), .move (.tmp 3), 3, none, true⟩,
  ⟨some (31, false), .fieldAddr 76 (.tmp 5) 1, 0, none, true⟩,
  ⟨some (32, false), .load 9 (.tmp 31), 9, none, true⟩,
  ⟨some (33, false), .call { callee := .builtin .len, args := #[.tmp 32], argTypes := #[9] }, 3, none, true⟩,
  ⟨some (34, false), .binOp .add 3 (.tmp 30) (.tmp 33) 3, 3, none, true⟩,
  ⟨some (3, true), .assign (.tmp 34), 3, none, true⟩] τ ρ h := _root_.id rfl
def law3_size_r6 : List Sop := [
  ⟨some (35, false), .binOp .add 3 (.tmp 26) (.const (.int .i64 1)) 3, 3, none, true⟩,
  ⟨some (26, true), .move (.tmp 35), 3, none, true⟩]
theorem law3_size_r6_go {K : Env → Heap → Prop} {τ ρ : Env} {h : Heap} : vcOps Try.prog K law3_size_r6 τ ρ h = vcOps Try.prog K [
  ⟨some (35, false), .binOp .add 3 (.tmp 26) (.const (.int .i64 1)) 3, 3, none, true⟩,
  ⟨some (26, true), .move (.tmp 35), 3, none, true⟩] τ ρ h := _root_.id rfl
def law3_size_r7 : List Sop := [
  ⟨some (36, false), .fieldAddr 43 (.tmp 1) 8, 0, none, true⟩,
  ⟨some (37, true), .load 41 (.tmp 36), 41, none, true⟩,
  ⟨some (38, true), .call { callee := .builtin .len, args := #[.tmp 37], argTypes := #[41] }, 3, none, true⟩,
  ⟨some (39, true), .move (.const (.int .i64 0)), 3, none, true⟩]
theorem law3_size_r7_go {K : Env → Heap → Prop} {τ ρ : Env} {h : Heap} : vcOps Try.prog K law3_size_r7 τ ρ h = vcOps Try.prog K [
  ⟨some (36, false), .fieldAddr 43 (.tmp 1) 8, 0, none, true⟩,
  ⟨some (37, true), .load 41 (.tmp 36), 41, none, true⟩,
  ⟨some (38, true), .call { callee := .builtin .len, args := #[.tmp 37], argTypes := #[41] }, 3, none, true⟩,
  ⟨some (39, true), .move (.const (.int .i64 0)), 3, none, true⟩] τ ρ h := _root_.id rfl
def law3_size_r8 : List Sop := [
  ⟨some (40, true), .binOp .lss 3 (.tmp 39) (.tmp 38) 3, 0, none, true⟩]
theorem law3_size_r8_go {K : Env → Heap → Prop} {τ ρ : Env} {h : Heap} : vcOps Try.prog K law3_size_r8 τ ρ h = vcOps Try.prog K [
  ⟨some (40, true), .binOp .lss 3 (.tmp 39) (.tmp 38) 3, 0, none, true⟩] τ ρ h := _root_.id rfl
def law3_size_r9 : List Sop := [
  ⟨some (41, false), .indexAddr 41 (.tmp 37) (.tmp 39), 0, none, true⟩,
  ⟨some (42, false), .load 81 (.tmp 41), 81, none, true⟩,
  ⟨some (7, true), .alloc 81, 0, none, false⟩,
  ⟨none, .store 81 (.tmp 7) (.tmp 42), 0, none, false⟩]
theorem law3_size_r9_go {K : Env → Heap → Prop} {τ ρ : Env} {h : Heap} : vcOps Try.prog K law3_size_r9 τ ρ h = vcOps Try.prog K [
  ⟨some (41, false), .indexAddr 41 (.tmp 37) (.tmp 39), 0, none, true⟩,
  ⟨some (42, false), .load 81 (.tmp 41), 81, none, true⟩,
  ⟨some (7, true), .alloc 81, 0, none, false⟩,
  ⟨none, .store 81 (.tmp 7) (.tmp 42), 0, none, false⟩] τ ρ h := _root_.id rfl
def law3_size_r10 : List Sop := [
  ⟨some (43, false), .move (.tmp 3), 3, none, true⟩,
  ⟨some (44, false), .fieldAddr 81 (.tmp 7) 4, 0, none, true⟩,
  ⟨some (45, false), .fieldAddr 79 (.tmp 44) 2, 0, none, true⟩,
  ⟨some (46, false), .load 9 (.tmp 45), 9, none, true⟩,
  ⟨some (47, false), .call { callee := .builtin .len, args := #[.tmp 46], argTypes := #[9] }, 3, none, true⟩,
  ⟨some (48, false), .fieldAddr 81 (.tmp 7) 4, 0, none, true⟩,
  ⟨some (49, false), .fieldAddr 79 (.tmp 48) 4, 0, none, true⟩,
  ⟨some (50, false), .load 9 (.tmp 49), 9, none, true⟩,
  ⟨some (51, false), .call { callee := .builtin .len, args := #[.tmp 50], argTypes := #[9] }, 3, none, true⟩,
  ⟨some (52, false), .binOp .add 3 (.tmp 47) (.tmp 51) 3, 3, none, true⟩,
  ⟨some (53, false), .fieldAddr 81 (.tmp 7) 4, 0, none, true⟩,
  ⟨some (54, false), .fieldAddr 79 (.tmp 53) 3, 0, none, true⟩,
  ⟨some (55, false), .load 77 (.tmp 54), 77, none, true⟩,
  ⟨some (56, false), .call { callee := .builtin .len, args := #[.tmp 55], argTypes := #[77] }, 3, none, true⟩,
  ⟨some (57, false), .binOp .add 3 (.tmp 52) (.tmp 56) 3, 3, none, true⟩,
  ⟨some (58, false), .binOp .add 3 (.tmp 43) (.tmp 57) 3, 3, none, true⟩,
  ⟨some (3, true), .assign (.tmp 58), 3, none, true⟩]
theorem law3_size_r10_go {K : Env → Heap → Prop} {τ ρ : Env} {h : Heap} : vcOps Try.prog K law3_size_r10 τ ρ h = vcOps Try.prog K [
  ⟨some (43, false), .move (.tmp 3), 3, none, true⟩,
  ⟨some (44, false), .fieldAddr 81 (.tmp 7) 4, 0, none, true⟩,
  ⟨some (45, false), .fieldAddr 79 (.tmp 44) 2, 0, none, true⟩,
  ⟨some (46, false), .load 9 (.tmp 45), 9, none, true⟩,
  ⟨some (47, false), .call { callee := .builtin .len, args := #[.tmp 46], argTypes := #[9] }, 3, none, true⟩,
  ⟨some (48, false), .fieldAddr 81 (.tmp 7) 4, 0, none, true⟩,
  ⟨some (49, false), .fieldAddr 79 (.tmp 48) 4, 0, none, true⟩,
  ⟨some (50, false), .load 9 (.tmp 49), 9, none, true⟩,
  ⟨some (51, false), .call { callee := .builtin .len, args := #[.tmp 50], argTypes := #[9] }, 3, none, true⟩,
  ⟨some (52, false), .binOp .add 3 (.tmp 47) (.tmp 51) 3, 3, none, true⟩,
  ⟨some (53, false), .fieldAddr 81 (.tmp 7) 4, 0, none, true⟩,
  ⟨some (54, false), .fieldAddr 79 (.tmp 53) 3, 0, none, true⟩,
  ⟨some (55, false), .load 77 (.tmp 54), 77, none, true⟩,
  ⟨some (56, false), .call { callee := .builtin .len, args := #[.tmp 55], argTypes := #[77] }, 3, none, true⟩,
  ⟨some (57, false), .binOp .add 3 (.tmp 52) (.tmp 56) 3, 3, none, true⟩,
  ⟨some (58, false), .binOp .add 3 (.tmp 43) (.tmp 57) 3, 3, none, true⟩,
  ⟨some (3, true), .assign (.tmp 58), 3, none, true⟩] τ ρ h := _root_.id rfl
def law3_size_r11 : List Sop := [
  ⟨some (59, false), .binOp .add 3 (.tmp 39) (.const (.int .i64 1)) 3, 3, none, true⟩,
  ⟨some (39, true), .move (.tmp 59), 3, none, true⟩]
theorem law3_size_r11_go {K : Env → Heap → Prop} {τ ρ : Env} {h : Heap} : vcOps Try.prog K law3_size_r11 τ ρ h = vcOps Try.prog K [
  ⟨some (59, false), .binOp .add 3 (.tmp 39) (.const (.int .i64 1)) 3, 3, none, true⟩,
  ⟨some (39, true), .move (.tmp 59), 3, none, true⟩] τ ρ h := _root_.id rfl
def law3_size_r12 : List Sop := [
  ⟨some (60, false), .move (.tmp 3), 3, none, true⟩,
  ⟨some (2, true), .assign (.tmp 60), 3, none, true⟩]
theorem law3_size_r12_go {K : Env → Heap → Prop} {τ ρ : Env} {h : Heap} : vcOps Try.prog K law3_size_r12 τ ρ h = vcOps Try.prog K [
  ⟨some (60, false), .move (.tmp 3), 3, none, true⟩,
  ⟨some (2, true), .assign (.tmp 60), 3, none, true⟩] τ ρ h := _root_.id rfl
def law3_size_l0 : Cd := .seq (.region law3_size_r3) (.seq (.cond (.tmp 27) (.skip) (.exit 0)) (.seq (.block 1 (.seq (.region law3_size_r4) (.region law3_size_r5))) (.region law3_size_r6)))
theorem law3_size_l0_go {Q : Ex → Env → Heap → Prop} {ρ : Env} {h : Heap} : Cd.vc Try.prog law3_size_l0 Q ρ h = Cd.vc Try.prog (.seq (.region law3_size_r3) (.seq (.cond (.tmp 27) (.skip) (.exit 0)) (.seq (.block 1 (.seq (.region law3_size_r4) (.region law3_size_r5))) (.region law3_size_r6)))) Q ρ h := _root_.id rfl
def law3_size_l1 : Cd := .seq (.region law3_size_r8) (.seq (.cond (.tmp 40) (.skip) (.exit 2)) (.seq (.block 3 (.seq (.region law3_size_r9) (.region law3_size_r10))) (.region law3_size_r11)))
theorem law3_size_l1_go {Q : Ex → Env → Heap → Prop} {ρ : Env} {h : Heap} : Cd.vc Try.prog law3_size_l1 Q ρ h = Cd.vc Try.prog (.seq (.region law3_size_r8) (.seq (.cond (.tmp 40) (.skip) (.exit 2)) (.seq (.block 3 (.seq (.region law3_size_r9) (.region law3_size_r10))) (.region law3_size_r11)))) Q ρ h := _root_.id rfl
def law3_size : Cd := .seq (.region law3_size_r0) (.seq (.region law3_size_r1) (.seq (.seq (.region law3_size_r2) (.block 0 (.loop law3_size_l0))) (.seq (.seq (.region law3_size_r7) (.block 2 (.loop law3_size_l1))) (.seq (.region law3_size_r12) (.ret)))))
theorem law3_size_go {Q : Ex → Env → Heap → Prop} {ρ : Env} {h : Heap} : Cd.vc Try.prog law3_size Q ρ h = Cd.vc Try.prog (.seq (.region law3_size_r0) (.seq (.region law3_size_r1) (.seq (.seq (.region law3_size_r2) (.block 0 (.loop law3_size_l0))) (.seq (.seq (.region law3_size_r7) (.block 2 (.loop law3_size_l1))) (.seq (.region law3_size_r12) (.ret)))))) Q ρ h := _root_.id rfl
theorem law3_size_calls {args : List Value} {h : Heap} {R : Value → Heap → Prop} (hl : args.length = 1) (hv : Cd.vc Try.prog law3_size (retQ Try.prog [(2, none)] R) (initEnv args [0, 1, 2, 3, 5, 7, 24, 25, 26, 27, 37, 38, 39, 40]) h) : HCalls Try.prog 14 args.toArray h R :=
  hcalls_of_vc (by kernel_rfl) Try.func14 (cd := law3_size) (L := [0, 1, 2, 3, 5, 7, 24, 25, 26, 27, 37, 38, 39, 40]) (by kernel_rfl) (by kernel_rfl) ⟨by rw [hl, Try.ntmps14]; decide, by rw [Try.ntmps14]; decide⟩ hv
def law3_size_gos := And.intro @law3_size_go (And.intro @law3_size_r0_go (And.intro @law3_size_r1_go (And.intro @law3_size_r2_go (And.intro @law3_size_r3_go (And.intro @law3_size_r4_go (And.intro @law3_size_r5_go (And.intro @law3_size_r6_go (And.intro @law3_size_r7_go (And.intro @law3_size_r8_go (And.intro @law3_size_r9_go (And.intro @law3_size_r10_go (And.intro @law3_size_r11_go (And.intro @law3_size_r12_go (And.intro @law3_size_l0_go (@law3_size_l1_go)))))))))))))))

/-! jvmcore/jvmcorelaw3.another: function 15: slots [0, 1, 2, 3, 22, 23, 24] -/
def law3_another_r0 : List Sop := [
  ⟨some (1, true), .box 43 (.tmp 0), 0, none, false⟩,
  ⟨some (2, true), .alloc 43, 0, none, false⟩]
theorem law3_another_r0_go {K : Env → Heap → Prop} {τ ρ : Env} {h : Heap} : vcOps Try.prog K law3_another_r0 τ ρ h = vcOps Try.prog K [
  ⟨some (1, true), .box 43 (.tmp 0), 0, none, false⟩,
  ⟨some (2, true), .alloc 43, 0, none, false⟩] τ ρ h := _root_.id rfl
def law3_another_r1 : List Sop := [
  ⟨some (4, false), .fieldAddr 43 (.tmp 1) 5, 0, none, true⟩,
  ⟨some (5, false), .load 22 (.tmp 4), 22, none, true⟩,
  ⟨some (6, false), .call { callee := .builtin .append, args := #[.const (.slice none 0 0), .tmp 5], argTypes := #[22, 22] }, 22, none, false⟩,
  ⟨some (7, false), .fieldAddr 43 (.tmp 1) 5, 0, none, true⟩,
  ⟨none, .store 22 (.tmp 7) (.tmp 6), 0, none, false⟩]
theorem law3_another_r1_go {K : Env → Heap → Prop} {τ ρ : Env} {h : Heap} : vcOps Try.prog K law3_another_r1 τ ρ h = vcOps Try.prog K [
  ⟨some (4, false), .fieldAddr 43 (.tmp 1) 5, 0, none, true⟩,
  ⟨some (5, false), .load 22 (.tmp 4), 22, none, true⟩,
  ⟨some (6, false), .call { callee := .builtin .append, args := #[.const (.slice none 0 0), .tmp 5], argTypes := #[22, 22] }, 22, none, false⟩,
  ⟨some (7, false), .fieldAddr 43 (.tmp 1) 5, 0, none, true⟩,
  ⟨none, .store 22 (.tmp 7) (.tmp 6), 0, none, false⟩] τ ρ h := _root_.id rfl
def law3_another_r2 : List Sop := [
  ⟨some (8, false), .fieldAddr 43 (.tmp 1) 6, 0, none, true⟩,
  ⟨some (9, false), .load 39 (.tmp 8), 39, none, true⟩,
  ⟨some (10, false), .call { callee := .builtin .append, args := #[.const (.slice none 0 0), .tmp 9], argTypes := #[39, 39] }, 39, none, false⟩,
  ⟨some (11, false), .fieldAddr 43 (.tmp 1) 6, 0, none, true⟩,
  ⟨none, .store 39 (.tmp 11) (.tmp 10), 0, none, false⟩]
theorem law3_another_r2_go {K : Env → Heap → Prop} {τ ρ : Env} {h : Heap} : vcOps Try.prog K law3_another_r2 τ ρ h = vcOps Try.prog K [
  ⟨some (8, false), .fieldAddr 43 (.tmp 1) 6, 0, none, true⟩,
  ⟨some (9, false), .load 39 (.tmp 8), 39, none, true⟩,
  ⟨some (10, false), .call { callee := .builtin .append, args := #[.const (.slice none 0 0), .tmp 9], argTypes := #[39, 39] }, 39, none, false⟩,
  ⟨some (11, false), .fieldAddr 43 (.tmp 1) 6, 0, none, true⟩,
  ⟨none, .store 39 (.tmp 11) (.tmp 10), 0, none, false⟩] τ ρ h := _root_.id rfl
def law3_another_r3 : List Sop := [
  ⟨some (12, false), .fieldAddr 43 (.tmp 1) 7, 0, none, true⟩,
  ⟨some (13, false), .load 40 (.tmp 12), 40, none, true⟩,
  ⟨some (14, false), .call { callee := .builtin .append, args := #[.const (.slice none 0 0), .tmp 13], argTypes := #[40, 40] }, 40, none, false⟩,
  ⟨some (15, false), .fieldAddr 43 (.tmp 1) 7, 0, none, true⟩,
  ⟨none, .store 40 (.tmp 15) (.tmp 14), 0, none, false⟩]
theorem law3_another_r3_go {K : Env → Heap → Prop} {τ ρ : Env} {h : Heap} : vcOps Try.prog K law3_another_r3 τ ρ h = vcOps Try.prog K [
  ⟨some (12, false), .fieldAddr 43 (.tmp 1) 7, 0, none, true⟩,
  ⟨some (13, false), .load 40 (.tmp 12), 40, none, true⟩,
  ⟨some (14, false), .call { callee := .builtin .append, args := #[.const (.slice none 0 0), .tmp 13], argTypes := #[40, 40] }, 40, none, false⟩,
  ⟨some (15, false), .fieldAddr 43 (.tmp 1) 7, 0, none, true⟩,
  ⟨none, .store 40 (.tmp 15) (.tmp 14), 0, none, false⟩] τ ρ h := _root_.id rfl
def law3_another_r4 : List Sop := [
  ⟨some (16, false), .fieldAddr 43 (.tmp 1) 8, 0, none, true⟩,
  ⟨some (17, false), .load 41 (.tmp 16), 41, none, true⟩,
  ⟨some (18, false), .call { callee := .builtin .append, args := #[.const (.slice none 0 0), .tmp 17], argTypes := #[41, 41] }, 41, none, false⟩,
  ⟨some (19, false), .fieldAddr 43 (.tmp 1) 8, 0, none, true⟩,
  ⟨none, .store 41 (.tmp 19) (.tmp 18), 0, none, false⟩]
theorem law3_another_r4_go {K : Env → Heap → Prop} {τ ρ : Env} {h : Heap} : vcOps Try.prog K law3_another_r4 τ ρ h = vcOps Try.prog K [
  ⟨some (16, false), .fieldAddr 43 (.tmp 1) 8, 0, none, true⟩,
  ⟨some (17, false), .load 41 (.tmp 16), 41, none, true⟩,
  ⟨some (18, false), .call { callee := .builtin .append, args := #[.const (.slice none 0 0), .tmp 17], argTypes := #[41, 41] }, 41, none, false⟩,
  ⟨some (19, false), .fieldAddr 43 (.tmp 1) 8, 0, none, true⟩,
  ⟨none, .store 41 (.tmp 19) (.tmp 18), 0, none, false⟩] τ ρ h := _root_.id rfl
def law3_another_r5 : List Sop := [
  ⟨some (20, false), .fieldAddr 43 (.tmp 1) 8, 0, none, true⟩,
  ⟨some (21, false), .load 41 (.tmp 20), 41, none, true⟩,
  ⟨some (22, true), .call { callee := .builtin .len, args := #[.tmp 21], argTypes := #[41] }, 3, none, true⟩,
  ⟨some (23, true), .move (.const (.int .i64 0)), 3, none, true⟩]
theorem law3_another_r5_go {K : Env → Heap → Prop} {τ ρ : Env} {h : Heap} : vcOps Try.prog K law3_another_r5 τ ρ h = vcOps Try.prog K [
  ⟨some (20, false), .fieldAddr 43 (.tmp 1) 8, 0, none, true⟩,
  ⟨some (21, false), .load 41 (.tmp 20), 41, none, true⟩,
  ⟨some (22, true), .call { callee := .builtin .len, args := #[.tmp 21], argTypes := #[41] }, 3, none, true⟩,
  ⟨some (23, true), .move (.const (.int .i64 0)), 3, none, true⟩] τ ρ h := _root_.id rfl
def law3_another_r6 : List Sop := [
  ⟨some (24, true), .binOp .lss 3 (.tmp 23) (.tmp 22) 3, 0, none, true⟩]
theorem law3_another_r6_go {K : Env → Heap → Prop} {τ ρ : Env} {h : Heap} : vcOps Try.prog K law3_another_r6 τ ρ h = vcOps Try.prog K [
  ⟨some (24, true), .binOp .lss 3 (.tmp 23) (.tmp 22) 3, 0, none, true⟩] τ ρ h := _root_.id rfl
def law3_another_r7 : List Sop := [
  ⟨some (25, false), .move (.tmp 23), 3, none, true⟩,
  ⟨some (3, true), .assign (.tmp 25), 3, none, true⟩]
theorem law3_another_r7_go {K : Env → Heap → Prop} {τ ρ : Env} {h : Heap} : vcOps Try.prog K law3_another_r7 τ ρ h = vcOps Try.prog K [
  ⟨some (25, false), .move (.tmp 23), 3, none, true⟩,
  ⟨some (3, true), .assign (.tmp 25), 3, none, true⟩] τ ρ h := _root_.id rfl
def law3_another_r8 : List (Sop × List Sop) := [
  (⟨some (26, false), .fieldAddr 43 (.tmp 1) 8, 0, none, true⟩, []),
  (⟨some (27, false), .load 41 (.tmp 26), 41, none, true⟩, []),
  (⟨some (28, false), .move (.tmp 3), 3, none, true⟩, []),
  (⟨some (29, false), .fieldAddr 43 (.tmp 1) 8, 0, none, true⟩, []),
  (⟨some (30, false), .load 41 (.tmp 29), 41, none, true⟩, []),
  (⟨some (31, false), .move (.tmp 3), 3, none, true⟩, []),
  (⟨some (32, false), .indexAddr 41 (.tmp 30) (.tmp 31), 0, none, true⟩, []),
  (⟨some (33, false), .fieldAddr 81 (.tmp 32) 4, 0, none, true⟩, []),
  (⟨some (34, false), .fieldAddr 79 (.tmp 33) 3, 0, none, true⟩, []),
  (⟨some (35, false), .load 77 (.tmp 34), 77, none, true⟩, []),
  (⟨some (36, false), .call { callee := .builtin .append, args := #[.const (.slice none 0 0), .tmp 35], argTypes := #[77, 77] }, 77, none, false⟩, [⟨some (26, false), .fieldAddr 43 (.tmp 1) 8, 0, none, true⟩, ⟨some (27, false), .load 41 (.tmp 26), 41, none, true⟩]),
  (⟨some (37, false), .indexAddr 41 (.tmp 27) (.tmp 28), 0, none, true⟩, []),
  (⟨some (38, false), .fieldAddr 81 (.tmp 37) 4, 0, none, true⟩, []),
  (⟨some (39, false), .fieldAddr 79 (.tmp 38) 3, 0, none, true⟩, []),
  (⟨none, .store 77 (.tmp 39) (.tmp 36), 0, none, false⟩, [])]
theorem law3_another_r8_go {K : Env → Heap → Prop} {τ ρ : Env} {h : Heap} : vcDraw Try.prog K law3_another_r8 τ ρ h = vcDraw Try.prog K [
  (⟨some (26, false), .fieldAddr 43 (.tmp 1) 8, 0, none, true⟩, []),
  (⟨some (27, false), .load 41 (.tmp 26), 41, none, true⟩, []),
  (⟨some (28, false), .move (.tmp 3), 3, none, true⟩, []),
  (⟨some (29, false), .fieldAddr 43 (.tmp 1) 8, 0, none, true⟩, []),
  (⟨some (30, false), .load 41 (.tmp 29), 41, none, true⟩, []),
  (⟨some (31, false), .move (.tmp 3), 3, none, true⟩, []),
  (⟨some (32, false), .indexAddr 41 (.tmp 30) (.tmp 31), 0, none, true⟩, []),
  (⟨some (33, false), .fieldAddr 81 (.tmp 32) 4, 0, none, true⟩, []),
  (⟨some (34, false), .fieldAddr 79 (.tmp 33) 3, 0, none, true⟩, []),
  (⟨some (35, false), .load 77 (.tmp 34), 77, none, true⟩, []),
  (⟨some (36, false), .call { callee := .builtin .append, args := #[.const (.slice none 0 0), .tmp 35], argTypes := #[77, 77] }, 77, none, false⟩, [⟨some (26, false), .fieldAddr 43 (.tmp 1) 8, 0, none, true⟩, ⟨some (27, false), .load 41 (.tmp 26), 41, none, true⟩]),
  (⟨some (37, false), .indexAddr 41 (.tmp 27) (.tmp 28), 0, none, true⟩, []),
  (⟨some (38, false), .fieldAddr 81 (.tmp 37) 4, 0, none, true⟩, []),
  (⟨some (39, false), .fieldAddr 79 (.tmp 38) 3, 0, none, true⟩, []),
  (⟨none, .store 77 (.tmp 39) (.tmp 36), 0, none, false⟩, [])] τ ρ h := _root_.id rfl
def law3_another_r9 : List Sop := [
  ⟨some (40, false), .binOp .add 3 (.tmp 23) (.const (.int .i64 1)) 3, 3, none, true⟩,
  ⟨some (23, true), .move (.tmp 40), 3, none, true⟩]
theorem law3_another_r9_go {K : Env → Heap → Prop} {τ ρ : Env} {h : Heap} : vcOps Try.prog K law3_another_r9 τ ρ h = vcOps Try.prog K [
  ⟨some (40, false), .binOp .add 3 (.tmp 23) (.const (.int .i64 1)) 3, 3, none, true⟩,
  ⟨some (23, true), .move (.tmp 40), 3, none, true⟩] τ ρ h := _root_.id rfl
def law3_another_r10 : List Sop := [
  ⟨some (41, false), .load 43 (.tmp 1), 43, none, true⟩,
  ⟨none, .store 43 (.tmp 2) (.tmp 41), 0, none, false⟩]
theorem law3_another_r10_go {K : Env → Heap → Prop} {τ ρ : Env} {h : Heap} : vcOps Try.prog K law3_another_r10 τ ρ h = vcOps Try.prog K [
  ⟨some (41, false), .load 43 (.tmp 1), 43, none, true⟩,
  ⟨none, .store 43 (.tmp 2) (.tmp 41), 0, none, false⟩] τ ρ h := _root_.id rfl
def law3_another_l0 : Cd := .seq (.region law3_another_r6) (.seq (.cond (.tmp 24) (.skip) (.exit 0)) (.seq (.block 1 (.seq (.region law3_another_r7) (.draw law3_another_r8))) (.region law3_another_r9)))
theorem law3_another_l0_go {Q : Ex → Env → Heap → Prop} {ρ : Env} {h : Heap} : Cd.vc Try.prog law3_another_l0 Q ρ h = Cd.vc Try.prog (.seq (.region law3_another_r6) (.seq (.cond (.tmp 24) (.skip) (.exit 0)) (.seq (.block 1 (.seq (.region law3_another_r7) (.draw law3_another_r8))) (.region law3_another_r9)))) Q ρ h := _root_.id rfl
def law3_another : Cd := .seq (.region law3_another_r0) (.seq (.region law3_another_r1) (.seq (.region law3_another_r2) (.seq (.region law3_another_r3) (.seq (.region law3_another_r4) (.seq (.seq (.region law3_another_r5) (.block 0 (.loop law3_another_l0))) (.seq (.region law3_another_r10) (.ret)))))))
theorem law3_another_go {Q : Ex → Env → Heap → Prop} {ρ : Env} {h : Heap} : Cd.vc Try.prog law3_another Q ρ h = Cd.vc Try.prog (.seq (.region law3_another_r0) (.seq (.region law3_another_r1) (.seq (.region law3_another_r2) (.seq (.region law3_another_r3) (.seq (.region law3_another_r4) (.seq (.seq (.region law3_another_r5) (.block 0 (.loop law3_another_l0))) (.seq (.region law3_another_r10) (.ret)))))))) Q ρ h := _root_.id rfl
theorem law3_another_calls {args : List Value} {h : Heap} {R : Value → Heap → Prop} (hl : args.length = 1) (hv : Cd.vc Try.prog law3_another (retQ Try.prog [(2, some 43)] R) (initEnv args [0, 1, 2, 3, 22, 23, 24]) h) : HCalls Try.prog 15 args.toArray h R :=
  hcalls_of_vc (by kernel_rfl) Try.func15 (cd := law3_another) (L := [0, 1, 2, 3, 22, 23, 24]) (by kernel_rfl) (by kernel_rfl) ⟨by rw [hl, Try.ntmps15]; decide, by rw [Try.ntmps15]; decide⟩ hv
def law3_another_gos := And.intro @law3_another_go (And.intro @law3_another_r0_go (And.intro @law3_another_r1_go (And.intro @law3_another_r2_go (And.intro @law3_another_r3_go (And.intro @law3_another_r4_go (And.intro @law3_another_r5_go (And.intro @law3_another_r6_go (And.intro @law3_another_r7_go (And.intro @law3_another_r8_go (And.intro @law3_another_r9_go (And.intro @law3_another_r10_go (@law3_another_l0_go))))))))))))

end Go.Proofs.Ytohkbpnblkkdgaa.C
