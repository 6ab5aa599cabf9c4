/- The stripped code of some functions of this seat's program, printed by a program; that it is that code is proved by the kernel. No condition. -/

import Derived.Test.YtohkbpnblkkdgaaProg

import Derived.Test.YtohkbpnblkkdgaaVcH

set_option maxRecDepth 100000

set_option linter.defProp false

namespace Go.Proofs.Ytohkbpnblkkdgaa.C

open Go.Vc

/-! (*jvmcore/jvmcoreref3.writing).fail: function 45: slots [0, 1, 8] -/
def rw_fail_r0 : List Sop := [
  ⟨some (4, false), .move (.tmp 0), 92, none, true⟩,
  ⟨some (5, false), .nilCheck (.tmp 4), 0, none, true⟩,
  ⟨some (6, false), .fieldAddr 94 (.tmp 5) 1, 0, none, true⟩,
  ⟨some (7, false), .load 27 (.tmp 6), 27, none, true⟩,
  ⟨some (8, true), .binOp .eql 27 (.tmp 7) (.const (.int .i64 0)) 27, 4, none, true⟩]
theorem rw_fail_r0_go {K : Env → Heap → Prop} {τ ρ : Env} {h : Heap} : vcOps Try.prog K rw_fail_r0 τ ρ h = vcOps Try.prog K [
  ⟨some (4, false), .move (.tmp 0), 92, none, true⟩,
  ⟨some (5, false), .nilCheck (.tmp 4), 0, none, true⟩,
  ⟨some (6, false), .fieldAddr 94 (.tmp 5) 1, 0, none, true⟩,
  ⟨some (7, false), .load 27 (.tmp 6), 27, none, true⟩,
  ⟨some (8, true), .binOp .eql 27 (.tmp 7) (.const (.int .i64 0)) 27, 4, none, true⟩] τ ρ h := _root_.id rfl
def rw_fail_r1 : List Sop := [
  ⟨some (9, false), .move (.tmp 0), 92, none, true⟩,
  ⟨some (10, false), .move (.tmp 1), 27, none, true⟩,
  ⟨some (11, false), .nilCheck (.tmp 9), 0, none, true⟩,
  ⟨some (12, false), .fieldAddr 94 (.tmp 11) 1, 0, none, true⟩,
  ⟨none, .store 27 (.tmp 12) (.tmp 10), 0, none, false⟩]
theorem rw_fail_r1_go {K : Env → Heap → Prop} {τ ρ : Env} {h : Heap} : vcOps Try.prog K rw_fail_r1 τ ρ h = vcOps Try.prog K [
  ⟨some (9, false), .move (.tmp 0), 92, none, true⟩,
  ⟨some (10, false), .move (.tmp 1), 27, none, true⟩,
  ⟨some (11, false), .nilCheck (.tmp 9), 0, none, true⟩,
  ⟨some (12, false), .fieldAddr 94 (.tmp 11) 1, 0, none, true⟩,
  ⟨none, .store 27 (.tmp 12) (.tmp 10), 0, none, false⟩] τ ρ h := _root_.id rfl
def rw_fail : Cd := .seq (.region rw_fail_r0) (.cond (.tmp 8) (.region rw_fail_r1) (.skip))
theorem rw_fail_go {Q : Ex → Env → Heap → Prop} {ρ : Env} {h : Heap} : Cd.vc Try.prog rw_fail Q ρ h = Cd.vc Try.prog (.seq (.region rw_fail_r0) (.cond (.tmp 8) (.region rw_fail_r1) (.skip))) Q ρ h := _root_.id rfl
theorem rw_fail_calls {args : List Value} {h : Heap} {R : Value → Heap → Prop} (hl : args.length = 2) (hv : Cd.vc Try.prog rw_fail (retQ Try.prog [] R) (initEnv args [0, 1, 8]) h) : HCalls Try.prog 45 args.toArray h R :=
  hcalls_of_vc (by kernel_rfl) Try.func45 (cd := rw_fail) (L := [0, 1, 8]) (by kernel_rfl) (by kernel_rfl) ⟨by rw [hl, Try.ntmps45]; decide, by rw [Try.ntmps45]; decide⟩ hv
def rw_fail_gos := And.intro @rw_fail_go (And.intro @rw_fail_r0_go (@rw_fail_r1_go))

/-! (*jvmcore/jvmcoreref3.writing).num: function 47: slots [0, 1, 2, 6, 15] -/
def rw_num_r0 : List Sop := [
  ⟨some (6, true), .assign (.const (.string { data := #[] })), 9, none, true⟩]
theorem rw_num_r0_go {K : Env → Heap → Prop} {τ ρ : Env} {h : Heap} : vcOps Try.prog K rw_num_r0 τ ρ h = vcOps Try.prog K [
  ⟨some (6, true), .assign (.const (.string { data := #[] })), 9, none, true⟩] τ ρ h := _root_.id rfl
def rw_num_r1 : List Sop := [
  ⟨some (7, false), .move (.tmp 1), 3, none, true⟩,
  ⟨some (8, false), .binOp .lss 3 (.tmp 7) (.const (.int .i64 0)) 3, 4, none, true⟩,
  ⟨some (9, false), .move (.tmp 8), 4, none, true⟩,
  ⟨some (10, false), .move (.tmp 1), 3, some (9, false), true⟩,
  ⟨some (11, false), .move (.tmp 2), 3, some (9, false), true⟩,
  ⟨some (12, false), .binOp .mul 3 (.const (.int .i64 8)) (.tmp 11) 3, 3, some (9, false), true⟩,
  ⟨some (13, false), .binOp .shl 3 (.const (.int .i64 1)) (.tmp 12) 3, 3, some (9, false), true⟩,
  ⟨some (14, false), .binOp .geq 3 (.tmp 10) (.tmp 13) 3, 4, some (9, false), true⟩,
  ⟨some (15, true), .pick (.tmp 9) (.const (.bool true)) (.tmp 14), 4, none, true⟩]
theorem rw_num_r1_go {K : Env → Heap → Prop} {τ ρ : Env} {h : Heap} : vcOps Try.prog K rw_num_r1 τ ρ h = vcOps Try.prog K [
  ⟨some (7, false), .move (.tmp 1), 3, none, true⟩,
  ⟨some (8, false), .binOp .lss 3 (.tmp 7) (.const (.int .i64 0)) 3, 4, none, true⟩,
  ⟨some (9, false), .move (.tmp 8), 4, none, true⟩,
  ⟨some (10, false), .move (.tmp 1), 3, some (9, false), true⟩,
  ⟨some (11, false), .move (.tmp 2), 3, some (9, false), true⟩,
  ⟨some (12, false), .binOp .mul 3 (.const (.int .i64 8)) (.tmp 11) 3, 3, some (9, false), true⟩,
  ⟨some (13, false), .binOp .shl 3 (.const (.int .i64 1)) (.tmp 12) 3, 3, some (9, false), true⟩,
  ⟨some (14, false), .binOp .geq 3 (.tmp 10) (.tmp 13) 3, 4, some (9, false), true⟩,
  ⟨some (15, true), .pick (.tmp 9) (.const (.bool true)) (.tmp 14), 4, none, true⟩] τ ρ h := _root_.id rfl
def rw_num_r2 : List Sop := [
  ⟨some (16, false), .move (.tmp 0), 92, none, true⟩,
  ⟨some (17, false), .call { callee := .value (.func 45), args := #[.tmp 16, .const (.int .i64 12)], argTypes := #[92, 27] }, 0, none, false⟩]
theorem rw_num_r2_go {K : Env → Heap → Prop} {τ ρ : Env} {h : Heap} : vcOps Try.prog K rw_num_r2 τ ρ h = vcOps Try.prog K [
  ⟨some (16, false), .move (.tmp 0), 92, none, true⟩,
  ⟨some (17, false), .call { callee := .value (.func 45), args := #[.tmp 16, .const (.int .i64 12)], argTypes := #[92, 27] }, 0, none, false⟩] τ ρ h := _root_.id rfl
def rw_num_r3 : List Sop := [
  ⟨some (18, false), .move (.tmp 1), 3, none, true⟩,
  ⟨some (19, false), .convert 3 74 (.tmp 18), 74, none, true⟩,
  ⟨some (20, false), .move (.tmp 2), 3, none, true⟩,
  ⟨some (21, false), .call { callee := .value (.func 75), args := #[.tmp 19, .tmp 20], argTypes := #[74, 3] }, 9, none, false⟩,
  ⟨some (6, true), .assign (.tmp 21), 9, none, true⟩]
theorem rw_num_r3_go {K : Env → Heap → Prop} {τ ρ : Env} {h : Heap} : vcOps Try.prog K rw_num_r3 τ ρ h = vcOps Try.prog K [
  ⟨some (18, false), .move (.tmp 1), 3, none, true⟩,
  ⟨some (19, false), .convert 3 74 (.tmp 18), 74, none, true⟩,
  ⟨some (20, false), .move (.tmp 2), 3, none, true⟩,
  ⟨some (21, false), .call { callee := .value (.func 75), args := #[.tmp 19, .tmp 20], argTypes := #[74, 3] }, 9, none, false⟩,
  ⟨some (6, true), .assign (.tmp 21), 9, none, true⟩] τ ρ h := _root_.id rfl
def rw_num : Cd := .seq (.region rw_num_r0) (.seq (.seq (.region rw_num_r1) (.cond (.tmp 15) (.region rw_num_r2) (.skip))) (.seq (.region rw_num_r3) (.ret)))
theorem rw_num_go {Q : Ex → Env → Heap → Prop} {ρ : Env} {h : Heap} : Cd.vc Try.prog rw_num Q ρ h = Cd.vc Try.prog (.seq (.region rw_num_r0) (.seq (.seq (.region rw_num_r1) (.cond (.tmp 15) (.region rw_num_r2) (.skip))) (.seq (.region rw_num_r3) (.ret)))) Q ρ h := _root_.id rfl
theorem rw_num_calls {args : List Value} {h : Heap} {R : Value → Heap → Prop} (hl : args.length = 3) (hv : Cd.vc Try.prog rw_num (retQ Try.prog [(6, none)] R) (initEnv args [0, 1, 2, 6, 15]) h) : HCalls Try.prog 47 args.toArray h R :=
  hcalls_of_vc (by kernel_rfl) Try.func47 (cd := rw_num) (L := [0, 1, 2, 6, 15]) (by kernel_rfl) (by kernel_rfl) ⟨by rw [hl, Try.ntmps47]; decide, by rw [Try.ntmps47]; decide⟩ hv
def rw_num_gos := And.intro @rw_num_go (And.intro @rw_num_r0_go (And.intro @rw_num_r1_go (And.intro @rw_num_r2_go (@rw_num_r3_go))))

/-! (*jvmcore/jvmcoreref3.writing).attribute: function 48: slots [0, 1, 2, 6, 7, 15, 40] -/
def rw_attribute_r0 : List Sop := [
  ⟨some (6, true), .assign (.const (.string { data := #[] })), 9, none, true⟩]
theorem rw_attribute_r0_go {K : Env → Heap → Prop} {τ ρ : Env} {h : Heap} : vcOps Try.prog K rw_attribute_r0 τ ρ h = vcOps Try.prog K [
  ⟨some (6, true), .assign (.const (.string { data := #[] })), 9, none, true⟩] τ ρ h := _root_.id rfl
def rw_attribute_r1 : List Sop := [
  ⟨some (7, true), .assign (.const (.int .i64 1)), 3, none, true⟩]
theorem rw_attribute_r1_go {K : Env → Heap → Prop} {τ ρ : Env} {h : Heap} : vcOps Try.prog K rw_attribute_r1 τ ρ h = vcOps Try.prog K [
  ⟨some (7, true), .assign (.const (.int .i64 1)), 3, none, true⟩] τ ρ h := _root_.id rfl
def rw_attribute_r2 : List Sop := [
  ⟨some (8, false), .move (.tmp 7), 3, none, true⟩,
  ⟨some (9, false), .move (.tmp 0), 92, none, true⟩,
  ⟨some (10, false), .nilCheck (.tmp 9), 0, none, true⟩,
  ⟨some (11, false), .fieldAddr 94 (.tmp 10) 0, 0, none, true⟩,
  ⟨some (12, false), .fieldAddr 43 (.tmp 11) 5, 0, none, true⟩,
  ⟨some (13, false), .load 22 (.tmp 12), 22, none, true⟩,
  ⟨some (14, false), .call { callee := .builtin .len, args := #[.tmp 13], argTypes := #[22] }, 3, none, true⟩,
  ⟨some (15, true), .binOp .lss 3 (.tmp 8) (.tmp 14) 3, 4, none, true⟩]
theorem rw_attribute_r2_go {K : Env → Heap → Prop} {τ ρ : Env} {h : Heap} : vcOps Try.prog K rw_attribute_r2 τ ρ h = vcOps Try.prog K [
  ⟨some (8, false), .move (.tmp 7), 3, none, true⟩,
  ⟨some (9, false), .move (.tmp 0), 92, none, true⟩,
  ⟨some (10, false), .nilCheck (.tmp 9), 0, none, true⟩,
  ⟨some (11, false), .fieldAddr 94 (.tmp 10) 0, 0, none, true⟩,
  ⟨some (12, false), .fieldAddr 43 (.tmp 11) 5, 0, none, true⟩,
  ⟨some (13, false), .load 22 (.tmp 12), 22, none, true⟩,
  ⟨some (14, false), .call { callee := .builtin .len, args := #[.tmp 13], argTypes := #[22] }, 3, none, true⟩,
  ⟨some (15, true), .binOp .lss 3 (.tmp 8) (.tmp 14) 3, 4, none, true⟩] τ ρ h := _root_.id rfl
def rw_attribute_r3 : List Sop := [
  ⟨some (18, false), .move (.tmp 0), 92, none, true⟩,
  ⟨some (19, false), .nilCheck (.tmp 18), 0, none, true⟩,
  ⟨some (20, false), .fieldAddr 94 (.tmp 19) 0, 0, none, true⟩,
  ⟨some (21, false), .fieldAddr 43 (.tmp 20) 5, 0, none, true⟩,
  ⟨some (22, false), .load 22 (.tmp 21), 22, none, true⟩,
  ⟨some (23, false), .move (.tmp 7), 3, none, true⟩,
  ⟨some (24, false), .indexAddr 22 (.tmp 22) (.tmp 23), 0, none, true⟩,
  ⟨some (25, false), .fieldAddr 76 (.tmp 24) 0, 0, none, true⟩,
  ⟨some (26, false), .load 5 (.tmp 25), 5, none, true⟩,
  ⟨some (27, false), .binOp .eql 5 (.tmp 26) (.const (.int .u8 1)) 5, 4, none, true⟩,
  ⟨some (28, false), .move (.tmp 27), 4, none, true⟩,
  ⟨some (29, false), .move (.tmp 0), 92, some (28, true), true⟩,
  ⟨some (30, false), .nilCheck (.tmp 29), 0, some (28, true), true⟩,
  ⟨some (31, false), .fieldAddr 94 (.tmp 30) 0, 0, some (28, true), true⟩,
  ⟨some (32, false), .fieldAddr 43 (.tmp 31) 5, 0, some (28, true), true⟩,
  ⟨some (33, false), .load 22 (.tmp 32), 22, some (28, true), true⟩,
  ⟨some (34, false), .move (.tmp 7), 3, some (28, true), true⟩,
  ⟨some (35, false), .indexAddr 22 (.tmp 33) (.tmp 34), 0, some (28, true), true⟩,
  ⟨some (36, false), .fieldAddr 76 (.tmp 35) 1, 0, some (28, true), true⟩,
  ⟨some (37, false), .load 9 (.tmp 36), 9, some (28, true), true⟩,
  ⟨some (38, false), .move (.tmp 1), 9, some (28, true), true⟩,
  ⟨some (39, false), .binOp .eql 9 (.tmp 37) (.tmp 38) 9, 4, some (28, true), true⟩,
  ⟨some (40, true), .pick (.tmp 28) (.tmp 39) (.const (.bool false)), 4, none, true⟩]
theorem rw_attribute_r3_go {K : Env → Heap → Prop} {τ ρ : Env} {h : Heap} : vcOps Try.prog K rw_attribute_r3 τ ρ h = vcOps Try.prog K [
  ⟨some (18, false), .move (.tmp 0), 92, none, true⟩,
  ⟨some (19, false), .nilCheck (.tmp 18), 0, none, true⟩,
  ⟨some (20, false), .fieldAddr 94 (.tmp 19) 0, 0, none, true⟩,
  ⟨some (21, false), .fieldAddr 43 (.tmp 20) 5, 0, none, true⟩,
  ⟨some (22, false), .load 22 (.tmp 21), 22, none, true⟩,
  ⟨some (23, false), .move (.tmp 7), 3, none, true⟩,
  ⟨some (24, false), .indexAddr 22 (.tmp 22) (.tmp 23), 0, none, true⟩,
  ⟨some (25, false), .fieldAddr 76 (.tmp 24) 0, 0, none, true⟩,
  ⟨some (26, false), .load 5 (.tmp 25), 5, none, true⟩,
  ⟨some (27, false), .binOp .eql 5 (.tmp 26) (.const (.int .u8 1)) 5, 4, none, true⟩,
  ⟨some (28, false), .move (.tmp 27), 4, none, true⟩,
  ⟨some (29, false), .move (.tmp 0), 92, some (28, true), true⟩,
  ⟨some (30, false), .nilCheck (.tmp 29), 0, some (28, true), true⟩,
  ⟨some (31, false), .fieldAddr 94 (.tmp 30) 0, 0, some (28, true), true⟩,
  ⟨some (32, false), .fieldAddr 43 (.tmp 31) 5, 0, some (28, true), true⟩,
  ⟨some (33, false), .load 22 (.tmp 32), 22, some (28, true), true⟩,
  ⟨some (34, false), .move (.tmp 7), 3, some (28, true), true⟩,
  ⟨some (35, false), .indexAddr 22 (.tmp 33) (.tmp 34), 0, some (28, true), true⟩,
  ⟨some (36, false), .fieldAddr 76 (.tmp 35) 1, 0, some (28, true), true⟩,
  ⟨some (37, false), .load 9 (.tmp 36), 9, some (28, true), true⟩,
  ⟨some (38, false), .move (.tmp 1), 9, some (28, true), true⟩,
  ⟨some (39, false), .binOp .eql 9 (.tmp 37) (.tmp 38) 9, 4, some (28, true), true⟩,
  ⟨some (40, true), .pick (.tmp 28) (.tmp 39) (.const (.bool false)), 4, none, true⟩] τ ρ h := _root_.id rfl
def rw_attribute_r4 : List Sop := [
  ⟨some (41, false), .move (.tmp 0), 92, none, true⟩,
  ⟨some (42, false), .move (.tmp 7), 3, none, true⟩,
  ⟨some (43, false), .call { callee := .value (.func 47), args := #[.tmp 41, .tmp 42, .const (.int .i64 2)], argTypes := #[92, 3, 3] }, 9, none, false⟩,
  ⟨some (44, false), .move (.tmp 0), 92, none, true⟩,
  ⟨some (45, false), .move (.tmp 2), 9, none, true⟩,
  ⟨some (46, false), .call { callee := .builtin .len, args := #[.tmp 45], argTypes := #[9] }, 3, none, true⟩,
  ⟨some (47, false), .call { callee := .value (.func 47), args := #[.tmp 44, .tmp 46, .const (.int .i64 4)], argTypes := #[92, 3, 3] }, 9, none, false⟩,
  ⟨some (48, false), .binOp .add 9 (.tmp 43) (.tmp 47) 9, 9, none, true⟩,
  ⟨some (49, false), .move (.tmp 2), 9, none, true⟩,
  ⟨some (50, false), .binOp .add 9 (.tmp 48) (.tmp 49) 9, 9, none, true⟩,
  ⟨some (6, true), .assign (.tmp 50), 9, none, true⟩]
theorem rw_attribute_r4_go {K : Env → Heap → Prop} {τ ρ : Env} {h : Heap} : vcOps Try.prog K rw_attribute_r4 τ ρ h = vcOps Try.prog K [
  ⟨some (41, false), .move (.tmp 0), 92, none, true⟩,
  ⟨some (42, false), .move (.tmp 7), 3, none, true⟩,
  ⟨some (43, false), .call { callee := .value (.func 47), args := #[.tmp 41, .tmp 42, .const (.int .i64 2)], argTypes := #[92, 3, 3] }, 9, none, false⟩,
  ⟨some (44, false), .move (.tmp 0), 92, none, true⟩,
  ⟨some (45, false), .move (.tmp 2), 9, none, true⟩,
  ⟨some (46, false), .call { callee := .builtin .len, args := #[.tmp 45], argTypes := #[9] }, 3, none, true⟩,
  ⟨some (47, false), .call { callee := .value (.func 47), args := #[.tmp 44, .tmp 46, .const (.int .i64 4)], argTypes := #[92, 3, 3] }, 9, none, false⟩,
  ⟨some (48, false), .binOp .add 9 (.tmp 43) (.tmp 47) 9, 9, none, true⟩,
  ⟨some (49, false), .move (.tmp 2), 9, none, true⟩,
  ⟨some (50, false), .binOp .add 9 (.tmp 48) (.tmp 49) 9, 9, none, true⟩,
  ⟨some (6, true), .assign (.tmp 50), 9, none, true⟩] τ ρ h := _root_.id rfl
def rw_attribute_r5 : List Sop := [
  ⟨some (16, false), .move (.tmp 7), 3, none, true⟩,
  ⟨some (17, false), .binOp .add 3 (.tmp 16) (.const (.int .i64 1)) 3, 3, none, true⟩,
  ⟨some (7, true), .assign (.tmp 17), 3, none, true⟩]
theorem rw_attribute_r5_go {K : Env → Heap → Prop} {τ ρ : Env} {h : Heap} : vcOps Try.prog K rw_attribute_r5 τ ρ h = vcOps Try.prog K [
  ⟨some (16, false), .move (.tmp 7), 3, none, true⟩,
  ⟨some (17, false), .binOp .add 3 (.tmp 16) (.const (.int .i64 1)) 3, 3, none, true⟩,
  ⟨some (7, true), .assign (.tmp 17), 3, none, true⟩] τ ρ h := _root_.id rfl
def rw_attribute_r6 : List Sop := [
  ⟨some (51, false), .move (.tmp 0), 92, none, true⟩,
  ⟨some (52, false), .call { callee := .value (.func 45), args := #[.tmp 51, .const (.int .i64 8)], argTypes := #[92, 27] }, 0, none, false⟩]
theorem rw_attribute_r6_go {K : Env → Heap → Prop} {τ ρ : Env} {h : Heap} : vcOps Try.prog K rw_attribute_r6 τ ρ h = vcOps Try.prog K [
  ⟨some (51, false), .move (.tmp 0), 92, none, true⟩,
  ⟨some (52, false), .call { callee := .value (.func 45), args := #[.tmp 51, .const (.int .i64 8)], argTypes := #[92, 27] }, 0, none, false⟩] τ ρ h := _root_.id rfl
def rw_attribute_r7 : List Sop := [
  ⟨some (6, true), .assign (.const (.string { data := #[] })), 9, none, true⟩]
theorem rw_attribute_r7_go {K : Env → Heap → Prop} {τ ρ : Env} {h : Heap} : vcOps Try.prog K rw_attribute_r7 τ ρ h = vcOps Try.prog K [
  ⟨some (6, true), .assign (.const (.string { data := #[] })), 9, none, true⟩] τ ρ h := _root_.id rfl
def rw_attribute_l0 : Cd := .seq (.seq (.region rw_attribute_r2) (.cond (.tmp 15) (.skip) (.exit 0))) (.seq (.block 1 (.seq (.region rw_attribute_r3) (.cond (.tmp 40) (.seq (.region rw_attribute_r4) (.ret)) (.skip)))) (.region rw_attribute_r5))
theorem rw_attribute_l0_go {Q : Ex → Env → Heap → Prop} {ρ : Env} {h : Heap} : Cd.vc Try.prog rw_attribute_l0 Q ρ h = Cd.vc Try.prog (.seq (.seq (.region rw_attribute_r2) (.cond (.tmp 15) (.skip) (.exit 0))) (.seq (.block 1 (.seq (.region rw_attribute_r3) (.cond (.tmp 40) (.seq (.region rw_attribute_r4) (.ret)) (.skip)))) (.region rw_attribute_r5))) Q ρ h := _root_.id rfl
def rw_attribute : Cd := .seq (.region rw_attribute_r0) (.seq (.seq (.region rw_attribute_r1) (.block 0 (.loop rw_attribute_l0))) (.seq (.region rw_attribute_r6) (.seq (.region rw_attribute_r7) (.ret))))
theorem rw_attribute_go {Q : Ex → Env → Heap → Prop} {ρ : Env} {h : Heap} : Cd.vc Try.prog rw_attribute Q ρ h = Cd.vc Try.prog (.seq (.region rw_attribute_r0) (.seq (.seq (.region rw_attribute_r1) (.block 0 (.loop rw_attribute_l0))) (.seq (.region rw_attribute_r6) (.seq (.region rw_attribute_r7) (.ret))))) Q ρ h := _root_.id rfl
theorem rw_attribute_calls {args : List Value} {h : Heap} {R : Value → Heap → Prop} (hl : args.length = 3) (hv : Cd.vc Try.prog rw_attribute (retQ Try.prog [(6, none)] R) (initEnv args [0, 1, 2, 6, 7, 15, 40]) h) : HCalls Try.prog 48 args.toArray h R :=
  hcalls_of_vc (by kernel_rfl) Try.func48 (cd := rw_attribute) (L := [0, 1, 2, 6, 7, 15, 40]) (by kernel_rfl) (by kernel_rfl) ⟨by rw [hl, Try.ntmps48]; decide, by rw [Try.ntmps48]; decide⟩ hv
def rw_attribute_gos := And.intro @rw_attribute_go (And.intro @rw_attribute_r0_go (And.intro @rw_attribute_r1_go (And.intro @rw_attribute_r2_go (And.intro @rw_attribute_r3_go (And.intro @rw_attribute_r4_go (And.intro @rw_attribute_r5_go (And.intro @rw_attribute_r6_go (And.intro @rw_attribute_r7_go (@rw_attribute_l0_go)))))))))

/-! (*jvmcore/jvmcoreref3.writing).code: function 49: slots [0, 1, 3, 4, 5, 7, 35, 36, 37, 38, 66] -/
def rw_code_r0 : List Sop := [
  ⟨some (3, true), .box 79 (.tmp 1), 0, none, false⟩,
  ⟨some (4, true), .assign (.const (.string { data := #[] })), 9, none, true⟩]
theorem rw_code_r0_go {K : Env → Heap → Prop} {τ ρ : Env} {h : Heap} : vcOps Try.prog K rw_code_r0 τ ρ h = vcOps Try.prog K [
  ⟨some (3, true), .box 79 (.tmp 1), 0, none, false⟩,
  ⟨some (4, true), .assign (.const (.string { data := #[] })), 9, none, true⟩] τ ρ h := _root_.id rfl
def rw_code_r1 : List Sop := [
  ⟨some (8, false), .move (.tmp 0), 92, none, true⟩,
  ⟨some (9, false), .call { callee := .value (.func 48), args := #[.tmp 8, .const (.string { data := #[67, 111, 100, 101] }), .const (.string { data := #[] })], argTypes := #[92, 9, 9] }, 9, none, false⟩]
theorem rw_code_r1_go {K : Env → Heap → Prop} {τ ρ : Env} {h : Heap} : vcOps Try.prog K rw_code_r1 τ ρ h = vcOps Try.prog K [
  ⟨some (8, false), .move (.tmp 0), 92, none, true⟩,
  ⟨some (9, false), .call { callee := .value (.func 48), args := #[.tmp 8, .const (.string { data := #[67, 111, 100, 101] }), .const (.string { data := #[] })], argTypes := #[92, 9, 9] }, 9, none, false⟩] τ ρ h := _root_.id rfl
def rw_code_r2 : List (Sop × List Sop) := [
  (⟨some (10, false), .move (.tmp 0), 92, none, true⟩, []),
  (⟨some (11, false), .fieldAddr 79 (.tmp 3) 0, 0, none, true⟩, []),
  (⟨some (12, false), .load 3 (.tmp 11), 3, none, true⟩, []),
  (⟨some (14, false), .move (.tmp 0), 92, none, true⟩, []),
  (⟨some (15, false), .fieldAddr 79 (.tmp 3) 1, 0, none, true⟩, []),
  (⟨some (16, false), .load 3 (.tmp 15), 3, none, true⟩, []),
  (⟨some (19, false), .move (.tmp 0), 92, none, true⟩, []),
  (⟨some (20, false), .fieldAddr 79 (.tmp 3) 2, 0, none, true⟩, []),
  (⟨some (21, false), .load 9 (.tmp 20), 9, none, true⟩, []),
  (⟨some (22, false), .call { callee := .builtin .len, args := #[.tmp 21], argTypes := #[9] }, 3, none, true⟩, []),
  (⟨some (25, false), .fieldAddr 79 (.tmp 3) 2, 0, none, true⟩, []),
  (⟨some (26, false), .load 9 (.tmp 25), 9, none, true⟩, []),
  (⟨some (28, false), .move (.tmp 0), 92, none, true⟩, []),
  (⟨some (29, false), .fieldAddr 79 (.tmp 3) 3, 0, none, true⟩, []),
  (⟨some (30, false), .load 77 (.tmp 29), 77, none, true⟩, []),
  (⟨some (31, false), .call { callee := .builtin .len, args := #[.tmp 30], argTypes := #[77] }, 3, none, true⟩, []),
  (⟨some (13, false), .call { callee := .value (.func 47), args := #[.tmp 10, .tmp 12, .const (.int .i64 2)], argTypes := #[92, 3, 3] }, 9, none, false⟩, [⟨some (15, false), .fieldAddr 79 (.tmp 3) 1, 0, none, true⟩, ⟨some (16, false), .load 3 (.tmp 15), 3, none, true⟩, ⟨some (20, false), .fieldAddr 79 (.tmp 3) 2, 0, none, true⟩, ⟨some (21, false), .load 9 (.tmp 20), 9, none, true⟩, ⟨some (22, false), .call { callee := .builtin .len, args := #[.tmp 21], argTypes := #[9] }, 3, none, true⟩, ⟨some (25, false), .fieldAddr 79 (.tmp 3) 2, 0, none, true⟩, ⟨some (26, false), .load 9 (.tmp 25), 9, none, true⟩, ⟨some (29, false), .fieldAddr 79 (.tmp 3) 3, 0, none, true⟩, ⟨some (30, false), .load 77 (.tmp 29), 77, none, true⟩, ⟨some (31, false), .call { callee := .builtin .len, args := #[.tmp 30], argTypes := #[77] }, 3, none, true⟩]),
  (⟨some (17, false), .call { callee := .value (.func 47), args := #[.tmp 14, .tmp 16, .const (.int .i64 2)], argTypes := #[92, 3, 3] }, 9, none, false⟩, [⟨some (20, false), .fieldAddr 79 (.tmp 3) 2, 0, none, true⟩, ⟨some (21, false), .load 9 (.tmp 20), 9, none, true⟩, ⟨some (22, false), .call { callee := .builtin .len, args := #[.tmp 21], argTypes := #[9] }, 3, none, true⟩, ⟨some (25, false), .fieldAddr 79 (.tmp 3) 2, 0, none, true⟩, ⟨some (26, false), .load 9 (.tmp 25), 9, none, true⟩, ⟨some (29, false), .fieldAddr 79 (.tmp 3) 3, 0, none, true⟩, ⟨some (30, false), .load 77 (.tmp 29), 77, none, true⟩, ⟨some (31, false), .call { callee := .builtin .len, args := #[.tmp 30], argTypes := #[77] }, 3, none, true⟩]),
  (⟨some (18, false), .binOp .add 9 (.tmp 13) (.tmp 17) 9, 9, none, true⟩, []),
  (⟨some (23, false), .call { callee := .value (.func 47), args := #[.tmp 19, .tmp 22, .const (.int .i64 4)], argTypes := #[92, 3, 3] }, 9, none, false⟩, [⟨some (25, false), .fieldAddr 79 (.tmp 3) 2, 0, none, true⟩, ⟨some (26, false), .load 9 (.tmp 25), 9, none, true⟩, ⟨some (29, false), .fieldAddr 79 (.tmp 3) 3, 0, none, true⟩, ⟨some (30, false), .load 77 (.tmp 29), 77, none, true⟩, ⟨some (31, false), .call { callee := .builtin .len, args := #[.tmp 30], argTypes := #[77] }, 3, none, true⟩, ⟨some (18, false), .binOp .add 9 (.tmp 13) (.tmp 17) 9, 9, none, true⟩]),
  (⟨some (24, false), .binOp .add 9 (.tmp 18) (.tmp 23) 9, 9, none, true⟩, []),
  (⟨some (27, false), .binOp .add 9 (.tmp 24) (.tmp 26) 9, 9, none, true⟩, []),
  (⟨some (32, false), .call { callee := .value (.func 47), args := #[.tmp 28, .tmp 31, .const (.int .i64 2)], argTypes := #[92, 3, 3] }, 9, none, false⟩, [⟨some (25, false), .fieldAddr 79 (.tmp 3) 2, 0, none, true⟩, ⟨some (26, false), .load 9 (.tmp 25), 9, none, true⟩, ⟨some (18, false), .binOp .add 9 (.tmp 13) (.tmp 17) 9, 9, none, true⟩, ⟨some (24, false), .binOp .add 9 (.tmp 18) (.tmp 23) 9, 9, none, true⟩, ⟨some (27, false), .binOp .add 9 (.tmp 24) (.tmp 26) 9, 9, none, true⟩]),
  (⟨some (33, false), .binOp .add 9 (.tmp 27) (.tmp 32) 9, 9, none, true⟩, []),
  (⟨some (5, true), .assign (.tmp 33), 9, none, true⟩, [])]
theorem rw_code_r2_go {K : Env → Heap → Prop} {τ ρ : Env} {h : Heap} : vcDraw Try.prog K rw_code_r2 τ ρ h = vcDraw Try.prog K [
  (⟨some (10, false), .move (.tmp 0), 92, none, true⟩, []),
  (⟨some (11, false), .fieldAddr 79 (.tmp 3) 0, 0, none, true⟩, []),
  (⟨some (12, false), .load 3 (.tmp 11), 3, none, true⟩, []),
  (⟨some (14, false), .move (.tmp 0), 92, none, true⟩, []),
  (⟨some (15, false), .fieldAddr 79 (.tmp 3) 1, 0, none, true⟩, []),
  (⟨some (16, false), .load 3 (.tmp 15), 3, none, true⟩, []),
  (⟨some (19, false), .move (.tmp 0), 92, none, true⟩, []),
  (⟨some (20, false), .fieldAddr 79 (.tmp 3) 2, 0, none, true⟩, []),
  (⟨some (21, false), .load 9 (.tmp 20), 9, none, true⟩, []),
  (⟨some (22, false), .call { callee := .builtin .len, args := #[.tmp 21], argTypes := #[9] }, 3, none, true⟩, []),
  (⟨some (25, false), .fieldAddr 79 (.tmp 3) 2, 0, none, true⟩, []),
  (⟨some (26, false), .load 9 (.tmp 25), 9, none, true⟩, []),
  (⟨some (28, false), .move (.tmp 0), 92, none, true⟩, []),
  (⟨some (29, false), .fieldAddr 79 (.tmp 3) 3, 0, none, true⟩, []),
  (⟨some (30, false), .load 77 (.tmp 29), 77, none, true⟩, []),
  (⟨some (31, false), .call { callee := .builtin .len, args := #[.tmp 30], argTypes := #[77] }, 3, none, true⟩, []),
  (⟨some (13, false), .call { callee := .value (.func 47), args := #[.tmp 10, .tmp 12, .const (.int .i64 2)], argTypes := #[92, 3, 3] }, 9, none, false⟩, [⟨some (15, false), .fieldAddr 79 (.tmp 3) 1, 0, none, true⟩, ⟨some (16, false), .load 3 (.tmp 15), 3, none, true⟩, ⟨some (20, false), .fieldAddr 79 (.tmp 3) 2, 0, none, true⟩, ⟨some (21, false), .load 9 (.tmp 20), 9, none, true⟩, ⟨some (22, false), .call { callee := .builtin .len, args := #[.tmp 21], argTypes := #[9] }, 3, none, true⟩, ⟨some (25, false), .fieldAddr 79 (.tmp 3) 2, 0, none, true⟩, ⟨some (26, false), .load 9 (.tmp 25), 9, none, true⟩, ⟨some (29, false), .fieldAddr 79 (.tmp 3) 3, 0, none, true⟩, ⟨some (30, false), .load 77 (.tmp 29), 77, none, true⟩, ⟨some (31, false), .call { callee := .builtin .len, args := #[.tmp 30], argTypes := #[77] }, 3, none, true⟩]),
  (⟨some (17, false), .call { callee := .value (.func 47), args := #[.tmp 14, .tmp 16, .const (.int .i64 2)], argTypes := #[92, 3, 3] }, 9, none, false⟩, [⟨some (20, false), .fieldAddr 79 (.tmp 3) 2, 0, none, true⟩, ⟨some (21, false), .load 9 (.tmp 20), 9, none, true⟩, ⟨some (22, false), .call { callee := .builtin .len, args := #[.tmp 21], argTypes := #[9] }, 3, none, true⟩, ⟨some (25, false), .fieldAddr 79 (.tmp 3) 2, 0, none, true⟩, ⟨some (26, false), .load 9 (.tmp 25), 9, none, true⟩, ⟨some (29, false), .fieldAddr 79 (.tmp 3) 3, 0, none, true⟩, ⟨some (30, false), .load 77 (.tmp 29), 77, none, true⟩, ⟨some (31, false), .call { callee := .builtin .len, args := #[.tmp 30], argTypes := #[77] }, 3, none, true⟩]),
  (⟨some (18, false), .binOp .add 9 (.tmp 13) (.tmp 17) 9, 9, none, true⟩, []),
  (⟨some (23, false), .call { callee := .value (.func 47), args := #[.tmp 19, .tmp 22, .const (.int .i64 4)], argTypes := #[92, 3, 3] }, 9, none, false⟩, [⟨some (25, false), .fieldAddr 79 (.tmp 3) 2, 0, none, true⟩, ⟨some (26, false), .load 9 (.tmp 25), 9, none, true⟩, ⟨some (29, false), .fieldAddr 79 (.tmp 3) 3, 0, none, true⟩, ⟨some (30, false), .load 77 (.tmp 29), 77, none, true⟩, ⟨some (31, false), .call { callee := .builtin .len, args := #[.tmp 30], argTypes := #[77] }, 3, none, true⟩, ⟨some (18, false), .binOp .add 9 (.tmp 13) (.tmp 17) 9, 9, none, true⟩]),
  (⟨some (24, false), .binOp .add 9 (.tmp 18) (.tmp 23) 9, 9, none, true⟩, []),
  (⟨some (27, false), .binOp .add 9 (.tmp 24) (.tmp 26) 9, 9, none, true⟩, []),
  (⟨some (32, false), .call { callee := .value (.func 47), args := #[.tmp 28, .tmp 31, .const (.int .i64 2)], argTypes := #[92, 3, 3] }, 9, none, false⟩, [⟨some (25, false), .fieldAddr 79 (.tmp 3) 2, 0, none, true⟩, ⟨some (26, false), .load 9 (.tmp 25), 9, none, true⟩, ⟨some (18, false), .binOp .add 9 (.tmp 13) (.tmp 17) 9, 9, none, true⟩, ⟨some (24, false), .binOp .add 9 (.tmp 18) (.tmp 23) 9, 9, none, true⟩, ⟨some (27, false), .binOp .add 9 (.tmp 24) (.tmp 26) 9, 9, none, true⟩]),
  (⟨some (33, false), .binOp .add 9 (.tmp 27) (.tmp 32) 9, 9, none, true⟩, []),
  (⟨some (5, true), .assign (.tmp 33), 9, none, true⟩, [])] τ ρ h := _root_.id rfl
def rw_code_r3 : List Sop := [
  ⟨some (34, false), .fieldAddr 79 (.tmp 3) 3, 0, none, true⟩,
  ⟨some (35, true), .load 77 (.tmp 34), 77, none, true⟩,
  ⟨some (36, true), .call { callee := .builtin .len, args := #[.tmp 35], argTypes := #[77] }, 3, none, true⟩,
  ⟨some (37, true), .move (.const (.int .i64 0)), 3, none, true⟩]
theorem rw_code_r3_go {K : Env → Heap → Prop} {τ ρ : Env} {h : Heap} : vcOps Try.prog K rw_code_r3 τ ρ h = vcOps Try.prog K [
  ⟨some (34, false), .fieldAddr 79 (.tmp 3) 3, 0, none, true⟩,
  ⟨some (35, true), .load 77 (.tmp 34), 77, none, true⟩,
  ⟨some (36, true), .call { callee := .builtin .len, args := #[.tmp 35], argTypes := #[77] }, 3, none, true⟩,
  ⟨some (37, true), .move (.const (.int .i64 0)), 3, none, true⟩] τ ρ h := _root_.id rfl
def rw_code_r4 : List Sop := [
  ⟨some (38, true), .binOp .lss 3 (.tmp 37) (.tmp 36) 3, 0, none, true⟩]
theorem rw_code_r4_go {K : Env → Heap → Prop} {τ ρ : Env} {h : Heap} : vcOps Try.prog K rw_code_r4 τ ρ h = vcOps Try.prog K [
  ⟨some (38, true), .binOp .lss 3 (.tmp 37) (.tmp 36) 3, 0, none, true⟩] τ ρ h := _root_.id rfl
def rw_code_r5 : List Sop := [
  ⟨some (39, false), .indexAddr 77 (.tmp 35) (.tmp 37), 0, none, true⟩,
  ⟨some (40, false), .load 132 (.tmp 39), 132, none, true⟩,
  ⟨some (7, true), .alloc 132, 0, none, false⟩,
  ⟨none, .store 132 (.tmp 7) (.tmp 40), 0, none, false⟩]
theorem rw_code_r5_go {K : Env → Heap → Prop} {τ ρ : Env} {h : Heap} : vcOps Try.prog K rw_code_r5 τ ρ h = vcOps Try.prog K [
  ⟨some (39, false), .indexAddr 77 (.tmp 35) (.tmp 37), 0, none, true⟩,
  ⟨some (40, false), .load 132 (.tmp 39), 132, none, true⟩,
  ⟨some (7, true), .alloc 132, 0, none, false⟩,
  ⟨none, .store 132 (.tmp 7) (.tmp 40), 0, none, false⟩] τ ρ h := _root_.id rfl
def rw_code_r6 : List (Sop × List Sop) := [
  (⟨some (41, false), .move (.tmp 5), 9, none, true⟩, []),
  (⟨some (42, false), .move (.tmp 0), 92, none, true⟩, []),
  (⟨some (43, false), .fieldAddr 132 (.tmp 7) 0, 0, none, true⟩, []),
  (⟨some (44, false), .load 3 (.tmp 43), 3, none, true⟩, []),
  (⟨some (46, false), .move (.tmp 0), 92, none, true⟩, []),
  (⟨some (47, false), .fieldAddr 132 (.tmp 7) 1, 0, none, true⟩, []),
  (⟨some (48, false), .load 3 (.tmp 47), 3, none, true⟩, []),
  (⟨some (51, false), .move (.tmp 0), 92, none, true⟩, []),
  (⟨some (52, false), .fieldAddr 132 (.tmp 7) 2, 0, none, true⟩, []),
  (⟨some (53, false), .load 3 (.tmp 52), 3, none, true⟩, []),
  (⟨some (56, false), .move (.tmp 0), 92, none, true⟩, []),
  (⟨some (57, false), .fieldAddr 132 (.tmp 7) 3, 0, none, true⟩, []),
  (⟨some (58, false), .load 38 (.tmp 57), 38, none, true⟩, []),
  (⟨some (59, false), .convert 38 3 (.tmp 58), 3, none, true⟩, []),
  (⟨some (45, false), .call { callee := .value (.func 47), args := #[.tmp 42, .tmp 44, .const (.int .i64 2)], argTypes := #[92, 3, 3] }, 9, none, false⟩, [⟨some (47, false), .fieldAddr 132 (.tmp 7) 1, 0, none, true⟩, ⟨some (48, false), .load 3 (.tmp 47), 3, none, true⟩, ⟨some (52, false), .fieldAddr 132 (.tmp 7) 2, 0, none, true⟩, ⟨some (53, false), .load 3 (.tmp 52), 3, none, true⟩, ⟨some (57, false), .fieldAddr 132 (.tmp 7) 3, 0, none, true⟩, ⟨some (58, false), .load 38 (.tmp 57), 38, none, true⟩, ⟨some (59, false), .convert 38 3 (.tmp 58), 3, none, true⟩]),
  (⟨some (49, false), .call { callee := .value (.func 47), args := #[.tmp 46, .tmp 48, .const (.int .i64 2)], argTypes := #[92, 3, 3] }, 9, none, false⟩, [⟨some (52, false), .fieldAddr 132 (.tmp 7) 2, 0, none, true⟩, ⟨some (53, false), .load 3 (.tmp 52), 3, none, true⟩, ⟨some (57, false), .fieldAddr 132 (.tmp 7) 3, 0, none, true⟩, ⟨some (58, false), .load 38 (.tmp 57), 38, none, true⟩, ⟨some (59, false), .convert 38 3 (.tmp 58), 3, none, true⟩]),
  (⟨some (50, false), .binOp .add 9 (.tmp 45) (.tmp 49) 9, 9, none, true⟩, []),
  (⟨some (54, false), .call { callee := .value (.func 47), args := #[.tmp 51, .tmp 53, .const (.int .i64 2)], argTypes := #[92, 3, 3] }, 9, none, false⟩, [⟨some (57, false), .fieldAddr 132 (.tmp 7) 3, 0, none, true⟩, ⟨some (58, false), .load 38 (.tmp 57), 38, none, true⟩, ⟨some (59, false), .convert 38 3 (.tmp 58), 3, none, true⟩, ⟨some (50, false), .binOp .add 9 (.tmp 45) (.tmp 49) 9, 9, none, true⟩]),
  (⟨some (55, false), .binOp .add 9 (.tmp 50) (.tmp 54) 9, 9, none, true⟩, []),
  (⟨some (60, false), .call { callee := .value (.func 47), args := #[.tmp 56, .tmp 59, .const (.int .i64 2)], argTypes := #[92, 3, 3] }, 9, none, false⟩, [⟨some (50, false), .binOp .add 9 (.tmp 45) (.tmp 49) 9, 9, none, true⟩, ⟨some (55, false), .binOp .add 9 (.tmp 50) (.tmp 54) 9, 9, none, true⟩]),
  (⟨some (61, false), .binOp .add 9 (.tmp 55) (.tmp 60) 9, 9, none, true⟩, []),
  (⟨some (62, false), .binOp .add 9 (.tmp 41) (.tmp 61) 9, 9, none, true⟩, []),
  (⟨some (5, true), .assign (.tmp 62), 9, none, true⟩, [])]
theorem rw_code_r6_go {K : Env → Heap → Prop} {τ ρ : Env} {h : Heap} : vcDraw Try.prog K rw_code_r6 τ ρ h = vcDraw Try.prog K [
  (⟨some (41, false), .move (.tmp 5), 9, none, true⟩, []),
  (⟨some (42, false), .move (.tmp 0), 92, none, true⟩, []),
  (⟨some (43, false), .fieldAddr 132 (.tmp 7) 0, 0, none, true⟩, []),
  (⟨some (44, false), .load 3 (.tmp 43), 3, none, true⟩, []),
  (⟨some (46, false), .move (.tmp 0), 92, none, true⟩, []),
  (⟨some (47, false), .fieldAddr 132 (.tmp 7) 1, 0, none, true⟩, []),
  (⟨some (48, false), .load 3 (.tmp 47), 3, none, true⟩, []),
  (⟨some (51, false), .move (.tmp 0), 92, none, true⟩, []),
  (⟨some (52, false), .fieldAddr 132 (.tmp 7) 2, 0, none, true⟩, []),
  (⟨some (53, false), .load 3 (.tmp 52), 3, none, true⟩, []),
  (⟨some (56, false), .move (.tmp 0), 92, none, true⟩, []),
  (⟨some (57, false), .fieldAddr 132 (.tmp 7) 3, 0, none, true⟩, []),
  (⟨some (58, false), .load 38 (.tmp 57), 38, none, true⟩, []),
  (⟨some (59, false), .convert 38 3 (.tmp 58), 3, none, true⟩, []),
  (⟨some (45, false), .call { callee := .value (.func 47), args := #[.tmp 42, .tmp 44, .const (.int .i64 2)], argTypes := #[92, 3, 3] }, 9, none, false⟩, [⟨some (47, false), .fieldAddr 132 (.tmp 7) 1, 0, none, true⟩, ⟨some (48, false), .load 3 (.tmp 47), 3, none, true⟩, ⟨some (52, false), .fieldAddr 132 (.tmp 7) 2, 0, none, true⟩, ⟨some (53, false), .load 3 (.tmp 52), 3, none, true⟩, ⟨some (57, false), .fieldAddr 132 (.tmp 7) 3, 0, none, true⟩, ⟨some (58, false), .load 38 (.tmp 57), 38, none, true⟩, ⟨some (59, false), .convert 38 3 (.tmp 58), 3, none, true⟩]),
  (⟨some (49, false), .call { callee := .value (.func 47), args := #[.tmp 46, .tmp 48, .const (.int .i64 2)], argTypes := #[92, 3, 3] }, 9, none, false⟩, [⟨some (52, false), .fieldAddr 132 (.tmp 7) 2, 0, none, true⟩, ⟨some (53, false), .load 3 (.tmp 52), 3, none, true⟩, ⟨some (57, false), .fieldAddr 132 (.tmp 7) 3, 0, none, true⟩, ⟨some (58, false), .load 38 (.tmp 57), 38, none, true⟩, ⟨some (59, false), .convert 38 3 (.tmp 58), 3, none, true⟩]),
  (⟨some (50, false), .binOp .add 9 (.tmp 45) (.tmp 49) 9, 9, none, true⟩, []),
  (⟨some (54, false), .call { callee := .value (.func 47), args := #[.tmp 51, .tmp 53, .const (.int .i64 2)], argTypes := #[92, 3, 3] }, 9, none, false⟩, [⟨some (57, false), .fieldAddr 132 (.tmp 7) 3, 0, none, true⟩, ⟨some (58, false), .load 38 (.tmp 57), 38, none, true⟩, ⟨some (59, false), .convert 38 3 (.tmp 58), 3, none, true⟩, ⟨some (50, false), .binOp .add 9 (.tmp 45) (.tmp 49) 9, 9, none, true⟩]),
  (⟨some (55, false), .binOp .add 9 (.tmp 50) (.tmp 54) 9, 9, none, true⟩, []),
  (⟨some (60, false), .call { callee := .value (.func 47), args := #[.tmp 56, .tmp 59, .const (.int .i64 2)], argTypes := #[92, 3, 3] }, 9, none, false⟩, [⟨some (50, false), .binOp .add 9 (.tmp 45) (.tmp 49) 9, 9, none, true⟩, ⟨some (55, false), .binOp .add 9 (.tmp 50) (.tmp 54) 9, 9, none, true⟩]),
  (⟨some (61, false), .binOp .add 9 (.tmp 55) (.tmp 60) 9, 9, none, true⟩, []),
  (⟨some (62, false), .binOp .add 9 (.tmp 41) (.tmp 61) 9, 9, none, true⟩, []),
  (⟨some (5, true), .assign (.tmp 62), 9, none, true⟩, [])] τ ρ h := _root_.id rfl
def rw_code_r7 : List Sop := [
  ⟨some (63, false), .binOp .add 3 (.tmp 37) (.const (.int .i64 1)) 3, 3, none, true⟩,
  ⟨some (37, true), .move (.tmp 63), 3, none, true⟩]
theorem rw_code_r7_go {K : Env → Heap → Prop} {τ ρ : Env} {h : Heap} : vcOps Try.prog K rw_code_r7 τ ρ h = vcOps Try.prog K [
  ⟨some (63, false), .binOp .add 3 (.tmp 37) (.const (.int .i64 1)) 3, 3, none, true⟩,
  ⟨some (37, true), .move (.tmp 63), 3, none, true⟩] τ ρ h := _root_.id rfl
def rw_code_r8 : List Sop := [
  ⟨some (64, false), .fieldAddr 79 (.tmp 3) 4, 0, none, true⟩,
  ⟨some (65, false), .load 9 (.tmp 64), 9, none, true⟩,
  ⟨some (66, true), .binOp .eql 9 (.tmp 65) (.const (.string { data := #[] })) 9, 4, none, true⟩]
theorem rw_code_r8_go {K : Env → Heap → Prop} {τ ρ : Env} {h : Heap} : vcOps Try.prog K rw_code_r8 τ ρ h = vcOps Try.prog K [
  ⟨some (64, false), .fieldAddr 79 (.tmp 3) 4, 0, none, true⟩,
  ⟨some (65, false), .load 9 (.tmp 64), 9, none, true⟩,
  ⟨some (66, true), .binOp .eql 9 (.tmp 65) (.const (.string { data := #[] })) 9, 4, none, true⟩] τ ρ h := _root_.id rfl
def rw_code_r9 : List Sop := [
  ⟨some (67, false), .move (.tmp 5), 9, none, true⟩,
  ⟨some (68, false), .binOp .add 9 (.tmp 67) (.const (.string { data := #[0, 0] })) 9, 9, none, true⟩,
  ⟨some (5, true), .assign (.tmp 68), 9, none, true⟩]
theorem rw_code_r9_go {K : Env → Heap → Prop} {τ ρ : Env} {h : Heap} : vcOps Try.prog K rw_code_r9 τ ρ h = vcOps Try.prog K [
  ⟨some (67, false), .move (.tmp 5), 9, none, true⟩,
  ⟨some (68, false), .binOp .add 9 (.tmp 67) (.const (.string { data := #[0, 0] })) 9, 9, none, true⟩,
  ⟨some (5, true), .assign (.tmp 68), 9, none, true⟩] τ ρ h := _root_.id rfl
def rw_code_r10 : List Sop := [
  ⟨some (69, false), .move (.tmp 5), 9, none, true⟩,
  ⟨some (70, false), .move (.tmp 0), 92, none, true⟩,
  ⟨some (71, false), .fieldAddr 79 (.tmp 3) 4, 0, none, true⟩,
  ⟨some (72, false), .load 9 (.tmp 71), 9, none, true⟩,
  ⟨some (73, false), .call { callee := .value (.func 48), args := #[.tmp 70, .const (.string { data := #[83, 116, 97, 99, 107, 77, 97, 112, 84, 97, 98, 108, 101] }), .tmp 72], argTypes := #[92, 9, 9] }, 9, none, false⟩,
  ⟨some (74, false), .binOp .add 9 (.const (.string { data := #[0, 1] })) (.tmp 73) 9, 9, none, true⟩,
  ⟨some (75, false), .binOp .add 9 (.tmp 69) (.tmp 74) 9, 9, none, true⟩,
  ⟨some (5, true), .assign (.tmp 75), 9, none, true⟩]
theorem rw_code_r10_go {K : Env → Heap → Prop} {τ ρ : Env} {h : Heap} : vcOps Try.prog K rw_code_r10 τ ρ h = vcOps Try.prog K [
  ⟨some (69, false), .move (.tmp 5), 9, none, true⟩,
  ⟨some (70, false), .move (.tmp 0), 92, none, true⟩,
  ⟨some (71, false), .fieldAddr 79 (.tmp 3) 4, 0, none, true⟩,
  ⟨some (72, false), .load 9 (.tmp 71), 9, none, true⟩,
  ⟨some (73, false), .call { callee := .value (.func 48), args := #[.tmp 70, .const (.string { data := #[83, 116, 97, 99, 107, 77, 97, 112, 84, 97, 98, 108, 101] }), .tmp 72], argTypes := #[92, 9, 9] }, 9, none, false⟩,
  ⟨some (74, false), .binOp .add 9 (.const (.string { data := #[0, 1] })) (.tmp 73) 9, 9, none, true⟩,
  ⟨some (75, false), .binOp .add 9 (.tmp 69) (.tmp 74) 9, 9, none, true⟩,
  ⟨some (5, true), .assign (.tmp 75), 9, none, true⟩] τ ρ h := _root_.id rfl
def rw_code_r11 : List Sop := [
  ⟨some (76, false), .move (.tmp 0), 92, none, true⟩,
  ⟨some (77, false), .move (.tmp 5), 9, none, true⟩,
  ⟨some (78, false), .call { callee := .value (.func 48), args := #[.tmp 76, .const (.string { data := #[67, 111, 100, 101] }), .tmp 77], argTypes := #[92, 9, 9] }, 9, none, false⟩,
  ⟨some (4, true), .assign (.tmp 78), 9, none, true⟩]
theorem rw_code_r11_go {K : Env → Heap → Prop} {τ ρ : Env} {h : Heap} : vcOps Try.prog K rw_code_r11 τ ρ h = vcOps Try.prog K [
  ⟨some (76, false), .move (.tmp 0), 92, none, true⟩,
  ⟨some (77, false), .move (.tmp 5), 9, none, true⟩,
  ⟨some (78, false), .call { callee := .value (.func 48), args := #[.tmp 76, .const (.string { data := #[67, 111, 100, 101] }), .tmp 77], argTypes := #[92, 9, 9] }, 9, none, false⟩,
  ⟨some (4, true), .assign (.tmp 78), 9, none, true⟩] τ ρ h := _root_.id rfl
def rw_code_l0 : Cd := .seq (.region rw_code_r4) (.seq (.cond (.tmp 38) (.skip) (.exit 0)) (.seq (.block 1 (.seq (.region rw_code_r5) (.draw rw_code_r6))) (.region rw_code_r7)))
theorem rw_code_l0_go {Q : Ex → Env → Heap → Prop} {ρ : Env} {h : Heap} : Cd.vc Try.prog rw_code_l0 Q ρ h = Cd.vc Try.prog (.seq (.region rw_code_r4) (.seq (.cond (.tmp 38) (.skip) (.exit 0)) (.seq (.block 1 (.seq (.region rw_code_r5) (.draw rw_code_r6))) (.region rw_code_r7)))) Q ρ h := _root_.id rfl
def rw_code : Cd := .seq (.region rw_code_r0) (.seq (.region rw_code_r1) (.seq (.draw rw_code_r2) (.seq (.seq (.region rw_code_r3) (.block 0 (.loop rw_code_l0))) (.seq (.seq (.region rw_code_r8) (.cond (.tmp 66) (.region rw_code_r9) (.region rw_code_r10))) (.seq (.region rw_code_r11) (.ret))))))
theorem rw_code_go {Q : Ex → Env → Heap → Prop} {ρ : Env} {h : Heap} : Cd.vc Try.prog rw_code Q ρ h = Cd.vc Try.prog (.seq (.region rw_code_r0) (.seq (.region rw_code_r1) (.seq (.draw rw_code_r2) (.seq (.seq (.region rw_code_r3) (.block 0 (.loop rw_code_l0))) (.seq (.seq (.region rw_code_r8) (.cond (.tmp 66) (.region rw_code_r9) (.region rw_code_r10))) (.seq (.region rw_code_r11) (.ret))))))) Q ρ h := _root_.id rfl
theorem rw_code_calls {args : List Value} {h : Heap} {R : Value → Heap → Prop} (hl : args.length = 2) (hv : Cd.vc Try.prog rw_code (retQ Try.prog [(4, none)] R) (initEnv args [0, 1, 3, 4, 5, 7, 35, 36, 37, 38, 66]) h) : HCalls Try.prog 49 args.toArray h R :=
  hcalls_of_vc (by kernel_rfl) Try.func49 (cd := rw_code) (L := [0, 1, 3, 4, 5, 7, 35, 36, 37, 38, 66]) (by kernel_rfl) (by kernel_rfl) ⟨by rw [hl, Try.ntmps49]; decide, by rw [Try.ntmps49]; decide⟩ hv
def rw_code_gos := And.intro @rw_code_go (And.intro @rw_code_r0_go (And.intro @rw_code_r1_go (And.intro @rw_code_r2_go (And.intro @rw_code_r3_go (And.intro @rw_code_r4_go (And.intro @rw_code_r5_go (And.intro @rw_code_r6_go (And.intro @rw_code_r7_go (And.intro @rw_code_r8_go (And.intro @rw_code_r9_go (And.intro @rw_code_r10_go (And.intro @rw_code_r11_go (@rw_code_l0_go)))))))))))))

/-! jvmcore/jvmcoreref3.WriteClass: function 17: slots [0, 1, 2, 3, 4, 5, 6, 8, 9, 11, 13, 15, 31, 42, 88, 89, 90, 91, 109, 110, 111, 112, 136, 158, 159, 160, 161, 185, 202] -/
def ref3_WriteClass_r0 : List Sop := [
  ⟨some (1, true), .box 43 (.tmp 0), 0, none, false⟩,
  ⟨some (2, true), .assign (.const (.string { data := #[] })), 9, none, true⟩,
  ⟨some (3, true), .assign (.const (.int .i64 0)), 27, none, true⟩]
theorem ref3_WriteClass_r0_go {K : Env → Heap → Prop} {τ ρ : Env} {h : Heap} : vcOps Try.prog K ref3_WriteClass_r0 τ ρ h = vcOps Try.prog K [
  ⟨some (1, true), .box 43 (.tmp 0), 0, none, false⟩,
  ⟨some (2, true), .assign (.const (.string { data := #[] })), 9, none, true⟩,
  ⟨some (3, true), .assign (.const (.int .i64 0)), 27, none, true⟩] τ ρ h := _root_.id rfl
def ref3_WriteClass_r1 : List Sop := [
  ⟨some (16, false), .load 43 (.tmp 1), 43, none, true⟩,
  ⟨some (17, false), .build 94 #[(0, .tmp 16)], 94, none, true⟩,
  ⟨some (18, false), .box 94 (.tmp 17), 92, none, false⟩,
  ⟨some (4, true), .assign (.tmp 18), 92, none, true⟩]
theorem ref3_WriteClass_r1_go {K : Env → Heap → Prop} {τ ρ : Env} {h : Heap} : vcOps Try.prog K ref3_WriteClass_r1 τ ρ h = vcOps Try.prog K [
  ⟨some (16, false), .load 43 (.tmp 1), 43, none, true⟩,
  ⟨some (17, false), .build 94 #[(0, .tmp 16)], 94, none, true⟩,
  ⟨some (18, false), .box 94 (.tmp 17), 92, none, false⟩,
  ⟨some (4, true), .assign (.tmp 18), 92, none, true⟩] τ ρ h := _root_.id rfl
def ref3_WriteClass_r2 : List Sop := [
  ⟨some (19, false), .fieldAddr 43 (.tmp 1) 0, 0, none, true⟩,
  ⟨some (20, false), .load 38 (.tmp 19), 38, none, true⟩,
  ⟨some (21, false), .binOp .neq 38 (.tmp 20) (.const (.int .u16 0)) 38, 4, none, true⟩,
  ⟨some (22, false), .move (.tmp 21), 4, none, true⟩,
  ⟨some (23, false), .fieldAddr 43 (.tmp 1) 1, 0, some (22, false), true⟩,
  ⟨some (24, false), .load 38 (.tmp 23), 38, some (22, false), true⟩,
  ⟨some (25, false), .binOp .neq 38 (.tmp 24) (.const (.int .u16 50)) 38, 4, some (22, false), true⟩,
  ⟨some (26, false), .move (.tmp 25), 4, some (22, false), true⟩,
  ⟨some (27, false), .fieldAddr 43 (.tmp 1) 1, 0, some (26, true), true⟩,
  ⟨some (28, false), .load 38 (.tmp 27), 38, some (26, true), true⟩,
  ⟨some (29, false), .binOp .neq 38 (.tmp 28) (.const (.int .u16 51)) 38, 4, some (26, true), true⟩,
  ⟨some (30, false), .pick (.tmp 26) (.tmp 29) (.const (.bool false)), 4, some (22, false), true⟩,
  ⟨some (31, true), .pick (.tmp 22) (.const (.bool true)) (.tmp 30), 4, none, true⟩]
theorem ref3_WriteClass_r2_go {K : Env → Heap → Prop} {τ ρ : Env} {h : Heap} : vcOps Try.prog K ref3_WriteClass_r2 τ ρ h = vcOps Try.prog K [
  ⟨some (19, false), .fieldAddr 43 (.tmp 1) 0, 0, none, true⟩,
  ⟨some (20, false), .load 38 (.tmp 19), 38, none, true⟩,
  ⟨some (21, false), .binOp .neq 38 (.tmp 20) (.const (.int .u16 0)) 38, 4, none, true⟩,
  ⟨some (22, false), .move (.tmp 21), 4, none, true⟩,
  ⟨some (23, false), .fieldAddr 43 (.tmp 1) 1, 0, some (22, false), true⟩,
  ⟨some (24, false), .load 38 (.tmp 23), 38, some (22, false), true⟩,
  ⟨some (25, false), .binOp .neq 38 (.tmp 24) (.const (.int .u16 50)) 38, 4, some (22, false), true⟩,
  ⟨some (26, false), .move (.tmp 25), 4, some (22, false), true⟩,
  ⟨some (27, false), .fieldAddr 43 (.tmp 1) 1, 0, some (26, true), true⟩,
  ⟨some (28, false), .load 38 (.tmp 27), 38, some (26, true), true⟩,
  ⟨some (29, false), .binOp .neq 38 (.tmp 28) (.const (.int .u16 51)) 38, 4, some (26, true), true⟩,
  ⟨some (30, false), .pick (.tmp 26) (.tmp 29) (.const (.bool false)), 4, some (22, false), true⟩,
  ⟨some (31, true), .pick (.tmp 22) (.const (.bool true)) (.tmp 30), 4, none, true⟩] τ ρ h := _root_.id rfl
def ref3_WriteClass_r3 : List Sop := [
  ⟨some (32, false), .move (.tmp 4), 92, none, true⟩,
  ⟨some (33, false), .call { callee := .value (.func 45), args := #[.tmp 32, .const (.int .i64 4)], argTypes := #[92, 27] }, 0, none, false⟩]
theorem ref3_WriteClass_r3_go {K : Env → Heap → Prop} {τ ρ : Env} {h : Heap} : vcOps Try.prog K ref3_WriteClass_r3 τ ρ h = vcOps Try.prog K [
  ⟨some (32, false), .move (.tmp 4), 92, none, true⟩,
  ⟨some (33, false), .call { callee := .value (.func 45), args := #[.tmp 32, .const (.int .i64 4)], argTypes := #[92, 27] }, 0, none, false⟩] τ ρ h := _root_.id rfl
def ref3_WriteClass_r4 : List Sop := [
  ⟨some (35, false), .fieldAddr 43 (.tmp 1) 5, 0, none, true⟩,
  ⟨some (36, false), .load 22 (.tmp 35), 22, none, true⟩,
  ⟨some (37, false), .call { callee := .value (.func 46), args := #[.tmp 36], argTypes := #[22] }, 36, none, false⟩,
  ⟨some (34, false), .move (.tmp 37), 36, none, true⟩,
  ⟨some (38, false), .extract (.tmp 34) 0, 9, none, true⟩,
  ⟨some (39, false), .extract (.tmp 34) 1, 27, none, true⟩,
  ⟨some (40, false), .extract (.tmp 34) 2, 3, none, true⟩,
  ⟨some (5, true), .assign (.tmp 38), 9, none, true⟩,
  ⟨some (6, true), .assign (.tmp 39), 27, none, true⟩,
  ⟨some (7, false), .assign (.tmp 40), 3, none, true⟩]
theorem ref3_WriteClass_r4_go {K : Env → Heap → Prop} {τ ρ : Env} {h : Heap} : vcOps Try.prog K ref3_WriteClass_r4 τ ρ h = vcOps Try.prog K [
  ⟨some (35, false), .fieldAddr 43 (.tmp 1) 5, 0, none, true⟩,
  ⟨some (36, false), .load 22 (.tmp 35), 22, none, true⟩,
  ⟨some (37, false), .call { callee := .value (.func 46), args := #[.tmp 36], argTypes := #[22] }, 36, none, false⟩,
  ⟨some (34, false), .move (.tmp 37), 36, none, true⟩,
  ⟨some (38, false), .extract (.tmp 34) 0, 9, none, true⟩,
  ⟨some (39, false), .extract (.tmp 34) 1, 27, none, true⟩,
  ⟨some (40, false), .extract (.tmp 34) 2, 3, none, true⟩,
  ⟨some (5, true), .assign (.tmp 38), 9, none, true⟩,
  ⟨some (6, true), .assign (.tmp 39), 27, none, true⟩,
  ⟨some (7, false), .assign (.tmp 40), 3, none, true⟩] τ ρ h := _root_.id rfl
def ref3_WriteClass_r5 : List Sop := [
  ⟨some (41, false), .move (.tmp 6), 27, none, true⟩,
  ⟨some (42, true), .binOp .neq 27 (.tmp 41) (.const (.int .i64 0)) 27, 4, none, true⟩]
theorem ref3_WriteClass_r5_go {K : Env → Heap → Prop} {τ ρ : Env} {h : Heap} : vcOps Try.prog K ref3_WriteClass_r5 τ ρ h = vcOps Try.prog K [
  ⟨some (41, false), .move (.tmp 6), 27, none, true⟩,
  ⟨some (42, true), .binOp .neq 27 (.tmp 41) (.const (.int .i64 0)) 27, 4, none, true⟩] τ ρ h := _root_.id rfl
def ref3_WriteClass_r6 : List Sop := [
  ⟨some (43, false), .move (.tmp 4), 92, none, true⟩,
  ⟨some (44, false), .move (.tmp 6), 27, none, true⟩,
  ⟨some (45, false), .call { callee := .value (.func 45), args := #[.tmp 43, .tmp 44], argTypes := #[92, 27] }, 0, none, false⟩]
theorem ref3_WriteClass_r6_go {K : Env → Heap → Prop} {τ ρ : Env} {h : Heap} : vcOps Try.prog K ref3_WriteClass_r6 τ ρ h = vcOps Try.prog K [
  ⟨some (43, false), .move (.tmp 4), 92, none, true⟩,
  ⟨some (44, false), .move (.tmp 6), 27, none, true⟩,
  ⟨some (45, false), .call { callee := .value (.func 45), args := #[.tmp 43, .tmp 44], argTypes := #[92, 27] }, 0, none, false⟩] τ ρ h := _root_.id rfl
def ref3_WriteClass_r7 : List (Sop × List Sop) := [
  (⟨some (46, false), .move (.tmp 4), 92, none, true⟩, []),
  (⟨some (47, false), .fieldAddr 43 (.tmp 1) 0, 0, none, true⟩, []),
  (⟨some (48, false), .load 38 (.tmp 47), 38, none, true⟩, []),
  (⟨some (49, false), .convert 38 3 (.tmp 48), 3, none, true⟩, []),
  (⟨some (52, false), .move (.tmp 4), 92, none, true⟩, []),
  (⟨some (53, false), .fieldAddr 43 (.tmp 1) 1, 0, none, true⟩, []),
  (⟨some (54, false), .load 38 (.tmp 53), 38, none, true⟩, []),
  (⟨some (55, false), .convert 38 3 (.tmp 54), 3, none, true⟩, []),
  (⟨some (58, false), .move (.tmp 5), 9, none, true⟩, []),
  (⟨some (50, false), .call { callee := .value (.func 47), args := #[.tmp 46, .tmp 49, .const (.int .i64 2)], argTypes := #[92, 3, 3] }, 9, none, false⟩, [⟨some (53, false), .fieldAddr 43 (.tmp 1) 1, 0, none, true⟩, ⟨some (54, false), .load 38 (.tmp 53), 38, none, true⟩, ⟨some (55, false), .convert 38 3 (.tmp 54), 3, none, true⟩]),
  (⟨some (51, false), .binOp .add 9 (.const (.string { data := #[202, 254, 186, 190] })) (.tmp 50) 9, 9, none, true⟩, []),
  (⟨some (56, false), .call { callee := .value (.func 47), args := #[.tmp 52, .tmp 55, .const (.int .i64 2)], argTypes := #[92, 3, 3] }, 9, none, false⟩, [⟨some (51, false), .binOp .add 9 (.const (.string { data := #[202, 254, 186, 190] })) (.tmp 50) 9, 9, none, true⟩]),
  (⟨some (57, false), .binOp .add 9 (.tmp 51) (.tmp 56) 9, 9, none, true⟩, []),
  (⟨some (59, false), .binOp .add 9 (.tmp 57) (.tmp 58) 9, 9, none, true⟩, []),
  (⟨some (8, true), .assign (.tmp 59), 9, none, true⟩, [])]
theorem ref3_WriteClass_r7_go {K : Env → Heap → Prop} {τ ρ : Env} {h : Heap} : vcDraw Try.prog K ref3_WriteClass_r7 τ ρ h = vcDraw Try.prog K [
  (⟨some (46, false), .move (.tmp 4), 92, none, true⟩, []),
  (⟨some (47, false), .fieldAddr 43 (.tmp 1) 0, 0, none, true⟩, []),
  (⟨some (48, false), .load 38 (.tmp 47), 38, none, true⟩, []),
  (⟨some (49, false), .convert 38 3 (.tmp 48), 3, none, true⟩, []),
  (⟨some (52, false), .move (.tmp 4), 92, none, true⟩, []),
  (⟨some (53, false), .fieldAddr 43 (.tmp 1) 1, 0, none, true⟩, []),
  (⟨some (54, false), .load 38 (.tmp 53), 38, none, true⟩, []),
  (⟨some (55, false), .convert 38 3 (.tmp 54), 3, none, true⟩, []),
  (⟨some (58, false), .move (.tmp 5), 9, none, true⟩, []),
  (⟨some (50, false), .call { callee := .value (.func 47), args := #[.tmp 46, .tmp 49, .const (.int .i64 2)], argTypes := #[92, 3, 3] }, 9, none, false⟩, [⟨some (53, false), .fieldAddr 43 (.tmp 1) 1, 0, none, true⟩, ⟨some (54, false), .load 38 (.tmp 53), 38, none, true⟩, ⟨some (55, false), .convert 38 3 (.tmp 54), 3, none, true⟩]),
  (⟨some (51, false), .binOp .add 9 (.const (.string { data := #[202, 254, 186, 190] })) (.tmp 50) 9, 9, none, true⟩, []),
  (⟨some (56, false), .call { callee := .value (.func 47), args := #[.tmp 52, .tmp 55, .const (.int .i64 2)], argTypes := #[92, 3, 3] }, 9, none, false⟩, [⟨some (51, false), .binOp .add 9 (.const (.string { data := #[202, 254, 186, 190] })) (.tmp 50) 9, 9, none, true⟩]),
  (⟨some (57, false), .binOp .add 9 (.tmp 51) (.tmp 56) 9, 9, none, true⟩, []),
  (⟨some (59, false), .binOp .add 9 (.tmp 57) (.tmp 58) 9, 9, none, true⟩, []),
  (⟨some (8, true), .assign (.tmp 59), 9, none, true⟩, [])] τ ρ h := _root_.id rfl
def ref3_WriteClass_r8 : List (Sop × List Sop) := [
  (⟨some (60, false), .move (.tmp 8), 9, none, true⟩, []),
  (⟨some (61, false), .move (.tmp 4), 92, none, true⟩, []),
  (⟨some (62, false), .fieldAddr 43 (.tmp 1) 2, 0, none, true⟩, []),
  (⟨some (63, false), .load 38 (.tmp 62), 38, none, true⟩, []),
  (⟨some (64, false), .convert 38 3 (.tmp 63), 3, none, true⟩, []),
  (⟨some (66, false), .move (.tmp 4), 92, none, true⟩, []),
  (⟨some (67, false), .fieldAddr 43 (.tmp 1) 3, 0, none, true⟩, []),
  (⟨some (68, false), .load 38 (.tmp 67), 38, none, true⟩, []),
  (⟨some (69, false), .convert 38 3 (.tmp 68), 3, none, true⟩, []),
  (⟨some (72, false), .move (.tmp 4), 92, none, true⟩, []),
  (⟨some (73, false), .fieldAddr 43 (.tmp 1) 4, 0, none, true⟩, []),
  (⟨some (74, false), .load 38 (.tmp 73), 38, none, true⟩, []),
  (⟨some (75, false), .convert 38 3 (.tmp 74), 3, none, true⟩, []),
  (⟨some (78, false), .move (.tmp 4), 92, none, true⟩, []),
  (⟨some (79, false), .fieldAddr 43 (.tmp 1) 6, 0, none, true⟩, []),
  (⟨some (80, false), .load 39 (.tmp 79), 39, none, true⟩, []),
  (⟨some (81, false), .call { callee := .builtin .len, args := #[.tmp 80], argTypes := #[39] }, 3, none, true⟩, []),
  (⟨some (65, false), .call { callee := .value (.func 47), args := #[.tmp 61, .tmp 64, .const (.int .i64 2)], argTypes := #[92, 3, 3] }, 9, none, false⟩, [⟨some (67, false), .fieldAddr 43 (.tmp 1) 3, 0, none, true⟩, ⟨some (68, false), .load 38 (.tmp 67), 38, none, true⟩, ⟨some (69, false), .convert 38 3 (.tmp 68), 3, none, true⟩, ⟨some (73, false), .fieldAddr 43 (.tmp 1) 4, 0, none, true⟩, ⟨some (74, false), .load 38 (.tmp 73), 38, none, true⟩, ⟨some (75, false), .convert 38 3 (.tmp 74), 3, none, true⟩, ⟨some (79, false), .fieldAddr 43 (.tmp 1) 6, 0, none, true⟩, ⟨some (80, false), .load 39 (.tmp 79), 39, none, true⟩, ⟨some (81, false), .call { callee := .builtin .len, args := #[.tmp 80], argTypes := #[39] }, 3, none, true⟩]),
  (⟨some (70, false), .call { callee := .value (.func 47), args := #[.tmp 66, .tmp 69, .const (.int .i64 2)], argTypes := #[92, 3, 3] }, 9, none, false⟩, [⟨some (73, false), .fieldAddr 43 (.tmp 1) 4, 0, none, true⟩, ⟨some (74, false), .load 38 (.tmp 73), 38, none, true⟩, ⟨some (75, false), .convert 38 3 (.tmp 74), 3, none, true⟩, ⟨some (79, false), .fieldAddr 43 (.tmp 1) 6, 0, none, true⟩, ⟨some (80, false), .load 39 (.tmp 79), 39, none, true⟩, ⟨some (81, false), .call { callee := .builtin .len, args := #[.tmp 80], argTypes := #[39] }, 3, none, true⟩]),
  (⟨some (71, false), .binOp .add 9 (.tmp 65) (.tmp 70) 9, 9, none, true⟩, []),
  (⟨some (76, false), .call { callee := .value (.func 47), args := #[.tmp 72, .tmp 75, .const (.int .i64 2)], argTypes := #[92, 3, 3] }, 9, none, false⟩, [⟨some (79, false), .fieldAddr 43 (.tmp 1) 6, 0, none, true⟩, ⟨some (80, false), .load 39 (.tmp 79), 39, none, true⟩, ⟨some (81, false), .call { callee := .builtin .len, args := #[.tmp 80], argTypes := #[39] }, 3, none, true⟩, ⟨some (71, false), .binOp .add 9 (.tmp 65) (.tmp 70) 9, 9, none, true⟩]),
  (⟨some (77, false), .binOp .add 9 (.tmp 71) (.tmp 76) 9, 9, none, true⟩, []),
  (⟨some (82, false), .call { callee := .value (.func 47), args := #[.tmp 78, .tmp 81, .const (.int .i64 2)], argTypes := #[92, 3, 3] }, 9, none, false⟩, [⟨some (71, false), .binOp .add 9 (.tmp 65) (.tmp 70) 9, 9, none, true⟩, ⟨some (77, false), .binOp .add 9 (.tmp 71) (.tmp 76) 9, 9, none, true⟩]),
  (⟨some (83, false), .binOp .add 9 (.tmp 77) (.tmp 82) 9, 9, none, true⟩, []),
  (⟨some (84, false), .binOp .add 9 (.tmp 60) (.tmp 83) 9, 9, none, true⟩, []),
  (⟨some (8, true), .assign (.tmp 84), 9, none, true⟩, [])]
theorem ref3_WriteClass_r8_go {K : Env → Heap → Prop} {τ ρ : Env} {h : Heap} : vcDraw Try.prog K ref3_WriteClass_r8 τ ρ h = vcDraw Try.prog K [
  (⟨some (60, false), .move (.tmp 8), 9, none, true⟩, []),
  (⟨some (61, false), .move (.tmp 4), 92, none, true⟩, []),
  (⟨some (62, false), .fieldAddr 43 (.tmp 1) 2, 0, none, true⟩, []),
  (⟨some (63, false), .load 38 (.tmp 62), 38, none, true⟩, []),
  (⟨some (64, false), .convert 38 3 (.tmp 63), 3, none, true⟩, []),
  (⟨some (66, false), .move (.tmp 4), 92, none, true⟩, []),
  (⟨some (67, false), .fieldAddr 43 (.tmp 1) 3, 0, none, true⟩, []),
  (⟨some (68, false), .load 38 (.tmp 67), 38, none, true⟩, []),
  (⟨some (69, false), .convert 38 3 (.tmp 68), 3, none, true⟩, []),
  (⟨some (72, false), .move (.tmp 4), 92, none, true⟩, []),
  (⟨some (73, false), .fieldAddr 43 (.tmp 1) 4, 0, none, true⟩, []),
  (⟨some (74, false), .load 38 (.tmp 73), 38, none, true⟩, []),
  (⟨some (75, false), .convert 38 3 (.tmp 74), 3, none, true⟩, []),
  (⟨some (78, false), .move (.tmp 4), 92, none, true⟩, []),
  (⟨some (79, false), .fieldAddr 43 (.tmp 1) 6, 0, none, true⟩, []),
  (⟨some (80, false), .load 39 (.tmp 79), 39, none, true⟩, []),
  (⟨some (81, false), .call { callee := .builtin .len, args := #[.tmp 80], argTypes := #[39] }, 3, none, true⟩, []),
  (⟨some (65, false), .call { callee := .value (.func 47), args := #[.tmp 61, .tmp 64, .const (.int .i64 2)], argTypes := #[92, 3, 3] }, 9, none, false⟩, [⟨some (67, false), .fieldAddr 43 (.tmp 1) 3, 0, none, true⟩, ⟨some (68, false), .load 38 (.tmp 67), 38, none, true⟩, ⟨some (69, false), .convert 38 3 (.tmp 68), 3, none, true⟩, ⟨some (73, false), .fieldAddr 43 (.tmp 1) 4, 0, none, true⟩, ⟨some (74, false), .load 38 (.tmp 73), 38, none, true⟩, ⟨some (75, false), .convert 38 3 (.tmp 74), 3, none, true⟩, ⟨some (79, false), .fieldAddr 43 (.tmp 1) 6, 0, none, true⟩, ⟨some (80, false), .load 39 (.tmp 79), 39, none, true⟩, ⟨some (81, false), .call { callee := .builtin .len, args := #[.tmp 80], argTypes := #[39] }, 3, none, true⟩]),
  (⟨some (70, false), .call { callee := .value (.func 47), args := #[.tmp 66, .tmp 69, .const (.int .i64 2)], argTypes := #[92, 3, 3] }, 9, none, false⟩, [⟨some (73, false), .fieldAddr 43 (.tmp 1) 4, 0, none, true⟩, ⟨some (74, false), .load 38 (.tmp 73), 38, none, true⟩, ⟨some (75, false), .convert 38 3 (.tmp 74), 3, none, true⟩, ⟨some (79, false), .fieldAddr 43 (.tmp 1) 6, 0, none, true⟩, ⟨some (80, false), .load 39 (.tmp 79), 39, none, true⟩, ⟨some (81, false), .call { callee := .builtin .len, args := #[.tmp 80], argTypes := #[39] }, 3, none, true⟩]),
  (⟨some (71, false), .binOp .add 9 (.tmp 65) (.tmp 70) 9, 9, none, true⟩, []),
  (⟨some (76, false), .call { callee := .value (.func 47), args := #[.tmp 72, .tmp 75, .const (.int .i64 2)], argTypes := #[92, 3, 3] }, 9, none, false⟩, [⟨some (79, false), .fieldAddr 43 (.tmp 1) 6, 0, none, true⟩, ⟨some (80, false), .load 39 (.tmp 79), 39, none, true⟩, ⟨some (81, false), .call { callee := .builtin .len, args := #[.tmp 80], argTypes := #[39] }, 3, none, true⟩, ⟨some (71, false), .binOp .add 9 (.tmp 65) (.tmp 70) 9, 9, none, true⟩]),
  (⟨some (77, false), .binOp .add 9 (.tmp 71) (.tmp 76) 9, 9, none, true⟩, []),
  (⟨some (82, false), .call { callee := .value (.func 47), args := #[.tmp 78, .tmp 81, .const (.int .i64 2)], argTypes := #[92, 3, 3] }, 9, none, false⟩, [⟨some (71, false), .binOp .add 9 (.tmp 65) (.tmp 70) 9, 9, none, true⟩, ⟨some (77, false), .binOp .add 9 (.tmp 71) (.tmp 76) 9, 9, none, true⟩]),
  (⟨some (83, false), .binOp .add 9 (.tmp 77) (.tmp 82) 9, 9, none, true⟩, []),
  (⟨some (84, false), .binOp .add 9 (.tmp 60) (.tmp 83) 9, 9, none, true⟩, []),
  (⟨some (8, true), .assign (.tmp 84), 9, none, true⟩, [])] τ ρ h := _root_.id rfl
def ref3_WriteClass_r9 : List Sop := [
  ⟨some (85, false), .move (.tmp 8), 9, none, true⟩,
  ⟨some (86, false), .convert 9 69 (.tmp 85), 69, none, false⟩,
  ⟨some (9, true), .assign (.tmp 86), 69, none, true⟩]
theorem ref3_WriteClass_r9_go {K : Env → Heap → Prop} {τ ρ : Env} {h : Heap} : vcOps Try.prog K ref3_WriteClass_r9 τ ρ h = vcOps Try.prog K [
  ⟨some (85, false), .move (.tmp 8), 9, none, true⟩,
  ⟨some (86, false), .convert 9 69 (.tmp 85), 69, none, false⟩,
  ⟨some (9, true), .assign (.tmp 86), 69, none, true⟩] τ ρ h := _root_.id rfl
def ref3_WriteClass_r10 : List Sop := [
  ⟨some (87, false), .fieldAddr 43 (.tmp 1) 6, 0, none, true⟩,
  ⟨some (88, true), .load 39 (.tmp 87), 39, none, true⟩,
  ⟨some (89, true), .call { callee := .builtin .len, args := #[.tmp 88], argTypes := #[39] }, 3, none, true⟩,
  ⟨some (90, true), .move (.const (.int .i64 0)), 3, none, true⟩]
theorem ref3_WriteClass_r10_go {K : Env → Heap → Prop} {τ ρ : Env} {h : Heap} : vcOps Try.prog K ref3_WriteClass_r10 τ ρ h = vcOps Try.prog K [
  ⟨some (87, false), .fieldAddr 43 (.tmp 1) 6, 0, none, true⟩,
  ⟨some (88, true), .load 39 (.tmp 87), 39, none, true⟩,
  ⟨some (89, true), .call { callee := .builtin .len, args := #[.tmp 88], argTypes := #[39] }, 3, none, true⟩,
  ⟨some (90, true), .move (.const (.int .i64 0)), 3, none, true⟩] τ ρ h := _root_.id rfl
def ref3_WriteClass_r11 : List Sop := [
  ⟨some (91, true), .binOp .lss 3 (.tmp 90) (.tmp 89) 3, 0, none, true⟩]
theorem ref3_WriteClass_r11_go {K : Env → Heap → Prop} {τ ρ : Env} {h : Heap} : vcOps Try.prog K ref3_WriteClass_r11 τ ρ h = vcOps Try.prog K [
  ⟨some (91, true), .binOp .lss 3 (.tmp 90) (.tmp 89) 3, 0, none, true⟩] τ ρ h := _root_.id rfl
def ref3_WriteClass_r12 : List Sop := [
  ⟨some (92, false), .indexAddr 39 (.tmp 88) (.tmp 90), 0, none, true⟩,
  ⟨some (93, false), .load 38 (.tmp 92), 38, none, true⟩,
  ⟨some (11, true), .assign (.tmp 93), 38, none, true⟩]
theorem ref3_WriteClass_r12_go {K : Env → Heap → Prop} {τ ρ : Env} {h : Heap} : vcOps Try.prog K ref3_WriteClass_r12 τ ρ h = vcOps Try.prog K [
  ⟨some (92, false), .indexAddr 39 (.tmp 88) (.tmp 90), 0, none, true⟩,
  ⟨some (93, false), .load 38 (.tmp 92), 38, none, true⟩,
  ⟨some (11, true), .assign (.tmp 93), 38, none, true⟩] τ ρ h := _root_.id rfl
def ref3_WriteClass_r13 : List Sop := [
  ⟨some (94, false), .move (.tmp 9), 69, none, true⟩,
  ⟨some (95, false), .move (.tmp 4), 92, none, true⟩,
  ⟨some (96, false), .move (.tmp 11), 38, none, true⟩,
  ⟨some (97, false), .convert 38 3 (.tmp 96), 3, none, true⟩,
  ⟨some (98, false), .call { callee := .value (.func 47), args := #[.tmp 95, .tmp 97, .const (.int .i64 2)], argTypes := #[92, 3, 3] }, 9, none, false⟩,
  ⟨some (99, false), .call { callee := .builtin .append, args := #[.tmp 94, .tmp 98], argTypes := #[69, 9] }, 69, none, false⟩,
  ⟨some (9, true), .assign (.tmp 99), 69, none, true⟩]
theorem ref3_WriteClass_r13_go {K : Env → Heap → Prop} {τ ρ : Env} {h : Heap} : vcOps Try.prog K ref3_WriteClass_r13 τ ρ h = vcOps Try.prog K [
  ⟨some (94, false), .move (.tmp 9), 69, none, true⟩,
  ⟨some (95, false), .move (.tmp 4), 92, none, true⟩,
  ⟨some (96, false), .move (.tmp 11), 38, none, true⟩,
  ⟨some (97, false), .convert 38 3 (.tmp 96), 3, none, true⟩,
  ⟨some (98, false), .call { callee := .value (.func 47), args := #[.tmp 95, .tmp 97, .const (.int .i64 2)], argTypes := #[92, 3, 3] }, 9, none, false⟩,
  ⟨some (99, false), .call { callee := .builtin .append, args := #[.tmp 94, .tmp 98], argTypes := #[69, 9] }, 69, none, false⟩,
  ⟨some (9, true), .assign (.tmp 99), 69, none, true⟩] τ ρ h := _root_.id rfl
def ref3_WriteClass_r14 : List Sop := [
  ⟨some (100, false), .binOp .add 3 (.tmp 90) (.const (.int .i64 1)) 3, 3, none, true⟩,
  ⟨some (90, true), .move (.tmp 100), 3, none, true⟩]
theorem ref3_WriteClass_r14_go {K : Env → Heap → Prop} {τ ρ : Env} {h : Heap} : vcOps Try.prog K ref3_WriteClass_r14 τ ρ h = vcOps Try.prog K [
  ⟨some (100, false), .binOp .add 3 (.tmp 90) (.const (.int .i64 1)) 3, 3, none, true⟩,
  ⟨some (90, true), .move (.tmp 100), 3, none, true⟩] τ ρ h := _root_.id rfl
def ref3_WriteClass_r15 : List Sop := [
  ⟨some (101, false), .move (.tmp 9), 69, none, true⟩,
  ⟨some (102, false), .move (.tmp 4), 92, none, true⟩,
  ⟨some (103, false), .fieldAddr 43 (.tmp 1) 7, 0, none, true⟩,
  ⟨some (104, false), .load 40 (.tmp 103), 40, none, true⟩,
  ⟨some (105, false), .call { callee := .builtin .len, args := #[.tmp 104], argTypes := #[40] }, 3, none, true⟩,
  ⟨some (106, false), .call { callee := .value (.func 47), args := #[.tmp 102, .tmp 105, .const (.int .i64 2)], argTypes := #[92, 3, 3] }, 9, none, false⟩,
  ⟨some (107, false), .call { callee := .builtin .append, args := #[.tmp 101, .tmp 106], argTypes := #[69, 9] }, 69, none, false⟩,
  ⟨some (9, true), .assign (.tmp 107), 69, none, true⟩]
theorem ref3_WriteClass_r15_go {K : Env → Heap → Prop} {τ ρ : Env} {h : Heap} : vcOps Try.prog K ref3_WriteClass_r15 τ ρ h = vcOps Try.prog K [
  ⟨some (101, false), .move (.tmp 9), 69, none, true⟩,
  ⟨some (102, false), .move (.tmp 4), 92, none, true⟩,
  ⟨some (103, false), .fieldAddr 43 (.tmp 1) 7, 0, none, true⟩,
  ⟨some (104, false), .load 40 (.tmp 103), 40, none, true⟩,
  ⟨some (105, false), .call { callee := .builtin .len, args := #[.tmp 104], argTypes := #[40] }, 3, none, true⟩,
  ⟨some (106, false), .call { callee := .value (.func 47), args := #[.tmp 102, .tmp 105, .const (.int .i64 2)], argTypes := #[92, 3, 3] }, 9, none, false⟩,
  ⟨some (107, false), .call { callee := .builtin .append, args := #[.tmp 101, .tmp 106], argTypes := #[69, 9] }, 69, none, false⟩,
  ⟨some (9, true), .assign (.tmp 107), 69, none, true⟩] τ ρ h := _root_.id rfl
def ref3_WriteClass_r16 : List Sop := [
  ⟨some (108, false), .fieldAddr 43 (.tmp 1) 7, 0, none, true⟩,
  ⟨some (109, true), .load 40 (.tmp 108), 40, none, true⟩,
  ⟨some (110, true), .call { callee := .builtin .len, args := #[.tmp 109], argTypes := #[40] }, 3, none, true⟩,
  ⟨some (111, true), .move (.const (.int .i64 0)), 3, none, true⟩]
theorem ref3_WriteClass_r16_go {K : Env → Heap → Prop} {τ ρ : Env} {h : Heap} : vcOps Try.prog K ref3_WriteClass_r16 τ ρ h = vcOps Try.prog K [
  ⟨some (108, false), .fieldAddr 43 (.tmp 1) 7, 0, none, true⟩,
  ⟨some (109, true), .load 40 (.tmp 108), 40, none, true⟩,
  ⟨some (110, true), .call { callee := .builtin .len, args := #[.tmp 109], argTypes := #[40] }, 3, none, true⟩,
  ⟨some (111, true), .move (.const (.int .i64 0)), 3, none, true⟩] τ ρ h := _root_.id rfl
def ref3_WriteClass_r17 : List Sop := [
  ⟨some (112, true), .binOp .lss 3 (.tmp 111) (.tmp 110) 3, 0, none, true⟩]
theorem ref3_WriteClass_r17_go {K : Env → Heap → Prop} {τ ρ : Env} {h : Heap} : vcOps Try.prog K ref3_WriteClass_r17 τ ρ h = vcOps Try.prog K [
  ⟨some (112, true), .binOp .lss 3 (.tmp 111) (.tmp 110) 3, 0, none, true⟩] τ ρ h := _root_.id rfl
def ref3_WriteClass_r18 : List Sop := [
  ⟨some (113, false), .indexAddr 40 (.tmp 109) (.tmp 111), 0, none, true⟩,
  ⟨some (114, false), .load 89 (.tmp 113), 89, none, true⟩,
  ⟨some (13, true), .alloc 89, 0, none, false⟩,
  ⟨none, .store 89 (.tmp 13) (.tmp 114), 0, none, false⟩]
theorem ref3_WriteClass_r18_go {K : Env → Heap → Prop} {τ ρ : Env} {h : Heap} : vcOps Try.prog K ref3_WriteClass_r18 τ ρ h = vcOps Try.prog K [
  ⟨some (113, false), .indexAddr 40 (.tmp 109) (.tmp 111), 0, none, true⟩,
  ⟨some (114, false), .load 89 (.tmp 113), 89, none, true⟩,
  ⟨some (13, true), .alloc 89, 0, none, false⟩,
  ⟨none, .store 89 (.tmp 13) (.tmp 114), 0, none, false⟩] τ ρ h := _root_.id rfl
def ref3_WriteClass_r19 : List (Sop × List Sop) := [
  (⟨some (115, false), .move (.tmp 9), 69, none, true⟩, []),
  (⟨some (116, false), .move (.tmp 4), 92, none, true⟩, []),
  (⟨some (117, false), .fieldAddr 89 (.tmp 13) 0, 0, none, true⟩, []),
  (⟨some (118, false), .load 38 (.tmp 117), 38, none, true⟩, []),
  (⟨some (119, false), .convert 38 3 (.tmp 118), 3, none, true⟩, []),
  (⟨some (121, false), .move (.tmp 4), 92, none, true⟩, []),
  (⟨some (122, false), .fieldAddr 89 (.tmp 13) 1, 0, none, true⟩, []),
  (⟨some (123, false), .load 38 (.tmp 122), 38, none, true⟩, []),
  (⟨some (124, false), .convert 38 3 (.tmp 123), 3, none, true⟩, []),
  (⟨some (127, false), .move (.tmp 4), 92, none, true⟩, []),
  (⟨some (128, false), .fieldAddr 89 (.tmp 13) 2, 0, none, true⟩, []),
  (⟨some (129, false), .load 38 (.tmp 128), 38, none, true⟩, []),
  (⟨some (130, false), .convert 38 3 (.tmp 129), 3, none, true⟩, []),
  (⟨some (120, false), .call { callee := .value (.func 47), args := #[.tmp 116, .tmp 119, .const (.int .i64 2)], argTypes := #[92, 3, 3] }, 9, none, false⟩, [⟨some (122, false), .fieldAddr 89 (.tmp 13) 1, 0, none, true⟩, ⟨some (123, false), .load 38 (.tmp 122), 38, none, true⟩, ⟨some (124, false), .convert 38 3 (.tmp 123), 3, none, true⟩, ⟨some (128, false), .fieldAddr 89 (.tmp 13) 2, 0, none, true⟩, ⟨some (129, false), .load 38 (.tmp 128), 38, none, true⟩, ⟨some (130, false), .convert 38 3 (.tmp 129), 3, none, true⟩]),
  (⟨some (125, false), .call { callee := .value (.func 47), args := #[.tmp 121, .tmp 124, .const (.int .i64 2)], argTypes := #[92, 3, 3] }, 9, none, false⟩, [⟨some (128, false), .fieldAddr 89 (.tmp 13) 2, 0, none, true⟩, ⟨some (129, false), .load 38 (.tmp 128), 38, none, true⟩, ⟨some (130, false), .convert 38 3 (.tmp 129), 3, none, true⟩]),
  (⟨some (126, false), .binOp .add 9 (.tmp 120) (.tmp 125) 9, 9, none, true⟩, []),
  (⟨some (131, false), .call { callee := .value (.func 47), args := #[.tmp 127, .tmp 130, .const (.int .i64 2)], argTypes := #[92, 3, 3] }, 9, none, false⟩, [⟨some (126, false), .binOp .add 9 (.tmp 120) (.tmp 125) 9, 9, none, true⟩]),
  (⟨some (132, false), .binOp .add 9 (.tmp 126) (.tmp 131) 9, 9, none, true⟩, []),
  (⟨some (133, false), .call { callee := .builtin .append, args := #[.tmp 115, .tmp 132], argTypes := #[69, 9] }, 69, none, false⟩, []),
  (⟨some (9, true), .assign (.tmp 133), 69, none, true⟩, [])]
theorem ref3_WriteClass_r19_go {K : Env → Heap → Prop} {τ ρ : Env} {h : Heap} : vcDraw Try.prog K ref3_WriteClass_r19 τ ρ h = vcDraw Try.prog K [
  (⟨some (115, false), .move (.tmp 9), 69, none, true⟩, []),
  (⟨some (116, false), .move (.tmp 4), 92, none, true⟩, []),
  (⟨some (117, false), .fieldAddr 89 (.tmp 13) 0, 0, none, true⟩, []),
  (⟨some (118, false), .load 38 (.tmp 117), 38, none, true⟩, []),
  (⟨some (119, false), .convert 38 3 (.tmp 118), 3, none, true⟩, []),
  (⟨some (121, false), .move (.tmp 4), 92, none, true⟩, []),
  (⟨some (122, false), .fieldAddr 89 (.tmp 13) 1, 0, none, true⟩, []),
  (⟨some (123, false), .load 38 (.tmp 122), 38, none, true⟩, []),
  (⟨some (124, false), .convert 38 3 (.tmp 123), 3, none, true⟩, []),
  (⟨some (127, false), .move (.tmp 4), 92, none, true⟩, []),
  (⟨some (128, false), .fieldAddr 89 (.tmp 13) 2, 0, none, true⟩, []),
  (⟨some (129, false), .load 38 (.tmp 128), 38, none, true⟩, []),
  (⟨some (130, false), .convert 38 3 (.tmp 129), 3, none, true⟩, []),
  (⟨some (120, false), .call { callee := .value (.func 47), args := #[.tmp 116, .tmp 119, .const (.int .i64 2)], argTypes := #[92, 3, 3] }, 9, none, false⟩, [⟨some (122, false), .fieldAddr 89 (.tmp 13) 1, 0, none, true⟩, ⟨some (123, false), .load 38 (.tmp 122), 38, none, true⟩, ⟨some (124, false), .convert 38 3 (.tmp 123), 3, none, true⟩, ⟨some (128, false), .fieldAddr 89 (.tmp 13) 2, 0, none, true⟩, ⟨some (129, false), .load 38 (.tmp 128), 38, none, true⟩, ⟨some (130, false), .convert 38 3 (.tmp 129), 3, none, true⟩]),
  (⟨some (125, false), .call { callee := .value (.func 47), args := #[.tmp 121, .tmp 124, .const (.int .i64 2)], argTypes := #[92, 3, 3] }, 9, none, false⟩, [⟨some (128, false), .fieldAddr 89 (.tmp 13) 2, 0, none, true⟩, ⟨some (129, false), .load 38 (.tmp 128), 38, none, true⟩, ⟨some (130, false), .convert 38 3 (.tmp 129), 3, none, true⟩]),
  (⟨some (126, false), .binOp .add 9 (.tmp 120) (.tmp 125) 9, 9, none, true⟩, []),
  (⟨some (131, false), .call { callee := .value (.func 47), args := #[.tmp 127, .tmp 130, .const (.int .i64 2)], argTypes := #[92, 3, 3] }, 9, none, false⟩, [⟨some (126, false), .binOp .add 9 (.tmp 120) (.tmp 125) 9, 9, none, true⟩]),
  (⟨some (132, false), .binOp .add 9 (.tmp 126) (.tmp 131) 9, 9, none, true⟩, []),
  (⟨some (133, false), .call { callee := .builtin .append, args := #[.tmp 115, .tmp 132], argTypes := #[69, 9] }, 69, none, false⟩, []),
  (⟨some (9, true), .assign (.tmp 133), 69, none, true⟩, [])] τ ρ h := _root_.id rfl
def ref3_WriteClass_r20 : List Sop := [
  ⟨some (134, false), .fieldAddr 89 (.tmp 13) 3, 0, none, true⟩,
  ⟨some (135, false), .load 38 (.tmp 134), 38, none, true⟩,
  ⟨some (136, true), .binOp .eql 38 (.tmp 135) (.const (.int .u16 0)) 38, 4, none, true⟩]
theorem ref3_WriteClass_r20_go {K : Env → Heap → Prop} {τ ρ : Env} {h : Heap} : vcOps Try.prog K ref3_WriteClass_r20 τ ρ h = vcOps Try.prog K [
  ⟨some (134, false), .fieldAddr 89 (.tmp 13) 3, 0, none, true⟩,
  ⟨some (135, false), .load 38 (.tmp 134), 38, none, true⟩,
  ⟨some (136, true), .binOp .eql 38 (.tmp 135) (.const (.int .u16 0)) 38, 4, none, true⟩] τ ρ h := _root_.id rfl
def ref3_WriteClass_r21 : List Sop := [
  ⟨some (137, false), .move (.tmp 9), 69, none, true⟩,
  ⟨some (138, false), .call { callee := .builtin .append, args := #[.tmp 137, .const (.string { data := #[0, 0] })], argTypes := #[69, 9] }, 69, none, false⟩,
  ⟨some (9, true), .assign (.tmp 138), 69, none, true⟩]
theorem ref3_WriteClass_r21_go {K : Env → Heap → Prop} {τ ρ : Env} {h : Heap} : vcOps Try.prog K ref3_WriteClass_r21 τ ρ h = vcOps Try.prog K [
  ⟨some (137, false), .move (.tmp 9), 69, none, true⟩,
  ⟨some (138, false), .call { callee := .builtin .append, args := #[.tmp 137, .const (.string { data := #[0, 0] })], argTypes := #[69, 9] }, 69, none, false⟩,
  ⟨some (9, true), .assign (.tmp 138), 69, none, true⟩] τ ρ h := _root_.id rfl
def ref3_WriteClass_r22 : List Sop := [
  ⟨some (139, false), .move (.tmp 9), 69, none, true⟩,
  ⟨some (140, false), .move (.tmp 4), 92, none, true⟩,
  ⟨some (141, false), .move (.tmp 4), 92, none, true⟩,
  ⟨some (142, false), .fieldAddr 89 (.tmp 13) 3, 0, none, true⟩,
  ⟨some (143, false), .load 38 (.tmp 142), 38, none, true⟩,
  ⟨some (144, false), .convert 38 3 (.tmp 143), 3, none, true⟩,
  ⟨some (145, false), .call { callee := .value (.func 47), args := #[.tmp 141, .tmp 144, .const (.int .i64 2)], argTypes := #[92, 3, 3] }, 9, none, false⟩,
  ⟨some (146, false), .call { callee := .value (.func 48), args := #[.tmp 140, .const (.string { data := #[67, 111, 110, 115, 116, 97, 110, 116, 86, 97, 108, 117, 101] }), .tmp 145], argTypes := #[92, 9, 9] }, 9, none, false⟩,
  ⟨some (147, false), .binOp .add 9 (.const (.string { data := #[0, 1] })) (.tmp 146) 9, 9, none, true⟩,
  ⟨some (148, false), .call { callee := .builtin .append, args := #[.tmp 139, .tmp 147], argTypes := #[69, 9] }, 69, none, false⟩,
  ⟨some (9, true), .assign (.tmp 148), 69, none, true⟩]
theorem ref3_WriteClass_r22_go {K : Env → Heap → Prop} {τ ρ : Env} {h : Heap} : vcOps Try.prog K ref3_WriteClass_r22 τ ρ h = vcOps Try.prog K [
  ⟨some (139, false), .move (.tmp 9), 69, none, true⟩,
  ⟨some (140, false), .move (.tmp 4), 92, none, true⟩,
  ⟨some (141, false), .move (.tmp 4), 92, none, true⟩,
  ⟨some (142, false), .fieldAddr 89 (.tmp 13) 3, 0, none, true⟩,
  ⟨some (143, false), .load 38 (.tmp 142), 38, none, true⟩,
  ⟨some (144, false), .convert 38 3 (.tmp 143), 3, none, true⟩,
  ⟨some (145, false), .call { callee := .value (.func 47), args := #[.tmp 141, .tmp 144, .const (.int .i64 2)], argTypes := #[92, 3, 3] }, 9, none, false⟩,
  ⟨some (146, false), .call { callee := .value (.func 48), args := #[.tmp 140, .const (.string { data := #[67, 111, 110, 115, 116, 97, 110, 116, 86, 97, 108, 117, 101] }), .tmp 145], argTypes := #[92, 9, 9] }, 9, none, false⟩,
  ⟨some (147, false), .binOp .add 9 (.const (.string { data := #[0, 1] })) (.tmp 146) 9, 9, none, true⟩,
  ⟨some (148, false), .call { callee := .builtin .append, args := #[.tmp 139, .tmp 147], argTypes := #[69, 9] }, 69, none, false⟩,
  ⟨some (9, true), .assign (.tmp 148), 69, none, true⟩] τ ρ h := _root_.id rfl
def ref3_WriteClass_r23 : List Sop := [
  ⟨some (149, false), .binOp .add 3 (.tmp 111) (.const (.int .i64 1)) 3, 3, none, true⟩,
  ⟨some (111, true), .move (.tmp 149), 3, none, true⟩]
theorem ref3_WriteClass_r23_go {K : Env → Heap → Prop} {τ ρ : Env} {h : Heap} : vcOps Try.prog K ref3_WriteClass_r23 τ ρ h = vcOps Try.prog K [
  ⟨some (149, false), .binOp .add 3 (.tmp 111) (.const (.int .i64 1)) 3, 3, none, true⟩,
  ⟨some (111, true), .move (.tmp 149), 3, none, true⟩] τ ρ h := _root_.id rfl
def ref3_WriteClass_r24 : List Sop := [
  ⟨some (150, false), .move (.tmp 9), 69, none, true⟩,
  ⟨some (151, false), .move (.tmp 4), 92, none, true⟩,
  ⟨some (152, false), .fieldAddr 43 (.tmp 1) 8, 0, none, true⟩,
  ⟨some (153, false), .load 41 (.tmp 152), 41, none, true⟩,
  ⟨some (154, false), .call { callee := .builtin .len, args := #[.tmp 153], argTypes := #[41] }, 3, none, true⟩,
  ⟨some (155, false), .call { callee := .value (.func 47), args := #[.tmp 151, .tmp 154, .const (.int .i64 2)], argTypes := #[92, 3, 3] }, 9, none, false⟩,
  ⟨some (156, false), .call { callee := .builtin .append, args := #[.tmp 150, .tmp 155], argTypes := #[69, 9] }, 69, none, false⟩,
  ⟨some (9, true), .assign (.tmp 156), 69, none, true⟩]
theorem ref3_WriteClass_r24_go {K : Env → Heap → Prop} {τ ρ : Env} {h : Heap} : vcOps Try.prog K ref3_WriteClass_r24 τ ρ h = vcOps Try.prog K [
  ⟨some (150, false), .move (.tmp 9), 69, none, true⟩,
  ⟨some (151, false), .move (.tmp 4), 92, none, true⟩,
  ⟨some (152, false), .fieldAddr 43 (.tmp 1) 8, 0, none, true⟩,
  ⟨some (153, false), .load 41 (.tmp 152), 41, none, true⟩,
  ⟨some (154, false), .call { callee := .builtin .len, args := #[.tmp 153], argTypes := #[41] }, 3, none, true⟩,
  ⟨some (155, false), .call { callee := .value (.func 47), args := #[.tmp 151, .tmp 154, .const (.int .i64 2)], argTypes := #[92, 3, 3] }, 9, none, false⟩,
  ⟨some (156, false), .call { callee := .builtin .append, args := #[.tmp 150, .tmp 155], argTypes := #[69, 9] }, 69, none, false⟩,
  ⟨some (9, true), .assign (.tmp 156), 69, none, true⟩] τ ρ h := _root_.id rfl
def ref3_WriteClass_r25 : List Sop := [
  ⟨some (157, false), .fieldAddr 43 (.tmp 1) 8, 0, none, true⟩,
  ⟨some (158, true), .load 41 (.tmp 157), 41, none, true⟩,
  ⟨some (159, true), .call { callee := .builtin .len, args := #[.tmp 158], argTypes := #[41] }, 3, none, true⟩,
  ⟨some (160, true), .move (.const (.int .i64 0)), 3, none, true⟩]
theorem ref3_WriteClass_r25_go {K : Env → Heap → Prop} {τ ρ : Env} {h : Heap} : vcOps Try.prog K ref3_WriteClass_r25 τ ρ h = vcOps Try.prog K [
  ⟨some (157, false), .fieldAddr 43 (.tmp 1) 8, 0, none, true⟩,
  ⟨some (158, true), .load 41 (.tmp 157), 41, none, true⟩,
  ⟨some (159, true), .call { callee := .builtin .len, args := #[.tmp 158], argTypes := #[41] }, 3, none, true⟩,
  ⟨some (160, true), .move (.const (.int .i64 0)), 3, none, true⟩] τ ρ h := _root_.id rfl
def ref3_WriteClass_r26 : List Sop := [
  ⟨some (161, true), .binOp .lss 3 (.tmp 160) (.tmp 159) 3, 0, none, true⟩]
theorem ref3_WriteClass_r26_go {K : Env → Heap → Prop} {τ ρ : Env} {h : Heap} : vcOps Try.prog K ref3_WriteClass_r26 τ ρ h = vcOps Try.prog K [
  ⟨some (161, true), .binOp .lss 3 (.tmp 160) (.tmp 159) 3, 0, none, true⟩] τ ρ h := _root_.id rfl
def ref3_WriteClass_r27 : List Sop := [
  ⟨some (162, false), .indexAddr 41 (.tmp 158) (.tmp 160), 0, none, true⟩,
  ⟨some (163, false), .load 81 (.tmp 162), 81, none, true⟩,
  ⟨some (15, true), .alloc 81, 0, none, false⟩,
  ⟨none, .store 81 (.tmp 15) (.tmp 163), 0, none, false⟩]
theorem ref3_WriteClass_r27_go {K : Env → Heap → Prop} {τ ρ : Env} {h : Heap} : vcOps Try.prog K ref3_WriteClass_r27 τ ρ h = vcOps Try.prog K [
  ⟨some (162, false), .indexAddr 41 (.tmp 158) (.tmp 160), 0, none, true⟩,
  ⟨some (163, false), .load 81 (.tmp 162), 81, none, true⟩,
  ⟨some (15, true), .alloc 81, 0, none, false⟩,
  ⟨none, .store 81 (.tmp 15) (.tmp 163), 0, none, false⟩] τ ρ h := _root_.id rfl
def ref3_WriteClass_r28 : List (Sop × List Sop) := [
  (⟨some (164, false), .move (.tmp 9), 69, none, true⟩, []),
  (⟨some (165, false), .move (.tmp 4), 92, none, true⟩, []),
  (⟨some (166, false), .fieldAddr 81 (.tmp 15) 0, 0, none, true⟩, []),
  (⟨some (167, false), .load 38 (.tmp 166), 38, none, true⟩, []),
  (⟨some (168, false), .convert 38 3 (.tmp 167), 3, none, true⟩, []),
  (⟨some (170, false), .move (.tmp 4), 92, none, true⟩, []),
  (⟨some (171, false), .fieldAddr 81 (.tmp 15) 1, 0, none, true⟩, []),
  (⟨some (172, false), .load 38 (.tmp 171), 38, none, true⟩, []),
  (⟨some (173, false), .convert 38 3 (.tmp 172), 3, none, true⟩, []),
  (⟨some (176, false), .move (.tmp 4), 92, none, true⟩, []),
  (⟨some (177, false), .fieldAddr 81 (.tmp 15) 2, 0, none, true⟩, []),
  (⟨some (178, false), .load 38 (.tmp 177), 38, none, true⟩, []),
  (⟨some (179, false), .convert 38 3 (.tmp 178), 3, none, true⟩, []),
  (⟨some (169, false), .call { callee := .value (.func 47), args := #[.tmp 165, .tmp 168, .const (.int .i64 2)], argTypes := #[92, 3, 3] }, 9, none, false⟩, [⟨some (171, false), .fieldAddr 81 (.tmp 15) 1, 0, none, true⟩, ⟨some (172, false), .load 38 (.tmp 171), 38, none, true⟩, ⟨some (173, false), .convert 38 3 (.tmp 172), 3, none, true⟩, ⟨some (177, false), .fieldAddr 81 (.tmp 15) 2, 0, none, true⟩, ⟨some (178, false), .load 38 (.tmp 177), 38, none, true⟩, ⟨some (179, false), .convert 38 3 (.tmp 178), 3, none, true⟩]),
  (⟨some (174, false), .call { callee := .value (.func 47), args := #[.tmp 170, .tmp 173, .const (.int .i64 2)], argTypes := #[92, 3, 3] }, 9, none, false⟩, [⟨some (177, false), .fieldAddr 81 (.tmp 15) 2, 0, none, true⟩, ⟨some (178, false), .load 38 (.tmp 177), 38, none, true⟩, ⟨some (179, false), .convert 38 3 (.tmp 178), 3, none, true⟩]),
  (⟨some (175, false), .binOp .add 9 (.tmp 169) (.tmp 174) 9, 9, none, true⟩, []),
  (⟨some (180, false), .call { callee := .value (.func 47), args := #[.tmp 176, .tmp 179, .const (.int .i64 2)], argTypes := #[92, 3, 3] }, 9, none, false⟩, [⟨some (175, false), .binOp .add 9 (.tmp 169) (.tmp 174) 9, 9, none, true⟩]),
  (⟨some (181, false), .binOp .add 9 (.tmp 175) (.tmp 180) 9, 9, none, true⟩, []),
  (⟨some (182, false), .call { callee := .builtin .append, args := #[.tmp 164, .tmp 181], argTypes := #[69, 9] }, 69, none, false⟩, []),
  (⟨some (9, true), .assign (.tmp 182), 69, none, true⟩, [])]
theorem ref3_WriteClass_r28_go {K : Env → Heap → Prop} {τ ρ : Env} {h : Heap} : vcDraw Try.prog K ref3_WriteClass_r28 τ ρ h = vcDraw Try.prog K [
  (⟨some (164, false), .move (.tmp 9), 69, none, true⟩, []),
  (⟨some (165, false), .move (.tmp 4), 92, none, true⟩, []),
  (⟨some (166, false), .fieldAddr 81 (.tmp 15) 0, 0, none, true⟩, []),
  (⟨some (167, false), .load 38 (.tmp 166), 38, none, true⟩, []),
  (⟨some (168, false), .convert 38 3 (.tmp 167), 3, none, true⟩, []),
  (⟨some (170, false), .move (.tmp 4), 92, none, true⟩, []),
  (⟨some (171, false), .fieldAddr 81 (.tmp 15) 1, 0, none, true⟩, []),
  (⟨some (172, false), .load 38 (.tmp 171), 38, none, true⟩, []),
  (⟨some (173, false), .convert 38 3 (.tmp 172), 3, none, true⟩, []),
  (⟨some (176, false), .move (.tmp 4), 92, none, true⟩, []),
  (⟨some (177, false), .fieldAddr 81 (.tmp 15) 2, 0, none, true⟩, []),
  (⟨some (178, false), .load 38 (.tmp 177), 38, none, true⟩, []),
  (⟨some (179, false), .convert 38 3 (.tmp 178), 3, none, true⟩, []),
  (⟨some (169, false), .call { callee := .value (.func 47), args := #[.tmp 165, .tmp 168, .const (.int .i64 2)], argTypes := #[92, 3, 3] }, 9, none, false⟩, [⟨some (171, false), .fieldAddr 81 (.tmp 15) 1, 0, none, true⟩, ⟨some (172, false), .load 38 (.tmp 171), 38, none, true⟩, ⟨some (173, false), .convert 38 3 (.tmp 172), 3, none, true⟩, ⟨some (177, false), .fieldAddr 81 (.tmp 15) 2, 0, none, true⟩, ⟨some (178, false), .load 38 (.tmp 177), 38, none, true⟩, ⟨some (179, false), .convert 38 3 (.tmp 178), 3, none, true⟩]),
  (⟨some (174, false), .call { callee := .value (.func 47), args := #[.tmp 170, .tmp 173, .const (.int .i64 2)], argTypes := #[92, 3, 3] }, 9, none, false⟩, [⟨some (177, false), .fieldAddr 81 (.tmp 15) 2, 0, none, true⟩, ⟨some (178, false), .load 38 (.tmp 177), 38, none, true⟩, ⟨some (179, false), .convert 38 3 (.tmp 178), 3, none, true⟩]),
  (⟨some (175, false), .binOp .add 9 (.tmp 169) (.tmp 174) 9, 9, none, true⟩, []),
  (⟨some (180, false), .call { callee := .value (.func 47), args := #[.tmp 176, .tmp 179, .const (.int .i64 2)], argTypes := #[92, 3, 3] }, 9, none, false⟩, [⟨some (175, false), .binOp .add 9 (.tmp 169) (.tmp 174) 9, 9, none, true⟩]),
  (⟨some (181, false), .binOp .add 9 (.tmp 175) (.tmp 180) 9, 9, none, true⟩, []),
  (⟨some (182, false), .call { callee := .builtin .append, args := #[.tmp 164, .tmp 181], argTypes := #[69, 9] }, 69, none, false⟩, []),
  (⟨some (9, true), .assign (.tmp 182), 69, none, true⟩, [])] τ ρ h := _root_.id rfl
def ref3_WriteClass_r29 : List Sop := [
  ⟨some (183, false), .fieldAddr 81 (.tmp 15) 3, 0, none, true⟩,
  ⟨some (184, false), .load 4 (.tmp 183), 4, none, true⟩,
  ⟨some (185, true), .unOp .not 4 (.tmp 184), 4, none, true⟩]
theorem ref3_WriteClass_r29_go {K : Env → Heap → Prop} {τ ρ : Env} {h : Heap} : vcOps Try.prog K ref3_WriteClass_r29 τ ρ h = vcOps Try.prog K [
  ⟨some (183, false), .fieldAddr 81 (.tmp 15) 3, 0, none, true⟩,
  ⟨some (184, false), .load 4 (.tmp 183), 4, none, true⟩,
  ⟨some (185, true), .unOp .not 4 (.tmp 184), 4, none, true⟩] τ ρ h := _root_.id rfl
def ref3_WriteClass_r30 : List Sop := [
  ⟨some (186, false), .move (.tmp 9), 69, none, true⟩,
  ⟨some (187, false), .call { callee := .builtin .append, args := #[.tmp 186, .const (.string { data := #[0, 0] })], argTypes := #[69, 9] }, 69, none, false⟩,
  ⟨some (9, true), .assign (.tmp 187), 69, none, true⟩]
theorem ref3_WriteClass_r30_go {K : Env → Heap → Prop} {τ ρ : Env} {h : Heap} : vcOps Try.prog K ref3_WriteClass_r30 τ ρ h = vcOps Try.prog K [
  ⟨some (186, false), .move (.tmp 9), 69, none, true⟩,
  ⟨some (187, false), .call { callee := .builtin .append, args := #[.tmp 186, .const (.string { data := #[0, 0] })], argTypes := #[69, 9] }, 69, none, false⟩,
  ⟨some (9, true), .assign (.tmp 187), 69, none, true⟩] τ ρ h := _root_.id rfl
def ref3_WriteClass_r31 : List Sop := [
  ⟨some (188, false), .move (.tmp 9), 69, none, true⟩,
  ⟨some (189, false), .move (.tmp 4), 92, none, true⟩,
  ⟨some (190, false), .fieldAddr 81 (.tmp 15) 4, 0, none, true⟩,
  ⟨some (191, false), .load 79 (.tmp 190), 79, none, true⟩,
  ⟨some (192, false), .call { callee := .value (.func 49), args := #[.tmp 189, .tmp 191], argTypes := #[92, 79] }, 9, none, false⟩,
  ⟨some (193, false), .binOp .add 9 (.const (.string { data := #[0, 1] })) (.tmp 192) 9, 9, none, true⟩,
  ⟨some (194, false), .call { callee := .builtin .append, args := #[.tmp 188, .tmp 193], argTypes := #[69, 9] }, 69, none, false⟩,
  ⟨some (9, true), .assign (.tmp 194), 69, none, true⟩]
theorem ref3_WriteClass_r31_go {K : Env → Heap → Prop} {τ ρ : Env} {h : Heap} : vcOps Try.prog K ref3_WriteClass_r31 τ ρ h = vcOps Try.prog K [
  ⟨some (188, false), .move (.tmp 9), 69, none, true⟩,
  ⟨some (189, false), .move (.tmp 4), 92, none, true⟩,
  ⟨some (190, false), .fieldAddr 81 (.tmp 15) 4, 0, none, true⟩,
  ⟨some (191, false), .load 79 (.tmp 190), 79, none, true⟩,
  ⟨some (192, false), .call { callee := .value (.func 49), args := #[.tmp 189, .tmp 191], argTypes := #[92, 79] }, 9, none, false⟩,
  ⟨some (193, false), .binOp .add 9 (.const (.string { data := #[0, 1] })) (.tmp 192) 9, 9, none, true⟩,
  ⟨some (194, false), .call { callee := .builtin .append, args := #[.tmp 188, .tmp 193], argTypes := #[69, 9] }, 69, none, false⟩,
  ⟨some (9, true), .assign (.tmp 194), 69, none, true⟩] τ ρ h := _root_.id rfl
def ref3_WriteClass_r32 : List Sop := [
  ⟨some (195, false), .binOp .add 3 (.tmp 160) (.const (.int .i64 1)) 3, 3, none, true⟩,
  ⟨some (160, true), .move (.tmp 195), 3, none, true⟩]
theorem ref3_WriteClass_r32_go {K : Env → Heap → Prop} {τ ρ : Env} {h : Heap} : vcOps Try.prog K ref3_WriteClass_r32 τ ρ h = vcOps Try.prog K [
  ⟨some (195, false), .binOp .add 3 (.tmp 160) (.const (.int .i64 1)) 3, 3, none, true⟩,
  ⟨some (160, true), .move (.tmp 195), 3, none, true⟩] τ ρ h := _root_.id rfl
def ref3_WriteClass_r33 : List Sop := [
  ⟨some (196, false), .move (.tmp 9), 69, none, true⟩,
  ⟨some (197, false), .call { callee := .builtin .append, args := #[.tmp 196, .const (.string { data := #[0, 0] })], argTypes := #[69, 9] }, 69, none, false⟩,
  ⟨some (9, true), .assign (.tmp 197), 69, none, true⟩]
theorem ref3_WriteClass_r33_go {K : Env → Heap → Prop} {τ ρ : Env} {h : Heap} : vcOps Try.prog K ref3_WriteClass_r33 τ ρ h = vcOps Try.prog K [
  ⟨some (196, false), .move (.tmp 9), 69, none, true⟩,
  ⟨some (197, false), .call { callee := .builtin .append, args := #[.tmp 196, .const (.string { data := #[0, 0] })], argTypes := #[69, 9] }, 69, none, false⟩,
  ⟨some (9, true), .assign (.tmp 197), 69, none, true⟩] τ ρ h := _root_.id rfl
def ref3_WriteClass_r34 : List Sop := [
  ⟨some (198, false), .move (.tmp 4), 92, none, true⟩,
  ⟨some (199, false), .nilCheck (.tmp 198), 0, none, true⟩,
  ⟨some (200, false), .fieldAddr 94 (.tmp 199) 1, 0, none, true⟩,
  ⟨some (201, false), .load 27 (.tmp 200), 27, none, true⟩,
  ⟨some (202, true), .binOp .neq 27 (.tmp 201) (.const (.int .i64 0)) 27, 4, none, true⟩]
theorem ref3_WriteClass_r34_go {K : Env → Heap → Prop} {τ ρ : Env} {h : Heap} : vcOps Try.prog K ref3_WriteClass_r34 τ ρ h = vcOps Try.prog K [
  ⟨some (198, false), .move (.tmp 4), 92, none, true⟩,
  ⟨some (199, false), .nilCheck (.tmp 198), 0, none, true⟩,
  ⟨some (200, false), .fieldAddr 94 (.tmp 199) 1, 0, none, true⟩,
  ⟨some (201, false), .load 27 (.tmp 200), 27, none, true⟩,
  ⟨some (202, true), .binOp .neq 27 (.tmp 201) (.const (.int .i64 0)) 27, 4, none, true⟩] τ ρ h := _root_.id rfl
def ref3_WriteClass_r35 : List (Sop × List Sop) := [
  (⟨some (203, false), .move (.tmp 4), 92, none, true⟩, []),
  (⟨some (204, false), .nilCheck (.tmp 203), 0, none, true⟩, []),
  (⟨some (205, false), .fieldAddr 94 (.tmp 204) 1, 0, none, true⟩, []),
  (⟨some (206, false), .load 27 (.tmp 205), 27, none, true⟩, []),
  (⟨some (2, true), .assign (.const (.string { data := #[] })), 9, none, true⟩, []),
  (⟨some (3, true), .assign (.tmp 206), 27, none, true⟩, [])]
theorem ref3_WriteClass_r35_go {K : Env → Heap → Prop} {τ ρ : Env} {h : Heap} : vcDraw Try.prog K ref3_WriteClass_r35 τ ρ h = vcDraw Try.prog K [
  (⟨some (203, false), .move (.tmp 4), 92, none, true⟩, []),
  (⟨some (204, false), .nilCheck (.tmp 203), 0, none, true⟩, []),
  (⟨some (205, false), .fieldAddr 94 (.tmp 204) 1, 0, none, true⟩, []),
  (⟨some (206, false), .load 27 (.tmp 205), 27, none, true⟩, []),
  (⟨some (2, true), .assign (.const (.string { data := #[] })), 9, none, true⟩, []),
  (⟨some (3, true), .assign (.tmp 206), 27, none, true⟩, [])] τ ρ h := _root_.id rfl
def ref3_WriteClass_r36 : List Sop := [
  ⟨some (207, false), .move (.tmp 9), 69, none, true⟩,
  ⟨some (208, false), .convert 69 9 (.tmp 207), 9, none, true⟩,
  ⟨some (2, true), .assign (.tmp 208), 9, none, true⟩,
  ⟨some (3, true), .assign (.const (.int .i64 0)), 27, none, true⟩]
theorem ref3_WriteClass_r36_go {K : Env → Heap → Prop} {τ ρ : Env} {h : Heap} : vcOps Try.prog K ref3_WriteClass_r36 τ ρ h = vcOps Try.prog K [
  ⟨some (207, false), .move (.tmp 9), 69, none, true⟩,
  ⟨some (208, false), .convert 69 9 (.tmp 207), 9, none, true⟩,
  ⟨some (2, true), .assign (.tmp 208), 9, none, true⟩,
  ⟨some (3, true), .assign (.const (.int .i64 0)), 27, none, true⟩] τ ρ h := _root_.id rfl
def ref3_WriteClass_l0 : Cd := .seq (.region ref3_WriteClass_r11) (.seq (.cond (.tmp 91) (.skip) (.exit 0)) (.seq (.block 1 (.seq (.region ref3_WriteClass_r12) (.region ref3_WriteClass_r13))) (.region ref3_WriteClass_r14)))
theorem ref3_WriteClass_l0_go {Q : Ex → Env → Heap → Prop} {ρ : Env} {h : Heap} : Cd.vc Try.prog ref3_WriteClass_l0 Q ρ h = Cd.vc Try.prog (.seq (.region ref3_WriteClass_r11) (.seq (.cond (.tmp 91) (.skip) (.exit 0)) (.seq (.block 1 (.seq (.region ref3_WriteClass_r12) (.region ref3_WriteClass_r13))) (.region ref3_WriteClass_r14)))) Q ρ h := _root_.id rfl
def ref3_WriteClass_l1 : Cd := .seq (.region ref3_WriteClass_r17) (.seq (.cond (.tmp 112) (.skip) (.exit 2)) (.seq (.block 3 (.seq (.region ref3_WriteClass_r18) (.seq (.draw ref3_WriteClass_r19) (.seq (.region ref3_WriteClass_r20) (.cond (.tmp 136) (.region ref3_WriteClass_r21) (.region ref3_WriteClass_r22)))))) (.region ref3_WriteClass_r23)))
theorem ref3_WriteClass_l1_go {Q : Ex → Env → Heap → Prop} {ρ : Env} {h : Heap} : Cd.vc Try.prog ref3_WriteClass_l1 Q ρ h = Cd.vc Try.prog (.seq (.region ref3_WriteClass_r17) (.seq (.cond (.tmp 112) (.skip) (.exit 2)) (.seq (.block 3 (.seq (.region ref3_WriteClass_r18) (.seq (.draw ref3_WriteClass_r19) (.seq (.region ref3_WriteClass_r20) (.cond (.tmp 136) (.region ref3_WriteClass_r21) (.region ref3_WriteClass_r22)))))) (.region ref3_WriteClass_r23)))) Q ρ h := _root_.id rfl
def ref3_WriteClass_l2 : Cd := .seq (.region ref3_WriteClass_r26) (.seq (.cond (.tmp 161) (.skip) (.exit 4)) (.seq (.block 5 (.seq (.region ref3_WriteClass_r27) (.seq (.draw ref3_WriteClass_r28) (.seq (.region ref3_WriteClass_r29) (.cond (.tmp 185) (.region ref3_WriteClass_r30) (.region ref3_WriteClass_r31)))))) (.region ref3_WriteClass_r32)))
theorem ref3_WriteClass_l2_go {Q : Ex → Env → Heap → Prop} {ρ : Env} {h : Heap} : Cd.vc Try.prog ref3_WriteClass_l2 Q ρ h = Cd.vc Try.prog (.seq (.region ref3_WriteClass_r26) (.seq (.cond (.tmp 161) (.skip) (.exit 4)) (.seq (.block 5 (.seq (.region ref3_WriteClass_r27) (.seq (.draw ref3_WriteClass_r28) (.seq (.region ref3_WriteClass_r29) (.cond (.tmp 185) (.region ref3_WriteClass_r30) (.region ref3_WriteClass_r31)))))) (.region ref3_WriteClass_r32)))) Q ρ h := _root_.id rfl
def ref3_WriteClass_t0 : Cd := .seq (.draw ref3_WriteClass_r7) (.seq (.draw ref3_WriteClass_r8) (.seq (.region ref3_WriteClass_r9) (.seq (.seq (.region ref3_WriteClass_r10) (.block 0 (.loop ref3_WriteClass_l0))) (.seq (.region ref3_WriteClass_r15) (.seq (.seq (.region ref3_WriteClass_r16) (.block 2 (.loop ref3_WriteClass_l1))) (.seq (.region ref3_WriteClass_r24) (.seq (.seq (.region ref3_WriteClass_r25) (.block 4 (.loop ref3_WriteClass_l2))) (.seq (.region ref3_WriteClass_r33) (.seq (.seq (.region ref3_WriteClass_r34) (.cond (.tmp 202) (.seq (.draw ref3_WriteClass_r35) (.ret)) (.skip))) (.seq (.region ref3_WriteClass_r36) (.ret)))))))))))
theorem ref3_WriteClass_t0_go {Q : Ex → Env → Heap → Prop} {ρ : Env} {h : Heap} : Cd.vc Try.prog ref3_WriteClass_t0 Q ρ h = Cd.vc Try.prog (.seq (.draw ref3_WriteClass_r7) (.seq (.draw ref3_WriteClass_r8) (.seq (.region ref3_WriteClass_r9) (.seq (.seq (.region ref3_WriteClass_r10) (.block 0 (.loop ref3_WriteClass_l0))) (.seq (.region ref3_WriteClass_r15) (.seq (.seq (.region ref3_WriteClass_r16) (.block 2 (.loop ref3_WriteClass_l1))) (.seq (.region ref3_WriteClass_r24) (.seq (.seq (.region ref3_WriteClass_r25) (.block 4 (.loop ref3_WriteClass_l2))) (.seq (.region ref3_WriteClass_r33) (.seq (.seq (.region ref3_WriteClass_r34) (.cond (.tmp 202) (.seq (.draw ref3_WriteClass_r35) (.ret)) (.skip))) (.seq (.region ref3_WriteClass_r36) (.ret)))))))))))) Q ρ h := _root_.id rfl
def ref3_WriteClass_t1 : Cd := .seq (.region ref3_WriteClass_r4) (.seq (.seq (.region ref3_WriteClass_r5) (.cond (.tmp 42) (.region ref3_WriteClass_r6) (.skip))) (ref3_WriteClass_t0))
theorem ref3_WriteClass_t1_go {Q : Ex → Env → Heap → Prop} {ρ : Env} {h : Heap} : Cd.vc Try.prog ref3_WriteClass_t1 Q ρ h = Cd.vc Try.prog (.seq (.region ref3_WriteClass_r4) (.seq (.seq (.region ref3_WriteClass_r5) (.cond (.tmp 42) (.region ref3_WriteClass_r6) (.skip))) (ref3_WriteClass_t0))) Q ρ h := _root_.id rfl
def ref3_WriteClass : Cd := .seq (.region ref3_WriteClass_r0) (.seq (.region ref3_WriteClass_r1) (.seq (.seq (.region ref3_WriteClass_r2) (.cond (.tmp 31) (.region ref3_WriteClass_r3) (.skip))) (ref3_WriteClass_t1)))
theorem ref3_WriteClass_go {Q : Ex → Env → Heap → Prop} {ρ : Env} {h : Heap} : Cd.vc Try.prog ref3_WriteClass Q ρ h = Cd.vc Try.prog (.seq (.region ref3_WriteClass_r0) (.seq (.region ref3_WriteClass_r1) (.seq (.seq (.region ref3_WriteClass_r2) (.cond (.tmp 31) (.region ref3_WriteClass_r3) (.skip))) (ref3_WriteClass_t1)))) Q ρ h := _root_.id rfl
theorem ref3_WriteClass_calls {args : List Value} {h : Heap} {R : Value → Heap → Prop} (hl : args.length = 1) (hv : Cd.vc Try.prog ref3_WriteClass (retQ Try.prog [(2, none), (3, none)] R) (initEnv args [0, 1, 2, 3, 4, 5, 6, 8, 9, 11, 13, 15, 31, 42, 88, 89, 90, 91, 109, 110, 111, 112, 136, 158, 159, 160, 161, 185, 202]) h) : HCalls Try.prog 17 args.toArray h R :=
  hcalls_of_vc (by kernel_rfl) Try.func17 (cd := ref3_WriteClass) (L := [0, 1, 2, 3, 4, 5, 6, 8, 9, 11, 13, 15, 31, 42, 88, 89, 90, 91, 109, 110, 111, 112, 136, 158, 159, 160, 161, 185, 202]) (by kernel_rfl) (by kernel_rfl) ⟨by rw [hl, Try.ntmps17]; decide, by rw [Try.ntmps17]; decide⟩ hv
def ref3_WriteClass_gos := And.intro @ref3_WriteClass_go (And.intro @ref3_WriteClass_r0_go (And.intro @ref3_WriteClass_r1_go (And.intro @ref3_WriteClass_r2_go (And.intro @ref3_WriteClass_r3_go (And.intro @ref3_WriteClass_r4_go (And.intro @ref3_WriteClass_r5_go (And.intro @ref3_WriteClass_r6_go (And.intro @ref3_WriteClass_r7_go (And.intro @ref3_WriteClass_r8_go (And.intro @ref3_WriteClass_r9_go (And.intro @ref3_WriteClass_r10_go (And.intro @ref3_WriteClass_r11_go (And.intro @ref3_WriteClass_r12_go (And.intro @ref3_WriteClass_r13_go (And.intro @ref3_WriteClass_r14_go (And.intro @ref3_WriteClass_r15_go (And.intro @ref3_WriteClass_r16_go (And.intro @ref3_WriteClass_r17_go (And.intro @ref3_WriteClass_r18_go (And.intro @ref3_WriteClass_r19_go (And.intro @ref3_WriteClass_r20_go (And.intro @ref3_WriteClass_r21_go (And.intro @ref3_WriteClass_r22_go (And.intro @ref3_WriteClass_r23_go (And.intro @ref3_WriteClass_r24_go (And.intro @ref3_WriteClass_r25_go (And.intro @ref3_WriteClass_r26_go (And.intro @ref3_WriteClass_r27_go (And.intro @ref3_WriteClass_r28_go (And.intro @ref3_WriteClass_r29_go (And.intro @ref3_WriteClass_r30_go (And.intro @ref3_WriteClass_r31_go (And.intro @ref3_WriteClass_r32_go (And.intro @ref3_WriteClass_r33_go (And.intro @ref3_WriteClass_r34_go (And.intro @ref3_WriteClass_r35_go (And.intro @ref3_WriteClass_r36_go (And.intro @ref3_WriteClass_l0_go (And.intro @ref3_WriteClass_l1_go (@ref3_WriteClass_l2_go))))))))))))))))))))))))))))))))))))))))

end Go.Proofs.Ytohkbpnblkkdgaa.C
