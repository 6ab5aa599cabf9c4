/- The stripped code of some functions of this seat's program, printed by a program; that it is that code is proved by the kernel. No condition. -/

import Derived.Test.YtohkbpnblkkdgaaProg

import Derived.Test.YtohkbpnblkkdgaaVcH

set_option maxRecDepth 100000

set_option linter.defProp false

namespace Go.Proofs.Ytohkbpnblkkdgaa.C

open Go.Vc

/-! jvmcore/jvmcoreref1.Num: function 67: slots [0, 2, 3, 4, 8] -/
def ref1_Num_r0 : List Sop := [
  ⟨some (2, true), .assign (.const (.int .u64 0)), 74, none, true⟩]
theorem ref1_Num_r0_go {K : Env → Heap → Prop} {τ ρ : Env} {h : Heap} : vcOps Try.prog K ref1_Num_r0 τ ρ h = vcOps Try.prog K [
  ⟨some (2, true), .assign (.const (.int .u64 0)), 74, none, true⟩] τ ρ h := _root_.id rfl
def ref1_Num_r1 : List Sop := [
  ⟨some (3, true), .assign (.const (.int .u64 0)), 74, none, true⟩]
theorem ref1_Num_r1_go {K : Env → Heap → Prop} {τ ρ : Env} {h : Heap} : vcOps Try.prog K ref1_Num_r1 τ ρ h = vcOps Try.prog K [
  ⟨some (3, true), .assign (.const (.int .u64 0)), 74, none, true⟩] τ ρ h := _root_.id rfl
def ref1_Num_r2 : List Sop := [
  ⟨some (4, true), .assign (.const (.int .i64 0)), 3, none, true⟩]
theorem ref1_Num_r2_go {K : Env → Heap → Prop} {τ ρ : Env} {h : Heap} : vcOps Try.prog K ref1_Num_r2 τ ρ h = vcOps Try.prog K [
  ⟨some (4, true), .assign (.const (.int .i64 0)), 3, none, true⟩] τ ρ h := _root_.id rfl
def ref1_Num_r3 : List Sop := [
  ⟨some (5, false), .move (.tmp 4), 3, none, true⟩,
  ⟨some (6, false), .move (.tmp 0), 9, none, true⟩,
  ⟨some (7, false), .call { callee := .builtin .len, args := #[.tmp 6], argTypes := #[9] }, 3, none, true⟩,
  ⟨some (8, true), .binOp .lss 3 (.tmp 5) (.tmp 7) 3, 4, none, true⟩]
theorem ref1_Num_r3_go {K : Env → Heap → Prop} {τ ρ : Env} {h : Heap} : vcOps Try.prog K ref1_Num_r3 τ ρ h = vcOps Try.prog K [
  ⟨some (5, false), .move (.tmp 4), 3, none, true⟩,
  ⟨some (6, false), .move (.tmp 0), 9, none, true⟩,
  ⟨some (7, false), .call { callee := .builtin .len, args := #[.tmp 6], argTypes := #[9] }, 3, none, true⟩,
  ⟨some (8, true), .binOp .lss 3 (.tmp 5) (.tmp 7) 3, 4, none, true⟩] τ ρ h := _root_.id rfl
def ref1_Num_r4 : List Sop := [
  ⟨some (11, false), .move (.tmp 3), 74, none, true⟩,
  ⟨some (12, false), .binOp .mul 74 (.tmp 11) (.const (.int .u64 256)) 74, 74, none, true⟩,
  ⟨some (13, false), .move (.tmp 0), 9, none, true⟩,
  ⟨some (14, false), .move (.tmp 4), 3, none, true⟩,
  ⟨some (15, false), .index 9 (.tmp 13) (.tmp 14), 5, none, true⟩,
  ⟨some (16, false), .convert 5 74 (.tmp 15), 74, none, true⟩,
  ⟨some (17, false), .binOp .add 74 (.tmp 12) (.tmp 16) 74, 74, none, true⟩,
  ⟨some (3, true), .assign (.tmp 17), 74, none, true⟩]
theorem ref1_Num_r4_go {K : Env → Heap → Prop} {τ ρ : Env} {h : Heap} : vcOps Try.prog K ref1_Num_r4 τ ρ h = vcOps Try.prog K [
  ⟨some (11, false), .move (.tmp 3), 74, none, true⟩,
  ⟨some (12, false), .binOp .mul 74 (.tmp 11) (.const (.int .u64 256)) 74, 74, none, true⟩,
  ⟨some (13, false), .move (.tmp 0), 9, none, true⟩,
  ⟨some (14, false), .move (.tmp 4), 3, none, true⟩,
  ⟨some (15, false), .index 9 (.tmp 13) (.tmp 14), 5, none, true⟩,
  ⟨some (16, false), .convert 5 74 (.tmp 15), 74, none, true⟩,
  ⟨some (17, false), .binOp .add 74 (.tmp 12) (.tmp 16) 74, 74, none, true⟩,
  ⟨some (3, true), .assign (.tmp 17), 74, none, true⟩] τ ρ h := _root_.id rfl
def ref1_Num_r5 : List Sop := [
  ⟨some (9, false), .move (.tmp 4), 3, none, true⟩,
  ⟨some (10, false), .binOp .add 3 (.tmp 9) (.const (.int .i64 1)) 3, 3, none, true⟩,
  ⟨some (4, true), .assign (.tmp 10), 3, none, true⟩]
theorem ref1_Num_r5_go {K : Env → Heap → Prop} {τ ρ : Env} {h : Heap} : vcOps Try.prog K ref1_Num_r5 τ ρ h = vcOps Try.prog K [
  ⟨some (9, false), .move (.tmp 4), 3, none, true⟩,
  ⟨some (10, false), .binOp .add 3 (.tmp 9) (.const (.int .i64 1)) 3, 3, none, true⟩,
  ⟨some (4, true), .assign (.tmp 10), 3, none, true⟩] τ ρ h := _root_.id rfl
def ref1_Num_r6 : List Sop := [
  ⟨some (18, false), .move (.tmp 3), 74, none, true⟩,
  ⟨some (2, true), .assign (.tmp 18), 74, none, true⟩]
theorem ref1_Num_r6_go {K : Env → Heap → Prop} {τ ρ : Env} {h : Heap} : vcOps Try.prog K ref1_Num_r6 τ ρ h = vcOps Try.prog K [
  ⟨some (18, false), .move (.tmp 3), 74, none, true⟩,
  ⟨some (2, true), .assign (.tmp 18), 74, none, true⟩] τ ρ h := _root_.id rfl
def ref1_Num_l0 : Cd := .seq (.seq (.region ref1_Num_r3) (.cond (.tmp 8) (.skip) (.exit 0))) (.seq (.block 1 (.region ref1_Num_r4)) (.region ref1_Num_r5))
theorem ref1_Num_l0_go {Q : Ex → Env → Heap → Prop} {ρ : Env} {h : Heap} : Cd.vc Try.prog ref1_Num_l0 Q ρ h = Cd.vc Try.prog (.seq (.seq (.region ref1_Num_r3) (.cond (.tmp 8) (.skip) (.exit 0))) (.seq (.block 1 (.region ref1_Num_r4)) (.region ref1_Num_r5))) Q ρ h := _root_.id rfl
def ref1_Num : Cd := .seq (.region ref1_Num_r0) (.seq (.region ref1_Num_r1) (.seq (.seq (.region ref1_Num_r2) (.block 0 (.loop ref1_Num_l0))) (.seq (.region ref1_Num_r6) (.ret))))
theorem ref1_Num_go {Q : Ex → Env → Heap → Prop} {ρ : Env} {h : Heap} : Cd.vc Try.prog ref1_Num Q ρ h = Cd.vc Try.prog (.seq (.region ref1_Num_r0) (.seq (.region ref1_Num_r1) (.seq (.seq (.region ref1_Num_r2) (.block 0 (.loop ref1_Num_l0))) (.seq (.region ref1_Num_r6) (.ret))))) Q ρ h := _root_.id rfl
theorem ref1_Num_calls {args : List Value} {h : Heap} {R : Value → Heap → Prop} (hl : args.length = 1) (hv : Cd.vc Try.prog ref1_Num (retQ Try.prog [(2, none)] R) (initEnv args [0, 2, 3, 4, 8]) h) : HCalls Try.prog 67 args.toArray h R :=
  hcalls_of_vc (by kernel_rfl) Try.func67 (cd := ref1_Num) (L := [0, 2, 3, 4, 8]) (by kernel_rfl) (by kernel_rfl) ⟨by rw [hl, Try.ntmps67]; decide, by rw [Try.ntmps67]; decide⟩ hv
def ref1_Num_gos := And.intro @ref1_Num_go (And.intro @ref1_Num_r0_go (And.intro @ref1_Num_r1_go (And.intro @ref1_Num_r2_go (And.intro @ref1_Num_r3_go (And.intro @ref1_Num_r4_go (And.intro @ref1_Num_r5_go (And.intro @ref1_Num_r6_go (@ref1_Num_l0_go))))))))

/-! (*jvmcore/jvmcoreref3.cut).fail: function 34: slots [0, 1, 2, 10] -/
def cut_fail_r0 : List Sop := [
  ⟨some (6, false), .move (.tmp 0), 64, none, true⟩,
  ⟨some (7, false), .nilCheck (.tmp 6), 0, none, true⟩,
  ⟨some (8, false), .fieldAddr 66 (.tmp 7) 2, 0, none, true⟩,
  ⟨some (9, false), .load 27 (.tmp 8), 27, none, true⟩,
  ⟨some (10, true), .binOp .eql 27 (.tmp 9) (.const (.int .i64 0)) 27, 4, none, true⟩]
theorem cut_fail_r0_go {K : Env → Heap → Prop} {τ ρ : Env} {h : Heap} : vcOps Try.prog K cut_fail_r0 τ ρ h = vcOps Try.prog K [
  ⟨some (6, false), .move (.tmp 0), 64, none, true⟩,
  ⟨some (7, false), .nilCheck (.tmp 6), 0, none, true⟩,
  ⟨some (8, false), .fieldAddr 66 (.tmp 7) 2, 0, none, true⟩,
  ⟨some (9, false), .load 27 (.tmp 8), 27, none, true⟩,
  ⟨some (10, true), .binOp .eql 27 (.tmp 9) (.const (.int .i64 0)) 27, 4, none, true⟩] τ ρ h := _root_.id rfl
def cut_fail_r1 : List Sop := [
  ⟨some (11, false), .move (.tmp 0), 64, none, true⟩,
  ⟨some (12, false), .move (.tmp 1), 27, none, true⟩,
  ⟨some (13, false), .nilCheck (.tmp 11), 0, none, true⟩,
  ⟨some (14, false), .fieldAddr 66 (.tmp 13) 2, 0, none, true⟩,
  ⟨none, .store 27 (.tmp 14) (.tmp 12), 0, none, false⟩]
theorem cut_fail_r1_go {K : Env → Heap → Prop} {τ ρ : Env} {h : Heap} : vcOps Try.prog K cut_fail_r1 τ ρ h = vcOps Try.prog K [
  ⟨some (11, false), .move (.tmp 0), 64, none, true⟩,
  ⟨some (12, false), .move (.tmp 1), 27, none, true⟩,
  ⟨some (13, false), .nilCheck (.tmp 11), 0, none, true⟩,
  ⟨some (14, false), .fieldAddr 66 (.tmp 13) 2, 0, none, true⟩,
  ⟨none, .store 27 (.tmp 14) (.tmp 12), 0, none, false⟩] τ ρ h := _root_.id rfl
def cut_fail_r2 : List Sop := [
  ⟨some (15, false), .move (.tmp 0), 64, none, true⟩,
  ⟨some (16, false), .move (.tmp 2), 3, none, true⟩,
  ⟨some (17, false), .nilCheck (.tmp 15), 0, none, true⟩,
  ⟨some (18, false), .fieldAddr 66 (.tmp 17) 3, 0, none, true⟩,
  ⟨none, .store 3 (.tmp 18) (.tmp 16), 0, none, false⟩]
theorem cut_fail_r2_go {K : Env → Heap → Prop} {τ ρ : Env} {h : Heap} : vcOps Try.prog K cut_fail_r2 τ ρ h = vcOps Try.prog K [
  ⟨some (15, false), .move (.tmp 0), 64, none, true⟩,
  ⟨some (16, false), .move (.tmp 2), 3, none, true⟩,
  ⟨some (17, false), .nilCheck (.tmp 15), 0, none, true⟩,
  ⟨some (18, false), .fieldAddr 66 (.tmp 17) 3, 0, none, true⟩,
  ⟨none, .store 3 (.tmp 18) (.tmp 16), 0, none, false⟩] τ ρ h := _root_.id rfl
def cut_fail : Cd := .seq (.region cut_fail_r0) (.cond (.tmp 10) (.seq (.region cut_fail_r1) (.region cut_fail_r2)) (.skip))
theorem cut_fail_go {Q : Ex → Env → Heap → Prop} {ρ : Env} {h : Heap} : Cd.vc Try.prog cut_fail Q ρ h = Cd.vc Try.prog (.seq (.region cut_fail_r0) (.cond (.tmp 10) (.seq (.region cut_fail_r1) (.region cut_fail_r2)) (.skip))) Q ρ h := _root_.id rfl
theorem cut_fail_calls {args : List Value} {h : Heap} {R : Value → Heap → Prop} (hl : args.length = 3) (hv : Cd.vc Try.prog cut_fail (retQ Try.prog [] R) (initEnv args [0, 1, 2, 10]) h) : HCalls Try.prog 34 args.toArray h R :=
  hcalls_of_vc (by kernel_rfl) Try.func34 (cd := cut_fail) (L := [0, 1, 2, 10]) (by kernel_rfl) (by kernel_rfl) ⟨by rw [hl, Try.ntmps34]; decide, by rw [Try.ntmps34]; decide⟩ hv
def cut_fail_gos := And.intro @cut_fail_go (And.intro @cut_fail_r0_go (And.intro @cut_fail_r1_go (@cut_fail_r2_go)))

/-! (*jvmcore/jvmcoreref3.cut).take: function 58: slots [0, 1, 4, 5, 28, 40] -/
def cut_take_r0 : List Sop := [
  ⟨some (4, true), .assign (.const (.string { data := #[] })), 9, none, true⟩]
theorem cut_take_r0_go {K : Env → Heap → Prop} {τ ρ : Env} {h : Heap} : vcOps Try.prog K cut_take_r0 τ ρ h = vcOps Try.prog K [
  ⟨some (4, true), .assign (.const (.string { data := #[] })), 9, none, true⟩] τ ρ h := _root_.id rfl
def cut_take_r1 : List (Sop × List Sop) := [
  (⟨some (6, false), .move (.tmp 0), 64, none, true⟩, []),
  (⟨some (7, false), .nilCheck (.tmp 6), 0, none, true⟩, []),
  (⟨some (8, false), .fieldAddr 66 (.tmp 7) 2, 0, none, true⟩, []),
  (⟨some (9, false), .load 27 (.tmp 8), 27, none, true⟩, []),
  (⟨some (10, false), .binOp .eql 27 (.tmp 9) (.const (.int .i64 0)) 27, 4, none, true⟩, []),
  (⟨some (11, false), .move (.tmp 10), 4, none, true⟩, []),
  (⟨some (12, false), .move (.tmp 1), 3, some (11, true), true⟩, []),
  (⟨some (13, false), .binOp .lss 3 (.tmp 12) (.const (.int .i64 0)) 3, 4, some (11, true), true⟩, []),
  (⟨some (14, false), .move (.tmp 13), 4, some (11, true), true⟩, []),
  (⟨some (15, false), .move (.tmp 0), 64, some (14, false), true⟩, []),
  (⟨some (16, false), .nilCheck (.tmp 15), 0, some (14, false), true⟩, []),
  (⟨some (17, false), .fieldAddr 66 (.tmp 16) 1, 0, some (14, false), true⟩, []),
  (⟨some (18, false), .load 3 (.tmp 17), 3, some (14, false), true⟩, []),
  (⟨some (19, false), .move (.tmp 1), 3, some (14, false), true⟩, []),
  (⟨some (20, false), .binOp .add 3 (.tmp 18) (.tmp 19) 3, 3, some (14, false), true⟩, []),
  (⟨some (21, false), .move (.tmp 0), 64, some (14, false), true⟩, []),
  (⟨some (22, false), .nilCheck (.tmp 21), 0, some (14, false), true⟩, []),
  (⟨some (23, false), .fieldAddr 66 (.tmp 22) 0, 0, some (14, false), true⟩, []),
  (⟨some (24, false), .load 9 (.tmp 23), 9, some (14, false), true⟩, []),
  (⟨some (25, false), .call { callee := .builtin .len, args := #[.tmp 24], argTypes := #[9] }, 3, some (14, false), true⟩, []),
  (⟨some (26, false), .binOp .gtr 3 (.tmp 20) (.tmp 25) 3, 4, some (14, false), true⟩, []),
  (⟨some (27, false), .pick (.tmp 14) (.const (.bool true)) (.tmp 26), 4, some (11, true), true⟩, []),
  (⟨some (28, true), .pick (.tmp 11) (.tmp 27) (.const (.bool false)), 4, none, true⟩, [])]
theorem cut_take_r1_go {K : Env → Heap → Prop} {τ ρ : Env} {h : Heap} : vcDraw Try.prog K cut_take_r1 τ ρ h = vcDraw Try.prog K [
  (⟨some (6, false), .move (.tmp 0), 64, none, true⟩, []),
  (⟨some (7, false), .nilCheck (.tmp 6), 0, none, true⟩, []),
  (⟨some (8, false), .fieldAddr 66 (.tmp 7) 2, 0, none, true⟩, []),
  (⟨some (9, false), .load 27 (.tmp 8), 27, none, true⟩, []),
  (⟨some (10, false), .binOp .eql 27 (.tmp 9) (.const (.int .i64 0)) 27, 4, none, true⟩, []),
  (⟨some (11, false), .move (.tmp 10), 4, none, true⟩, []),
  (⟨some (12, false), .move (.tmp 1), 3, some (11, true), true⟩, []),
  (⟨some (13, false), .binOp .lss 3 (.tmp 12) (.const (.int .i64 0)) 3, 4, some (11, true), true⟩, []),
  (⟨some (14, false), .move (.tmp 13), 4, some (11, true), true⟩, []),
  (⟨some (15, false), .move (.tmp 0), 64, some (14, false), true⟩, []),
  (⟨some (16, false), .nilCheck (.tmp 15), 0, some (14, false), true⟩, []),
  (⟨some (17, false), .fieldAddr 66 (.tmp 16) 1, 0, some (14, false), true⟩, []),
  (⟨some (18, false), .load 3 (.tmp 17), 3, some (14, false), true⟩, []),
  (⟨some (19, false), .move (.tmp 1), 3, some (14, false), true⟩, []),
  (⟨some (20, false), .binOp .add 3 (.tmp 18) (.tmp 19) 3, 3, some (14, false), true⟩, []),
  (⟨some (21, false), .move (.tmp 0), 64, some (14, false), true⟩, []),
  (⟨some (22, false), .nilCheck (.tmp 21), 0, some (14, false), true⟩, []),
  (⟨some (23, false), .fieldAddr 66 (.tmp 22) 0, 0, some (14, false), true⟩, []),
  (⟨some (24, false), .load 9 (.tmp 23), 9, some (14, false), true⟩, []),
  (⟨some (25, false), .call { callee := .builtin .len, args := #[.tmp 24], argTypes := #[9] }, 3, some (14, false), true⟩, []),
  (⟨some (26, false), .binOp .gtr 3 (.tmp 20) (.tmp 25) 3, 4, some (14, false), true⟩, []),
  (⟨some (27, false), .pick (.tmp 14) (.const (.bool true)) (.tmp 26), 4, some (11, true), true⟩, []),
  (⟨some (28, true), .pick (.tmp 11) (.tmp 27) (.const (.bool false)), 4, none, true⟩, [])] τ ρ h := _root_.id rfl
def cut_take_r2 : List Sop := [
  ⟨some (29, false), .move (.tmp 0), 64, none, true⟩,
  ⟨some (30, false), .move (.tmp 0), 64, none, true⟩,
  ⟨some (31, false), .nilCheck (.tmp 30), 0, none, true⟩,
  ⟨some (32, false), .fieldAddr 66 (.tmp 31) 0, 0, none, true⟩,
  ⟨some (33, false), .load 9 (.tmp 32), 9, none, true⟩,
  ⟨some (34, false), .call { callee := .builtin .len, args := #[.tmp 33], argTypes := #[9] }, 3, none, true⟩,
  ⟨some (35, false), .call { callee := .value (.func 34), args := #[.tmp 29, .const (.int .i64 1), .tmp 34], argTypes := #[64, 27, 3] }, 0, none, false⟩]
theorem cut_take_r2_go {K : Env → Heap → Prop} {τ ρ : Env} {h : Heap} : vcOps Try.prog K cut_take_r2 τ ρ h = vcOps Try.prog K [
  ⟨some (29, false), .move (.tmp 0), 64, none, true⟩,
  ⟨some (30, false), .move (.tmp 0), 64, none, true⟩,
  ⟨some (31, false), .nilCheck (.tmp 30), 0, none, true⟩,
  ⟨some (32, false), .fieldAddr 66 (.tmp 31) 0, 0, none, true⟩,
  ⟨some (33, false), .load 9 (.tmp 32), 9, none, true⟩,
  ⟨some (34, false), .call { callee := .builtin .len, args := #[.tmp 33], argTypes := #[9] }, 3, none, true⟩,
  ⟨some (35, false), .call { callee := .value (.func 34), args := #[.tmp 29, .const (.int .i64 1), .tmp 34], argTypes := #[64, 27, 3] }, 0, none, false⟩] τ ρ h := _root_.id rfl
def cut_take_r3 : List Sop := [
  ⟨some (36, false), .move (.tmp 0), 64, none, true⟩,
  ⟨some (37, false), .nilCheck (.tmp 36), 0, none, true⟩,
  ⟨some (38, false), .fieldAddr 66 (.tmp 37) 2, 0, none, true⟩,
  ⟨some (39, false), .load 27 (.tmp 38), 27, none, true⟩,
  ⟨some (40, true), .binOp .neq 27 (.tmp 39) (.const (.int .i64 0)) 27, 4, none, true⟩]
theorem cut_take_r3_go {K : Env → Heap → Prop} {τ ρ : Env} {h : Heap} : vcOps Try.prog K cut_take_r3 τ ρ h = vcOps Try.prog K [
  ⟨some (36, false), .move (.tmp 0), 64, none, true⟩,
  ⟨some (37, false), .nilCheck (.tmp 36), 0, none, true⟩,
  ⟨some (38, false), .fieldAddr 66 (.tmp 37) 2, 0, none, true⟩,
  ⟨some (39, false), .load 27 (.tmp 38), 27, none, true⟩,
  ⟨some (40, true), .binOp .neq 27 (.tmp 39) (.const (.int .i64 0)) 27, 4, none, true⟩] τ ρ h := _root_.id rfl
def cut_take_r4 : List Sop := [
  ⟨some (4, true), .assign (.const (.string { data := #[] })), 9, none, true⟩]
theorem cut_take_r4_go {K : Env → Heap → Prop} {τ ρ : Env} {h : Heap} : vcOps Try.prog K cut_take_r4 τ ρ h = vcOps Try.prog K [
  ⟨some (4, true), .assign (.const (.string { data := #[] })), 9, none, true⟩] τ ρ h := _root_.id rfl
def cut_take_r5 : List (Sop × List Sop) := [
  (⟨some (41, false), .move (.tmp 0), 64, none, true⟩, []),
  (⟨some (42, false), .nilCheck (.tmp 41), 0, none, true⟩, []),
  (⟨some (43, false), .fieldAddr 66 (.tmp 42) 0, 0, none, true⟩, []),
  (⟨some (44, false), .load 9 (.tmp 43), 9, none, true⟩, []),
  (⟨some (45, false), .move (.tmp 0), 64, none, true⟩, []),
  (⟨some (46, false), .nilCheck (.tmp 45), 0, none, true⟩, []),
  (⟨some (47, false), .fieldAddr 66 (.tmp 46) 1, 0, none, true⟩, []),
  (⟨some (48, false), .load 3 (.tmp 47), 3, none, true⟩, []),
  (⟨some (49, false), .move (.tmp 0), 64, none, true⟩, []),
  (⟨some (50, false), .nilCheck (.tmp 49), 0, none, true⟩, []),
  (⟨some (51, false), .fieldAddr 66 (.tmp 50) 1, 0, none, true⟩, []),
  (⟨some (52, false), .load 3 (.tmp 51), 3, none, true⟩, []),
  (⟨some (53, false), .move (.tmp 1), 3, none, true⟩, []),
  (⟨some (54, false), .binOp .add 3 (.tmp 52) (.tmp 53) 3, 3, none, true⟩, []),
  (⟨some (55, false), .slice 9 (.tmp 44) (some (.tmp 48)) (some (.tmp 54)) none, 9, none, true⟩, []),
  (⟨some (5, true), .assign (.tmp 55), 9, none, true⟩, [])]
theorem cut_take_r5_go {K : Env → Heap → Prop} {τ ρ : Env} {h : Heap} : vcDraw Try.prog K cut_take_r5 τ ρ h = vcDraw Try.prog K [
  (⟨some (41, false), .move (.tmp 0), 64, none, true⟩, []),
  (⟨some (42, false), .nilCheck (.tmp 41), 0, none, true⟩, []),
  (⟨some (43, false), .fieldAddr 66 (.tmp 42) 0, 0, none, true⟩, []),
  (⟨some (44, false), .load 9 (.tmp 43), 9, none, true⟩, []),
  (⟨some (45, false), .move (.tmp 0), 64, none, true⟩, []),
  (⟨some (46, false), .nilCheck (.tmp 45), 0, none, true⟩, []),
  (⟨some (47, false), .fieldAddr 66 (.tmp 46) 1, 0, none, true⟩, []),
  (⟨some (48, false), .load 3 (.tmp 47), 3, none, true⟩, []),
  (⟨some (49, false), .move (.tmp 0), 64, none, true⟩, []),
  (⟨some (50, false), .nilCheck (.tmp 49), 0, none, true⟩, []),
  (⟨some (51, false), .fieldAddr 66 (.tmp 50) 1, 0, none, true⟩, []),
  (⟨some (52, false), .load 3 (.tmp 51), 3, none, true⟩, []),
  (⟨some (53, false), .move (.tmp 1), 3, none, true⟩, []),
  (⟨some (54, false), .binOp .add 3 (.tmp 52) (.tmp 53) 3, 3, none, true⟩, []),
  (⟨some (55, false), .slice 9 (.tmp 44) (some (.tmp 48)) (some (.tmp 54)) none, 9, none, true⟩, []),
  (⟨some (5, true), .assign (.tmp 55), 9, none, true⟩, [])] τ ρ h := _root_.id rfl
def cut_take_r6 : List Sop := [
  ⟨some (56, false), .move (.tmp 0), 64, none, true⟩,
  ⟨some (57, false), .nilCheck (.tmp 56), 0, none, true⟩,
  ⟨some (58, false), .fieldAddr 66 (.tmp 57) 1, 0, none, true⟩,
  ⟨some (59, false), .load 3 (.tmp 58), 3, none, true⟩,
  ⟨some (60, false), .move (.tmp 1), 3, none, true⟩,
  ⟨some (61, false), .binOp .add 3 (.tmp 59) (.tmp 60) 3, 3, none, true⟩,
  ⟨some (62, false), .nilCheck (.tmp 56), 0, none, true⟩,
  ⟨some (63, false), .fieldAddr 66 (.tmp 62) 1, 0, none, true⟩,
  ⟨none, .store 3 (.tmp 63) (.tmp 61), 0, none, false⟩]
theorem cut_take_r6_go {K : Env → Heap → Prop} {τ ρ : Env} {h : Heap} : vcOps Try.prog K cut_take_r6 τ ρ h = vcOps Try.prog K [
  ⟨some (56, false), .move (.tmp 0), 64, none, true⟩,
  ⟨some (57, false), .nilCheck (.tmp 56), 0, none, true⟩,
  ⟨some (58, false), .fieldAddr 66 (.tmp 57) 1, 0, none, true⟩,
  ⟨some (59, false), .load 3 (.tmp 58), 3, none, true⟩,
  ⟨some (60, false), .move (.tmp 1), 3, none, true⟩,
  ⟨some (61, false), .binOp .add 3 (.tmp 59) (.tmp 60) 3, 3, none, true⟩,
  ⟨some (62, false), .nilCheck (.tmp 56), 0, none, true⟩,
  ⟨some (63, false), .fieldAddr 66 (.tmp 62) 1, 0, none, true⟩,
  ⟨none, .store 3 (.tmp 63) (.tmp 61), 0, none, false⟩] τ ρ h := _root_.id rfl
def cut_take_r7 : List Sop := [
  ⟨some (64, false), .move (.tmp 5), 9, none, true⟩,
  ⟨some (4, true), .assign (.tmp 64), 9, none, true⟩]
theorem cut_take_r7_go {K : Env → Heap → Prop} {τ ρ : Env} {h : Heap} : vcOps Try.prog K cut_take_r7 τ ρ h = vcOps Try.prog K [
  ⟨some (64, false), .move (.tmp 5), 9, none, true⟩,
  ⟨some (4, true), .assign (.tmp 64), 9, none, true⟩] τ ρ h := _root_.id rfl
def cut_take : Cd := .seq (.region cut_take_r0) (.seq (.seq (.draw cut_take_r1) (.cond (.tmp 28) (.region cut_take_r2) (.skip))) (.seq (.seq (.region cut_take_r3) (.cond (.tmp 40) (.seq (.region cut_take_r4) (.ret)) (.skip))) (.seq (.draw cut_take_r5) (.seq (.region cut_take_r6) (.seq (.region cut_take_r7) (.ret))))))
theorem cut_take_go {Q : Ex → Env → Heap → Prop} {ρ : Env} {h : Heap} : Cd.vc Try.prog cut_take Q ρ h = Cd.vc Try.prog (.seq (.region cut_take_r0) (.seq (.seq (.draw cut_take_r1) (.cond (.tmp 28) (.region cut_take_r2) (.skip))) (.seq (.seq (.region cut_take_r3) (.cond (.tmp 40) (.seq (.region cut_take_r4) (.ret)) (.skip))) (.seq (.draw cut_take_r5) (.seq (.region cut_take_r6) (.seq (.region cut_take_r7) (.ret))))))) Q ρ h := _root_.id rfl
theorem cut_take_calls {args : List Value} {h : Heap} {R : Value → Heap → Prop} (hl : args.length = 2) (hv : Cd.vc Try.prog cut_take (retQ Try.prog [(4, none)] R) (initEnv args [0, 1, 4, 5, 28, 40]) h) : HCalls Try.prog 58 args.toArray h R :=
  hcalls_of_vc (by kernel_rfl) Try.func58 (cd := cut_take) (L := [0, 1, 4, 5, 28, 40]) (by kernel_rfl) (by kernel_rfl) ⟨by rw [hl, Try.ntmps58]; decide, by rw [Try.ntmps58]; decide⟩ hv
def cut_take_gos := And.intro @cut_take_go (And.intro @cut_take_r0_go (And.intro @cut_take_r1_go (And.intro @cut_take_r2_go (And.intro @cut_take_r3_go (And.intro @cut_take_r4_go (And.intro @cut_take_r5_go (And.intro @cut_take_r6_go (@cut_take_r7_go))))))))

/-! (*jvmcore/jvmcoreref3.cut).num: function 31: slots [0, 1, 4] -/
def cut_num_r0 : List Sop := [
  ⟨some (4, true), .assign (.const (.int .i64 0)), 3, none, true⟩]
theorem cut_num_r0_go {K : Env → Heap → Prop} {τ ρ : Env} {h : Heap} : vcOps Try.prog K cut_num_r0 τ ρ h = vcOps Try.prog K [
  ⟨some (4, true), .assign (.const (.int .i64 0)), 3, none, true⟩] τ ρ h := _root_.id rfl
def cut_num_r1 : List Sop := [
  ⟨some (5, false), .move (.tmp 0), 64, none, true⟩,
  ⟨some (6, false), .move (.tmp 1), 3, none, true⟩,
  ⟨some (7, false), .call { callee := .value (.func 58), args := #[.tmp 5, .tmp 6], argTypes := #[64, 3] }, 9, none, false⟩,
  ⟨some (8, false), .call { callee := .value (.func 67), args := #[.tmp 7], argTypes := #[9] }, 74, none, false⟩,
  ⟨some (9, false), .convert 74 3 (.tmp 8), 3, none, true⟩,
  ⟨some (4, true), .assign (.tmp 9), 3, none, true⟩]
theorem cut_num_r1_go {K : Env → Heap → Prop} {τ ρ : Env} {h : Heap} : vcOps Try.prog K cut_num_r1 τ ρ h = vcOps Try.prog K [
  ⟨some (5, false), .move (.tmp 0), 64, none, true⟩,
  ⟨some (6, false), .move (.tmp 1), 3, none, true⟩,
  ⟨some (7, false), .call { callee := .value (.func 58), args := #[.tmp 5, .tmp 6], argTypes := #[64, 3] }, 9, none, false⟩,
  ⟨some (8, false), .call { callee := .value (.func 67), args := #[.tmp 7], argTypes := #[9] }, 74, none, false⟩,
  ⟨some (9, false), .convert 74 3 (.tmp 8), 3, none, true⟩,
  ⟨some (4, true), .assign (.tmp 9), 3, none, true⟩] τ ρ h := _root_.id rfl
def cut_num : Cd := .seq (.region cut_num_r0) (.seq (.region cut_num_r1) (.ret))
theorem cut_num_go {Q : Ex → Env → Heap → Prop} {ρ : Env} {h : Heap} : Cd.vc Try.prog cut_num Q ρ h = Cd.vc Try.prog (.seq (.region cut_num_r0) (.seq (.region cut_num_r1) (.ret))) Q ρ h := _root_.id rfl
theorem cut_num_calls {args : List Value} {h : Heap} {R : Value → Heap → Prop} (hl : args.length = 2) (hv : Cd.vc Try.prog cut_num (retQ Try.prog [(4, none)] R) (initEnv args [0, 1, 4]) h) : HCalls Try.prog 31 args.toArray h R :=
  hcalls_of_vc (by kernel_rfl) Try.func31 (cd := cut_num) (L := [0, 1, 4]) (by kernel_rfl) (by kernel_rfl) ⟨by rw [hl, Try.ntmps31]; decide, by rw [Try.ntmps31]; decide⟩ hv
def cut_num_gos := And.intro @cut_num_go (And.intro @cut_num_r0_go (@cut_num_r1_go))

/-! (*jvmcore/jvmcoreref3.cut).values: function 33: slots [0, 1, 2, 6, 7, 8, 9, 10, 19, 32, 38, 51, 57] -/
def cut_values_r0 : List Sop := [
  ⟨some (6, true), .assign (.const (.slice none 0 0)), 23, none, true⟩]
theorem cut_values_r0_go {K : Env → Heap → Prop} {τ ρ : Env} {h : Heap} : vcOps Try.prog K cut_values_r0 τ ρ h = vcOps Try.prog K [
  ⟨some (6, true), .assign (.const (.slice none 0 0)), 23, none, true⟩] τ ρ h := _root_.id rfl
def cut_values_r1 : List Sop := [
  ⟨some (7, true), .assign (.const (.slice none 0 0)), 23, none, true⟩]
theorem cut_values_r1_go {K : Env → Heap → Prop} {τ ρ : Env} {h : Heap} : vcOps Try.prog K cut_values_r1 τ ρ h = vcOps Try.prog K [
  ⟨some (7, true), .assign (.const (.slice none 0 0)), 23, none, true⟩] τ ρ h := _root_.id rfl
def cut_values_r2 : List Sop := [
  ⟨some (11, false), .move (.tmp 2), 3, none, true⟩,
  ⟨some (12, false), .binOp .gtr 3 (.tmp 11) (.const (.int .i64 0)) 3, 4, none, true⟩,
  ⟨some (13, false), .move (.tmp 12), 4, none, true⟩,
  ⟨some (14, false), .move (.tmp 0), 64, some (13, true), true⟩,
  ⟨some (15, false), .nilCheck (.tmp 14), 0, some (13, true), true⟩,
  ⟨some (16, false), .fieldAddr 66 (.tmp 15) 2, 0, some (13, true), true⟩,
  ⟨some (17, false), .load 27 (.tmp 16), 27, some (13, true), true⟩,
  ⟨some (18, false), .binOp .eql 27 (.tmp 17) (.const (.int .i64 0)) 27, 4, some (13, true), true⟩,
  ⟨some (19, true), .pick (.tmp 13) (.tmp 18) (.const (.bool false)), 4, none, true⟩]
theorem cut_values_r2_go {K : Env → Heap → Prop} {τ ρ : Env} {h : Heap} : vcOps Try.prog K cut_values_r2 τ ρ h = vcOps Try.prog K [
  ⟨some (11, false), .move (.tmp 2), 3, none, true⟩,
  ⟨some (12, false), .binOp .gtr 3 (.tmp 11) (.const (.int .i64 0)) 3, 4, none, true⟩,
  ⟨some (13, false), .move (.tmp 12), 4, none, true⟩,
  ⟨some (14, false), .move (.tmp 0), 64, some (13, true), true⟩,
  ⟨some (15, false), .nilCheck (.tmp 14), 0, some (13, true), true⟩,
  ⟨some (16, false), .fieldAddr 66 (.tmp 15) 2, 0, some (13, true), true⟩,
  ⟨some (17, false), .load 27 (.tmp 16), 27, some (13, true), true⟩,
  ⟨some (18, false), .binOp .eql 27 (.tmp 17) (.const (.int .i64 0)) 27, 4, some (13, true), true⟩,
  ⟨some (19, true), .pick (.tmp 13) (.tmp 18) (.const (.bool false)), 4, none, true⟩] τ ρ h := _root_.id rfl
def cut_values_r3 : List Sop := [
  ⟨some (22, false), .move (.tmp 0), 64, none, true⟩,
  ⟨some (23, false), .nilCheck (.tmp 22), 0, none, true⟩,
  ⟨some (24, false), .fieldAddr 66 (.tmp 23) 1, 0, none, true⟩,
  ⟨some (25, false), .load 3 (.tmp 24), 3, none, true⟩,
  ⟨some (8, true), .assign (.tmp 25), 3, none, true⟩]
theorem cut_values_r3_go {K : Env → Heap → Prop} {τ ρ : Env} {h : Heap} : vcOps Try.prog K cut_values_r3 τ ρ h = vcOps Try.prog K [
  ⟨some (22, false), .move (.tmp 0), 64, none, true⟩,
  ⟨some (23, false), .nilCheck (.tmp 22), 0, none, true⟩,
  ⟨some (24, false), .fieldAddr 66 (.tmp 23) 1, 0, none, true⟩,
  ⟨some (25, false), .load 3 (.tmp 24), 3, none, true⟩,
  ⟨some (8, true), .assign (.tmp 25), 3, none, true⟩] τ ρ h := _root_.id rfl
def cut_values_r4 : List Sop := [
  ⟨some (26, false), .move (.tmp 0), 64, none, true⟩,
  ⟨some (27, false), .call { callee := .value (.func 31), args := #[.tmp 26, .const (.int .i64 1)], argTypes := #[64, 3] }, 3, none, false⟩,
  ⟨some (28, false), .convert 3 5 (.tmp 27), 5, none, true⟩,
  ⟨some (29, false), .build 25 #[(0, .tmp 28)], 25, none, true⟩,
  ⟨some (9, true), .alloc 25, 0, none, false⟩,
  ⟨none, .store 25 (.tmp 9) (.tmp 29), 0, none, false⟩]
theorem cut_values_r4_go {K : Env → Heap → Prop} {τ ρ : Env} {h : Heap} : vcOps Try.prog K cut_values_r4 τ ρ h = vcOps Try.prog K [
  ⟨some (26, false), .move (.tmp 0), 64, none, true⟩,
  ⟨some (27, false), .call { callee := .value (.func 31), args := #[.tmp 26, .const (.int .i64 1)], argTypes := #[64, 3] }, 3, none, false⟩,
  ⟨some (28, false), .convert 3 5 (.tmp 27), 5, none, true⟩,
  ⟨some (29, false), .build 25 #[(0, .tmp 28)], 25, none, true⟩,
  ⟨some (9, true), .alloc 25, 0, none, false⟩,
  ⟨none, .store 25 (.tmp 9) (.tmp 29), 0, none, false⟩] τ ρ h := _root_.id rfl
def cut_values_r5 : List Sop := [
  ⟨some (30, false), .fieldAddr 25 (.tmp 9) 0, 0, none, true⟩,
  ⟨some (31, false), .load 5 (.tmp 30), 5, none, true⟩,
  ⟨some (32, true), .binOp .eql 5 (.tmp 31) (.const (.int .u8 7)) 5, 4, none, true⟩]
theorem cut_values_r5_go {K : Env → Heap → Prop} {τ ρ : Env} {h : Heap} : vcOps Try.prog K cut_values_r5 τ ρ h = vcOps Try.prog K [
  ⟨some (30, false), .fieldAddr 25 (.tmp 9) 0, 0, none, true⟩,
  ⟨some (31, false), .load 5 (.tmp 30), 5, none, true⟩,
  ⟨some (32, true), .binOp .eql 5 (.tmp 31) (.const (.int .u8 7)) 5, 4, none, true⟩] τ ρ h := _root_.id rfl
def cut_values_r6 : List Sop := [
  ⟨some (33, false), .move (.tmp 0), 64, none, true⟩,
  ⟨some (34, false), .call { callee := .value (.func 31), args := #[.tmp 33, .const (.int .i64 2)], argTypes := #[64, 3] }, 3, none, false⟩,
  ⟨some (10, true), .assign (.tmp 34), 3, none, true⟩]
theorem cut_values_r6_go {K : Env → Heap → Prop} {τ ρ : Env} {h : Heap} : vcOps Try.prog K cut_values_r6 τ ρ h = vcOps Try.prog K [
  ⟨some (33, false), .move (.tmp 0), 64, none, true⟩,
  ⟨some (34, false), .call { callee := .value (.func 31), args := #[.tmp 33, .const (.int .i64 2)], argTypes := #[64, 3] }, 3, none, false⟩,
  ⟨some (10, true), .assign (.tmp 34), 3, none, true⟩] τ ρ h := _root_.id rfl
def cut_values_r7 : List Sop := [
  ⟨some (35, false), .move (.tmp 1), 22, none, true⟩,
  ⟨some (36, false), .move (.tmp 10), 3, none, true⟩,
  ⟨some (37, false), .call { callee := .value (.func 68), args := #[.tmp 35, .tmp 36, .const (.int .u8 7)], argTypes := #[22, 3, 5] }, 4, none, false⟩,
  ⟨some (38, true), .unOp .not 4 (.tmp 37), 4, none, true⟩]
theorem cut_values_r7_go {K : Env → Heap → Prop} {τ ρ : Env} {h : Heap} : vcOps Try.prog K cut_values_r7 τ ρ h = vcOps Try.prog K [
  ⟨some (35, false), .move (.tmp 1), 22, none, true⟩,
  ⟨some (36, false), .move (.tmp 10), 3, none, true⟩,
  ⟨some (37, false), .call { callee := .value (.func 68), args := #[.tmp 35, .tmp 36, .const (.int .u8 7)], argTypes := #[22, 3, 5] }, 4, none, false⟩,
  ⟨some (38, true), .unOp .not 4 (.tmp 37), 4, none, true⟩] τ ρ h := _root_.id rfl
def cut_values_r8 : List Sop := [
  ⟨some (39, false), .move (.tmp 0), 64, none, true⟩,
  ⟨some (40, false), .move (.tmp 8), 3, none, true⟩,
  ⟨some (41, false), .call { callee := .value (.func 34), args := #[.tmp 39, .const (.int .i64 7), .tmp 40], argTypes := #[64, 27, 3] }, 0, none, false⟩]
theorem cut_values_r8_go {K : Env → Heap → Prop} {τ ρ : Env} {h : Heap} : vcOps Try.prog K cut_values_r8 τ ρ h = vcOps Try.prog K [
  ⟨some (39, false), .move (.tmp 0), 64, none, true⟩,
  ⟨some (40, false), .move (.tmp 8), 3, none, true⟩,
  ⟨some (41, false), .call { callee := .value (.func 34), args := #[.tmp 39, .const (.int .i64 7), .tmp 40], argTypes := #[64, 27, 3] }, 0, none, false⟩] τ ρ h := _root_.id rfl
def cut_values_r9 : List Sop := [
  ⟨some (43, false), .move (.tmp 1), 22, none, true⟩,
  ⟨some (44, false), .move (.tmp 10), 3, none, true⟩,
  ⟨some (45, false), .call { callee := .value (.func 69), args := #[.tmp 43, .tmp 44], argTypes := #[22, 3] }, 125, none, false⟩,
  ⟨some (42, false), .move (.tmp 45), 125, none, true⟩,
  ⟨some (46, false), .extract (.tmp 42) 0, 9, none, true⟩,
  ⟨some (47, false), .extract (.tmp 42) 1, 4, none, true⟩,
  ⟨some (48, false), .fieldAddr 25 (.tmp 9) 1, 0, none, true⟩,
  ⟨none, .store 9 (.tmp 48) (.tmp 46), 0, none, false⟩]
theorem cut_values_r9_go {K : Env → Heap → Prop} {τ ρ : Env} {h : Heap} : vcOps Try.prog K cut_values_r9 τ ρ h = vcOps Try.prog K [
  ⟨some (43, false), .move (.tmp 1), 22, none, true⟩,
  ⟨some (44, false), .move (.tmp 10), 3, none, true⟩,
  ⟨some (45, false), .call { callee := .value (.func 69), args := #[.tmp 43, .tmp 44], argTypes := #[22, 3] }, 125, none, false⟩,
  ⟨some (42, false), .move (.tmp 45), 125, none, true⟩,
  ⟨some (46, false), .extract (.tmp 42) 0, 9, none, true⟩,
  ⟨some (47, false), .extract (.tmp 42) 1, 4, none, true⟩,
  ⟨some (48, false), .fieldAddr 25 (.tmp 9) 1, 0, none, true⟩,
  ⟨none, .store 9 (.tmp 48) (.tmp 46), 0, none, false⟩] τ ρ h := _root_.id rfl
def cut_values_r10 : List Sop := [
  ⟨some (49, false), .fieldAddr 25 (.tmp 9) 0, 0, none, true⟩,
  ⟨some (50, false), .load 5 (.tmp 49), 5, none, true⟩,
  ⟨some (51, true), .binOp .eql 5 (.tmp 50) (.const (.int .u8 8)) 5, 4, none, true⟩]
theorem cut_values_r10_go {K : Env → Heap → Prop} {τ ρ : Env} {h : Heap} : vcOps Try.prog K cut_values_r10 τ ρ h = vcOps Try.prog K [
  ⟨some (49, false), .fieldAddr 25 (.tmp 9) 0, 0, none, true⟩,
  ⟨some (50, false), .load 5 (.tmp 49), 5, none, true⟩,
  ⟨some (51, true), .binOp .eql 5 (.tmp 50) (.const (.int .u8 8)) 5, 4, none, true⟩] τ ρ h := _root_.id rfl
def cut_values_r11 : List Sop := [
  ⟨some (52, false), .move (.tmp 0), 64, none, true⟩,
  ⟨some (53, false), .call { callee := .value (.func 31), args := #[.tmp 52, .const (.int .i64 2)], argTypes := #[64, 3] }, 3, none, false⟩,
  ⟨some (54, false), .fieldAddr 25 (.tmp 9) 2, 0, none, true⟩,
  ⟨none, .store 3 (.tmp 54) (.tmp 53), 0, none, false⟩]
theorem cut_values_r11_go {K : Env → Heap → Prop} {τ ρ : Env} {h : Heap} : vcOps Try.prog K cut_values_r11 τ ρ h = vcOps Try.prog K [
  ⟨some (52, false), .move (.tmp 0), 64, none, true⟩,
  ⟨some (53, false), .call { callee := .value (.func 31), args := #[.tmp 52, .const (.int .i64 2)], argTypes := #[64, 3] }, 3, none, false⟩,
  ⟨some (54, false), .fieldAddr 25 (.tmp 9) 2, 0, none, true⟩,
  ⟨none, .store 3 (.tmp 54) (.tmp 53), 0, none, false⟩] τ ρ h := _root_.id rfl
def cut_values_r12 : List Sop := [
  ⟨some (55, false), .fieldAddr 25 (.tmp 9) 0, 0, none, true⟩,
  ⟨some (56, false), .load 5 (.tmp 55), 5, none, true⟩,
  ⟨some (57, true), .binOp .gtr 5 (.tmp 56) (.const (.int .u8 8)) 5, 4, none, true⟩]
theorem cut_values_r12_go {K : Env → Heap → Prop} {τ ρ : Env} {h : Heap} : vcOps Try.prog K cut_values_r12 τ ρ h = vcOps Try.prog K [
  ⟨some (55, false), .fieldAddr 25 (.tmp 9) 0, 0, none, true⟩,
  ⟨some (56, false), .load 5 (.tmp 55), 5, none, true⟩,
  ⟨some (57, true), .binOp .gtr 5 (.tmp 56) (.const (.int .u8 8)) 5, 4, none, true⟩] τ ρ h := _root_.id rfl
def cut_values_r13 : List Sop := [
  ⟨some (58, false), .move (.tmp 0), 64, none, true⟩,
  ⟨some (59, false), .move (.tmp 8), 3, none, true⟩,
  ⟨some (60, false), .call { callee := .value (.func 34), args := #[.tmp 58, .const (.int .i64 17), .tmp 59], argTypes := #[64, 27, 3] }, 0, none, false⟩]
theorem cut_values_r13_go {K : Env → Heap → Prop} {τ ρ : Env} {h : Heap} : vcOps Try.prog K cut_values_r13 τ ρ h = vcOps Try.prog K [
  ⟨some (58, false), .move (.tmp 0), 64, none, true⟩,
  ⟨some (59, false), .move (.tmp 8), 3, none, true⟩,
  ⟨some (60, false), .call { callee := .value (.func 34), args := #[.tmp 58, .const (.int .i64 17), .tmp 59], argTypes := #[64, 27, 3] }, 0, none, false⟩] τ ρ h := _root_.id rfl
def cut_values_r14 : List Sop := [
  ⟨some (61, false), .move (.tmp 7), 23, none, true⟩,
  ⟨some (62, false), .load 25 (.tmp 9), 25, none, true⟩,
  ⟨some (63, false), .buildSlice 23 1 #[(0, .tmp 62)], 23, none, false⟩,
  ⟨some (64, false), .call { callee := .builtin .append, args := #[.tmp 61, .tmp 63], argTypes := #[23, 23] }, 23, none, false⟩,
  ⟨some (7, true), .assign (.tmp 64), 23, none, true⟩]
theorem cut_values_r14_go {K : Env → Heap → Prop} {τ ρ : Env} {h : Heap} : vcOps Try.prog K cut_values_r14 τ ρ h = vcOps Try.prog K [
  ⟨some (61, false), .move (.tmp 7), 23, none, true⟩,
  ⟨some (62, false), .load 25 (.tmp 9), 25, none, true⟩,
  ⟨some (63, false), .buildSlice 23 1 #[(0, .tmp 62)], 23, none, false⟩,
  ⟨some (64, false), .call { callee := .builtin .append, args := #[.tmp 61, .tmp 63], argTypes := #[23, 23] }, 23, none, false⟩,
  ⟨some (7, true), .assign (.tmp 64), 23, none, true⟩] τ ρ h := _root_.id rfl
def cut_values_r15 : List Sop := [
  ⟨some (20, false), .move (.tmp 2), 3, none, true⟩,
  ⟨some (21, false), .binOp .sub 3 (.tmp 20) (.const (.int .i64 1)) 3, 3, none, true⟩,
  ⟨some (2, true), .assign (.tmp 21), 3, none, true⟩]
theorem cut_values_r15_go {K : Env → Heap → Prop} {τ ρ : Env} {h : Heap} : vcOps Try.prog K cut_values_r15 τ ρ h = vcOps Try.prog K [
  ⟨some (20, false), .move (.tmp 2), 3, none, true⟩,
  ⟨some (21, false), .binOp .sub 3 (.tmp 20) (.const (.int .i64 1)) 3, 3, none, true⟩,
  ⟨some (2, true), .assign (.tmp 21), 3, none, true⟩] τ ρ h := _root_.id rfl
def cut_values_r16 : List Sop := [
  ⟨some (65, false), .move (.tmp 7), 23, none, true⟩,
  ⟨some (6, true), .assign (.tmp 65), 23, none, true⟩]
theorem cut_values_r16_go {K : Env → Heap → Prop} {τ ρ : Env} {h : Heap} : vcOps Try.prog K cut_values_r16 τ ρ h = vcOps Try.prog K [
  ⟨some (65, false), .move (.tmp 7), 23, none, true⟩,
  ⟨some (6, true), .assign (.tmp 65), 23, none, true⟩] τ ρ h := _root_.id rfl
def cut_values_l0 : Cd := .seq (.seq (.region cut_values_r2) (.cond (.tmp 19) (.skip) (.exit 0))) (.seq (.block 1 (.seq (.region cut_values_r3) (.seq (.region cut_values_r4) (.seq (.seq (.region cut_values_r5) (.cond (.tmp 32) (.seq (.region cut_values_r6) (.seq (.region cut_values_r7) (.cond (.tmp 38) (.region cut_values_r8) (.region cut_values_r9)))) (.seq (.region cut_values_r10) (.cond (.tmp 51) (.region cut_values_r11) (.seq (.region cut_values_r12) (.cond (.tmp 57) (.region cut_values_r13) (.skip))))))) (.region cut_values_r14))))) (.region cut_values_r15))
theorem cut_values_l0_go {Q : Ex → Env → Heap → Prop} {ρ : Env} {h : Heap} : Cd.vc Try.prog cut_values_l0 Q ρ h = Cd.vc Try.prog (.seq (.seq (.region cut_values_r2) (.cond (.tmp 19) (.skip) (.exit 0))) (.seq (.block 1 (.seq (.region cut_values_r3) (.seq (.region cut_values_r4) (.seq (.seq (.region cut_values_r5) (.cond (.tmp 32) (.seq (.region cut_values_r6) (.seq (.region cut_values_r7) (.cond (.tmp 38) (.region cut_values_r8) (.region cut_values_r9)))) (.seq (.region cut_values_r10) (.cond (.tmp 51) (.region cut_values_r11) (.seq (.region cut_values_r12) (.cond (.tmp 57) (.region cut_values_r13) (.skip))))))) (.region cut_values_r14))))) (.region cut_values_r15))) Q ρ h := _root_.id rfl
def cut_values : Cd := .seq (.region cut_values_r0) (.seq (.region cut_values_r1) (.seq (.block 0 (.loop cut_values_l0)) (.seq (.region cut_values_r16) (.ret))))
theorem cut_values_go {Q : Ex → Env → Heap → Prop} {ρ : Env} {h : Heap} : Cd.vc Try.prog cut_values Q ρ h = Cd.vc Try.prog (.seq (.region cut_values_r0) (.seq (.region cut_values_r1) (.seq (.block 0 (.loop cut_values_l0)) (.seq (.region cut_values_r16) (.ret))))) Q ρ h := _root_.id rfl
theorem cut_values_calls {args : List Value} {h : Heap} {R : Value → Heap → Prop} (hl : args.length = 3) (hv : Cd.vc Try.prog cut_values (retQ Try.prog [(6, none)] R) (initEnv args [0, 1, 2, 6, 7, 8, 9, 10, 19, 32, 38, 51, 57]) h) : HCalls Try.prog 33 args.toArray h R :=
  hcalls_of_vc (by kernel_rfl) Try.func33 (cd := cut_values) (L := [0, 1, 2, 6, 7, 8, 9, 10, 19, 32, 38, 51, 57]) (by kernel_rfl) (by kernel_rfl) ⟨by rw [hl, Try.ntmps33]; decide, by rw [Try.ntmps33]; decide⟩ hv
def cut_values_gos := And.intro @cut_values_go (And.intro @cut_values_r0_go (And.intro @cut_values_r1_go (And.intro @cut_values_r2_go (And.intro @cut_values_r3_go (And.intro @cut_values_r4_go (And.intro @cut_values_r5_go (And.intro @cut_values_r6_go (And.intro @cut_values_r7_go (And.intro @cut_values_r8_go (And.intro @cut_values_r9_go (And.intro @cut_values_r10_go (And.intro @cut_values_r11_go (And.intro @cut_values_r12_go (And.intro @cut_values_r13_go (And.intro @cut_values_r14_go (And.intro @cut_values_r15_go (And.intro @cut_values_r16_go (@cut_values_l0_go))))))))))))))))))

/-! jvmcore/jvmcoreref3.list: function 32: slots [0, 2] -/
def ref3_list_r0 : List Sop := [
  ⟨some (2, true), .assign (.const (.slice none 0 0)), 23, none, true⟩]
theorem ref3_list_r0_go {K : Env → Heap → Prop} {τ ρ : Env} {h : Heap} : vcOps Try.prog K ref3_list_r0 τ ρ h = vcOps Try.prog K [
  ⟨some (2, true), .assign (.const (.slice none 0 0)), 23, none, true⟩] τ ρ h := _root_.id rfl
def ref3_list_r1 : List Sop := [
  ⟨some (3, false), .move (.tmp 0), 23, none, true⟩,
  ⟨some (4, false), .call { callee := .builtin .append, args := #[.const (.slice none 0 0), .tmp 3], argTypes := #[23, 23] }, 23, none, false⟩,
  ⟨some (2, true), .assign (.tmp 4), 23, none, true⟩]
theorem ref3_list_r1_go {K : Env → Heap → Prop} {τ ρ : Env} {h : Heap} : vcOps Try.prog K ref3_list_r1 τ ρ h = vcOps Try.prog K [
  ⟨some (3, false), .move (.tmp 0), 23, none, true⟩,
  ⟨some (4, false), .call { callee := .builtin .append, args := #[.const (.slice none 0 0), .tmp 3], argTypes := #[23, 23] }, 23, none, false⟩,
  ⟨some (2, true), .assign (.tmp 4), 23, none, true⟩] τ ρ h := _root_.id rfl
def ref3_list : Cd := .seq (.region ref3_list_r0) (.seq (.region ref3_list_r1) (.ret))
theorem ref3_list_go {Q : Ex → Env → Heap → Prop} {ρ : Env} {h : Heap} : Cd.vc Try.prog ref3_list Q ρ h = Cd.vc Try.prog (.seq (.region ref3_list_r0) (.seq (.region ref3_list_r1) (.ret))) Q ρ h := _root_.id rfl
theorem ref3_list_calls {args : List Value} {h : Heap} {R : Value → Heap → Prop} (hl : args.length = 1) (hv : Cd.vc Try.prog ref3_list (retQ Try.prog [(2, none)] R) (initEnv args [0, 2]) h) : HCalls Try.prog 32 args.toArray h R :=
  hcalls_of_vc (by kernel_rfl) Try.func32 (cd := ref3_list) (L := [0, 2]) (by kernel_rfl) (by kernel_rfl) ⟨by rw [hl, Try.ntmps32]; decide, by rw [Try.ntmps32]; decide⟩ hv
def ref3_list_gos := And.intro @ref3_list_go (And.intro @ref3_list_r0_go (@ref3_list_r1_go))

/-! jvmcore/jvmcoreref3.ReadMap: function 9: slots [0, 1, 2, 6, 7, 8, 9, 10, 11, 12, 13, 14, 15, 16, 17, 18, 33, 51, 55, 70, 77, 88, 94, 110, 120, 150, 161] -/
def ref3_ReadMap_r0 : List Sop := [
  ⟨some (6, true), .assign (.const (.slice none 0 0)), 26, none, true⟩,
  ⟨some (7, true), .assign (.const (.int .i64 0)), 27, none, true⟩,
  ⟨some (8, true), .assign (.const (.int .i64 0)), 3, none, true⟩]
theorem ref3_ReadMap_r0_go {K : Env → Heap → Prop} {τ ρ : Env} {h : Heap} : vcOps Try.prog K ref3_ReadMap_r0 τ ρ h = vcOps Try.prog K [
  ⟨some (6, true), .assign (.const (.slice none 0 0)), 26, none, true⟩,
  ⟨some (7, true), .assign (.const (.int .i64 0)), 27, none, true⟩,
  ⟨some (8, true), .assign (.const (.int .i64 0)), 3, none, true⟩] τ ρ h := _root_.id rfl
def ref3_ReadMap_r1 : List Sop := [
  ⟨some (19, false), .move (.tmp 0), 9, none, true⟩,
  ⟨some (20, false), .build 66 #[(0, .tmp 19)], 66, none, true⟩,
  ⟨some (21, false), .box 66 (.tmp 20), 64, none, false⟩,
  ⟨some (9, true), .assign (.tmp 21), 64, none, true⟩]
theorem ref3_ReadMap_r1_go {K : Env → Heap → Prop} {τ ρ : Env} {h : Heap} : vcOps Try.prog K ref3_ReadMap_r1 τ ρ h = vcOps Try.prog K [
  ⟨some (19, false), .move (.tmp 0), 9, none, true⟩,
  ⟨some (20, false), .build 66 #[(0, .tmp 19)], 66, none, true⟩,
  ⟨some (21, false), .box 66 (.tmp 20), 64, none, false⟩,
  ⟨some (9, true), .assign (.tmp 21), 64, none, true⟩] τ ρ h := _root_.id rfl
def ref3_ReadMap_r2 : List Sop := [
  ⟨some (22, false), .move (.tmp 9), 64, none, true⟩,
  ⟨some (23, false), .call { callee := .value (.func 31), args := #[.tmp 22, .const (.int .i64 2)], argTypes := #[64, 3] }, 3, none, false⟩,
  ⟨some (10, true), .assign (.tmp 23), 3, none, true⟩]
theorem ref3_ReadMap_r2_go {K : Env → Heap → Prop} {τ ρ : Env} {h : Heap} : vcOps Try.prog K ref3_ReadMap_r2 τ ρ h = vcOps Try.prog K [
  ⟨some (22, false), .move (.tmp 9), 64, none, true⟩,
  ⟨some (23, false), .call { callee := .value (.func 31), args := #[.tmp 22, .const (.int .i64 2)], argTypes := #[64, 3] }, 3, none, false⟩,
  ⟨some (10, true), .assign (.tmp 23), 3, none, true⟩] τ ρ h := _root_.id rfl
def ref3_ReadMap_r3 : List Sop := [
  ⟨some (24, false), .move (.tmp 2), 23, none, true⟩,
  ⟨some (11, true), .assign (.tmp 24), 23, none, true⟩]
theorem ref3_ReadMap_r3_go {K : Env → Heap → Prop} {τ ρ : Env} {h : Heap} : vcOps Try.prog K ref3_ReadMap_r3 τ ρ h = vcOps Try.prog K [
  ⟨some (24, false), .move (.tmp 2), 23, none, true⟩,
  ⟨some (11, true), .assign (.tmp 24), 23, none, true⟩] τ ρ h := _root_.id rfl
def ref3_ReadMap_r4 : List Sop := [
  ⟨some (12, true), .assign (.const (.int .i64 (-1))), 3, none, true⟩]
theorem ref3_ReadMap_r4_go {K : Env → Heap → Prop} {τ ρ : Env} {h : Heap} : vcOps Try.prog K ref3_ReadMap_r4 τ ρ h = vcOps Try.prog K [
  ⟨some (12, true), .assign (.const (.int .i64 (-1))), 3, none, true⟩] τ ρ h := _root_.id rfl
def ref3_ReadMap_r5 : List Sop := [
  ⟨some (13, true), .assign (.const (.slice none 0 0)), 26, none, true⟩]
theorem ref3_ReadMap_r5_go {K : Env → Heap → Prop} {τ ρ : Env} {h : Heap} : vcOps Try.prog K ref3_ReadMap_r5 τ ρ h = vcOps Try.prog K [
  ⟨some (13, true), .assign (.const (.slice none 0 0)), 26, none, true⟩] τ ρ h := _root_.id rfl
def ref3_ReadMap_r6 : List Sop := [
  ⟨some (25, false), .move (.tmp 10), 3, none, true⟩,
  ⟨some (26, false), .binOp .gtr 3 (.tmp 25) (.const (.int .i64 0)) 3, 4, none, true⟩,
  ⟨some (27, false), .move (.tmp 26), 4, none, true⟩,
  ⟨some (28, false), .move (.tmp 9), 64, some (27, true), true⟩,
  ⟨some (29, false), .nilCheck (.tmp 28), 0, some (27, true), true⟩,
  ⟨some (30, false), .fieldAddr 66 (.tmp 29) 2, 0, some (27, true), true⟩,
  ⟨some (31, false), .load 27 (.tmp 30), 27, some (27, true), true⟩,
  ⟨some (32, false), .binOp .eql 27 (.tmp 31) (.const (.int .i64 0)) 27, 4, some (27, true), true⟩,
  ⟨some (33, true), .pick (.tmp 27) (.tmp 32) (.const (.bool false)), 4, none, true⟩]
theorem ref3_ReadMap_r6_go {K : Env → Heap → Prop} {τ ρ : Env} {h : Heap} : vcOps Try.prog K ref3_ReadMap_r6 τ ρ h = vcOps Try.prog K [
  ⟨some (25, false), .move (.tmp 10), 3, none, true⟩,
  ⟨some (26, false), .binOp .gtr 3 (.tmp 25) (.const (.int .i64 0)) 3, 4, none, true⟩,
  ⟨some (27, false), .move (.tmp 26), 4, none, true⟩,
  ⟨some (28, false), .move (.tmp 9), 64, some (27, true), true⟩,
  ⟨some (29, false), .nilCheck (.tmp 28), 0, some (27, true), true⟩,
  ⟨some (30, false), .fieldAddr 66 (.tmp 29) 2, 0, some (27, true), true⟩,
  ⟨some (31, false), .load 27 (.tmp 30), 27, some (27, true), true⟩,
  ⟨some (32, false), .binOp .eql 27 (.tmp 31) (.const (.int .i64 0)) 27, 4, some (27, true), true⟩,
  ⟨some (33, true), .pick (.tmp 27) (.tmp 32) (.const (.bool false)), 4, none, true⟩] τ ρ h := _root_.id rfl
def ref3_ReadMap_r7 : List Sop := [
  ⟨some (36, false), .move (.tmp 9), 64, none, true⟩,
  ⟨some (37, false), .nilCheck (.tmp 36), 0, none, true⟩,
  ⟨some (38, false), .fieldAddr 66 (.tmp 37) 1, 0, none, true⟩,
  ⟨some (39, false), .load 3 (.tmp 38), 3, none, true⟩,
  ⟨some (14, true), .assign (.tmp 39), 3, none, true⟩]
theorem ref3_ReadMap_r7_go {K : Env → Heap → Prop} {τ ρ : Env} {h : Heap} : vcOps Try.prog K ref3_ReadMap_r7 τ ρ h = vcOps Try.prog K [
  ⟨some (36, false), .move (.tmp 9), 64, none, true⟩,
  ⟨some (37, false), .nilCheck (.tmp 36), 0, none, true⟩,
  ⟨some (38, false), .fieldAddr 66 (.tmp 37) 1, 0, none, true⟩,
  ⟨some (39, false), .load 3 (.tmp 38), 3, none, true⟩,
  ⟨some (14, true), .assign (.tmp 39), 3, none, true⟩] τ ρ h := _root_.id rfl
def ref3_ReadMap_r8 : List Sop := [
  ⟨some (40, false), .move (.tmp 9), 64, none, true⟩,
  ⟨some (41, false), .call { callee := .value (.func 31), args := #[.tmp 40, .const (.int .i64 1)], argTypes := #[64, 3] }, 3, none, false⟩,
  ⟨some (15, true), .assign (.tmp 41), 3, none, true⟩]
theorem ref3_ReadMap_r8_go {K : Env → Heap → Prop} {τ ρ : Env} {h : Heap} : vcOps Try.prog K ref3_ReadMap_r8 τ ρ h = vcOps Try.prog K [
  ⟨some (40, false), .move (.tmp 9), 64, none, true⟩,
  ⟨some (41, false), .call { callee := .value (.func 31), args := #[.tmp 40, .const (.int .i64 1)], argTypes := #[64, 3] }, 3, none, false⟩,
  ⟨some (15, true), .assign (.tmp 41), 3, none, true⟩] τ ρ h := _root_.id rfl
def ref3_ReadMap_r9 : List Sop := [
  ⟨some (42, false), .move (.tmp 11), 23, none, true⟩,
  ⟨some (43, false), .call { callee := .value (.func 32), args := #[.tmp 42], argTypes := #[23] }, 23, none, false⟩,
  ⟨some (44, false), .build 35 #[(1, .tmp 43)], 35, none, true⟩,
  ⟨some (16, true), .alloc 35, 0, none, false⟩,
  ⟨none, .store 35 (.tmp 16) (.tmp 44), 0, none, false⟩]
theorem ref3_ReadMap_r9_go {K : Env → Heap → Prop} {τ ρ : Env} {h : Heap} : vcOps Try.prog K ref3_ReadMap_r9 τ ρ h = vcOps Try.prog K [
  ⟨some (42, false), .move (.tmp 11), 23, none, true⟩,
  ⟨some (43, false), .call { callee := .value (.func 32), args := #[.tmp 42], argTypes := #[23] }, 23, none, false⟩,
  ⟨some (44, false), .build 35 #[(1, .tmp 43)], 35, none, true⟩,
  ⟨some (16, true), .alloc 35, 0, none, false⟩,
  ⟨none, .store 35 (.tmp 16) (.tmp 44), 0, none, false⟩] τ ρ h := _root_.id rfl
def ref3_ReadMap_r10 : List Sop := [
  ⟨some (45, false), .move (.tmp 15), 3, none, true⟩,
  ⟨some (17, true), .assign (.tmp 45), 3, none, true⟩]
theorem ref3_ReadMap_r10_go {K : Env → Heap → Prop} {τ ρ : Env} {h : Heap} : vcOps Try.prog K ref3_ReadMap_r10 τ ρ h = vcOps Try.prog K [
  ⟨some (45, false), .move (.tmp 15), 3, none, true⟩,
  ⟨some (17, true), .assign (.tmp 45), 3, none, true⟩] τ ρ h := _root_.id rfl
def ref3_ReadMap_r11 : List Sop := [
  ⟨some (46, false), .move (.tmp 15), 3, none, true⟩,
  ⟨some (47, false), .binOp .geq 3 (.tmp 46) (.const (.int .i64 64)) 3, 4, none, true⟩,
  ⟨some (48, false), .move (.tmp 47), 4, none, true⟩,
  ⟨some (49, false), .move (.tmp 15), 3, some (48, true), true⟩,
  ⟨some (50, false), .binOp .lss 3 (.tmp 49) (.const (.int .i64 128)) 3, 4, some (48, true), true⟩,
  ⟨some (51, true), .pick (.tmp 48) (.tmp 50) (.const (.bool false)), 4, none, true⟩]
theorem ref3_ReadMap_r11_go {K : Env → Heap → Prop} {τ ρ : Env} {h : Heap} : vcOps Try.prog K ref3_ReadMap_r11 τ ρ h = vcOps Try.prog K [
  ⟨some (46, false), .move (.tmp 15), 3, none, true⟩,
  ⟨some (47, false), .binOp .geq 3 (.tmp 46) (.const (.int .i64 64)) 3, 4, none, true⟩,
  ⟨some (48, false), .move (.tmp 47), 4, none, true⟩,
  ⟨some (49, false), .move (.tmp 15), 3, some (48, true), true⟩,
  ⟨some (50, false), .binOp .lss 3 (.tmp 49) (.const (.int .i64 128)) 3, 4, some (48, true), true⟩,
  ⟨some (51, true), .pick (.tmp 48) (.tmp 50) (.const (.bool false)), 4, none, true⟩] τ ρ h := _root_.id rfl
def ref3_ReadMap_r12 : List Sop := [
  ⟨some (52, false), .move (.tmp 15), 3, none, true⟩,
  ⟨some (53, false), .binOp .sub 3 (.tmp 52) (.const (.int .i64 64)) 3, 3, none, true⟩,
  ⟨some (17, true), .assign (.tmp 53), 3, none, true⟩]
theorem ref3_ReadMap_r12_go {K : Env → Heap → Prop} {τ ρ : Env} {h : Heap} : vcOps Try.prog K ref3_ReadMap_r12 τ ρ h = vcOps Try.prog K [
  ⟨some (52, false), .move (.tmp 15), 3, none, true⟩,
  ⟨some (53, false), .binOp .sub 3 (.tmp 52) (.const (.int .i64 64)) 3, 3, none, true⟩,
  ⟨some (17, true), .assign (.tmp 53), 3, none, true⟩] τ ρ h := _root_.id rfl
def ref3_ReadMap_r13 : List Sop := [
  ⟨some (54, false), .move (.tmp 15), 3, none, true⟩,
  ⟨some (55, true), .binOp .geq 3 (.tmp 54) (.const (.int .i64 247)) 3, 4, none, true⟩]
theorem ref3_ReadMap_r13_go {K : Env → Heap → Prop} {τ ρ : Env} {h : Heap} : vcOps Try.prog K ref3_ReadMap_r13 τ ρ h = vcOps Try.prog K [
  ⟨some (54, false), .move (.tmp 15), 3, none, true⟩,
  ⟨some (55, true), .binOp .geq 3 (.tmp 54) (.const (.int .i64 247)) 3, 4, none, true⟩] τ ρ h := _root_.id rfl
def ref3_ReadMap_r14 : List Sop := [
  ⟨some (56, false), .move (.tmp 9), 64, none, true⟩,
  ⟨some (57, false), .call { callee := .value (.func 31), args := #[.tmp 56, .const (.int .i64 2)], argTypes := #[64, 3] }, 3, none, false⟩,
  ⟨some (17, true), .assign (.tmp 57), 3, none, true⟩]
theorem ref3_ReadMap_r14_go {K : Env → Heap → Prop} {τ ρ : Env} {h : Heap} : vcOps Try.prog K ref3_ReadMap_r14 τ ρ h = vcOps Try.prog K [
  ⟨some (56, false), .move (.tmp 9), 64, none, true⟩,
  ⟨some (57, false), .call { callee := .value (.func 31), args := #[.tmp 56, .const (.int .i64 2)], argTypes := #[64, 3] }, 3, none, false⟩,
  ⟨some (17, true), .assign (.tmp 57), 3, none, true⟩] τ ρ h := _root_.id rfl
def ref3_ReadMap_r15 : List Sop := [
  ⟨some (71, false), .move (.tmp 15), 3, none, true⟩,
  ⟨some (72, false), .binOp .lss 3 (.tmp 71) (.const (.int .i64 64)) 3, 4, none, true⟩,
  ⟨some (73, false), .move (.tmp 72), 4, none, true⟩,
  ⟨some (74, false), .move (.tmp 15), 3, some (73, false), true⟩,
  ⟨some (75, false), .binOp .eql 3 (.tmp 74) (.const (.int .i64 251)) 3, 4, some (73, false), true⟩,
  ⟨some (76, false), .pick (.tmp 73) (.const (.bool true)) (.tmp 75), 4, none, true⟩,
  ⟨some (70, true), .assign (.tmp 76), 4, none, true⟩]
theorem ref3_ReadMap_r15_go {K : Env → Heap → Prop} {τ ρ : Env} {h : Heap} : vcOps Try.prog K ref3_ReadMap_r15 τ ρ h = vcOps Try.prog K [
  ⟨some (71, false), .move (.tmp 15), 3, none, true⟩,
  ⟨some (72, false), .binOp .lss 3 (.tmp 71) (.const (.int .i64 64)) 3, 4, none, true⟩,
  ⟨some (73, false), .move (.tmp 72), 4, none, true⟩,
  ⟨some (74, false), .move (.tmp 15), 3, some (73, false), true⟩,
  ⟨some (75, false), .binOp .eql 3 (.tmp 74) (.const (.int .i64 251)) 3, 4, some (73, false), true⟩,
  ⟨some (76, false), .pick (.tmp 73) (.const (.bool true)) (.tmp 75), 4, none, true⟩,
  ⟨some (70, true), .assign (.tmp 76), 4, none, true⟩] τ ρ h := _root_.id rfl
def ref3_ReadMap_r16 : List Sop := [
  ⟨some (78, false), .move (.tmp 15), 3, none, true⟩,
  ⟨some (79, false), .binOp .lss 3 (.tmp 78) (.const (.int .i64 128)) 3, 4, none, true⟩,
  ⟨some (80, false), .move (.tmp 79), 4, none, true⟩,
  ⟨some (81, false), .move (.tmp 15), 3, some (80, false), true⟩,
  ⟨some (82, false), .binOp .eql 3 (.tmp 81) (.const (.int .i64 247)) 3, 4, some (80, false), true⟩,
  ⟨some (83, false), .pick (.tmp 80) (.const (.bool true)) (.tmp 82), 4, none, true⟩,
  ⟨some (77, true), .assign (.tmp 83), 4, none, true⟩]
theorem ref3_ReadMap_r16_go {K : Env → Heap → Prop} {τ ρ : Env} {h : Heap} : vcOps Try.prog K ref3_ReadMap_r16 τ ρ h = vcOps Try.prog K [
  ⟨some (78, false), .move (.tmp 15), 3, none, true⟩,
  ⟨some (79, false), .binOp .lss 3 (.tmp 78) (.const (.int .i64 128)) 3, 4, none, true⟩,
  ⟨some (80, false), .move (.tmp 79), 4, none, true⟩,
  ⟨some (81, false), .move (.tmp 15), 3, some (80, false), true⟩,
  ⟨some (82, false), .binOp .eql 3 (.tmp 81) (.const (.int .i64 247)) 3, 4, some (80, false), true⟩,
  ⟨some (83, false), .pick (.tmp 80) (.const (.bool true)) (.tmp 82), 4, none, true⟩,
  ⟨some (77, true), .assign (.tmp 83), 4, none, true⟩] τ ρ h := _root_.id rfl
def ref3_ReadMap_r17 : List Sop := [
  ⟨some (84, false), .move (.tmp 9), 64, none, true⟩,
  ⟨some (85, false), .move (.tmp 1), 22, none, true⟩,
  ⟨some (86, false), .call { callee := .value (.func 33), args := #[.tmp 84, .tmp 85, .const (.int .i64 1)], argTypes := #[64, 22, 3] }, 23, none, false⟩,
  ⟨some (87, false), .fieldAddr 35 (.tmp 16) 2, 0, none, true⟩,
  ⟨none, .store 23 (.tmp 87) (.tmp 86), 0, none, false⟩]
theorem ref3_ReadMap_r17_go {K : Env → Heap → Prop} {τ ρ : Env} {h : Heap} : vcOps Try.prog K ref3_ReadMap_r17 τ ρ h = vcOps Try.prog K [
  ⟨some (84, false), .move (.tmp 9), 64, none, true⟩,
  ⟨some (85, false), .move (.tmp 1), 22, none, true⟩,
  ⟨some (86, false), .call { callee := .value (.func 33), args := #[.tmp 84, .tmp 85, .const (.int .i64 1)], argTypes := #[64, 22, 3] }, 23, none, false⟩,
  ⟨some (87, false), .fieldAddr 35 (.tmp 16) 2, 0, none, true⟩,
  ⟨none, .store 23 (.tmp 87) (.tmp 86), 0, none, false⟩] τ ρ h := _root_.id rfl
def ref3_ReadMap_r18 : List Sop := [
  ⟨some (89, false), .move (.tmp 15), 3, none, true⟩,
  ⟨some (90, false), .binOp .lss 3 (.tmp 89) (.const (.int .i64 247)) 3, 4, none, true⟩,
  ⟨some (88, true), .assign (.tmp 90), 4, none, true⟩]
theorem ref3_ReadMap_r18_go {K : Env → Heap → Prop} {τ ρ : Env} {h : Heap} : vcOps Try.prog K ref3_ReadMap_r18 τ ρ h = vcOps Try.prog K [
  ⟨some (89, false), .move (.tmp 15), 3, none, true⟩,
  ⟨some (90, false), .binOp .lss 3 (.tmp 89) (.const (.int .i64 247)) 3, 4, none, true⟩,
  ⟨some (88, true), .assign (.tmp 90), 4, none, true⟩] τ ρ h := _root_.id rfl
def ref3_ReadMap_r19 : List Sop := [
  ⟨some (91, false), .move (.tmp 9), 64, none, true⟩,
  ⟨some (92, false), .move (.tmp 14), 3, none, true⟩,
  ⟨some (93, false), .call { callee := .value (.func 34), args := #[.tmp 91, .const (.int .i64 17), .tmp 92], argTypes := #[64, 27, 3] }, 0, none, false⟩]
theorem ref3_ReadMap_r19_go {K : Env → Heap → Prop} {τ ρ : Env} {h : Heap} : vcOps Try.prog K ref3_ReadMap_r19 τ ρ h = vcOps Try.prog K [
  ⟨some (91, false), .move (.tmp 9), 64, none, true⟩,
  ⟨some (92, false), .move (.tmp 14), 3, none, true⟩,
  ⟨some (93, false), .call { callee := .value (.func 34), args := #[.tmp 91, .const (.int .i64 17), .tmp 92], argTypes := #[64, 27, 3] }, 0, none, false⟩] τ ρ h := _root_.id rfl
def ref3_ReadMap_r20 : List Sop := [
  ⟨some (95, false), .move (.tmp 15), 3, none, true⟩,
  ⟨some (96, false), .binOp .lss 3 (.tmp 95) (.const (.int .i64 251)) 3, 4, none, true⟩,
  ⟨some (94, true), .assign (.tmp 96), 4, none, true⟩]
theorem ref3_ReadMap_r20_go {K : Env → Heap → Prop} {τ ρ : Env} {h : Heap} : vcOps Try.prog K ref3_ReadMap_r20 τ ρ h = vcOps Try.prog K [
  ⟨some (95, false), .move (.tmp 15), 3, none, true⟩,
  ⟨some (96, false), .binOp .lss 3 (.tmp 95) (.const (.int .i64 251)) 3, 4, none, true⟩,
  ⟨some (94, true), .assign (.tmp 96), 4, none, true⟩] τ ρ h := _root_.id rfl
def ref3_ReadMap_r21 : List Sop := [
  ⟨some (97, false), .move (.tmp 11), 23, none, true⟩,
  ⟨some (98, false), .call { callee := .builtin .len, args := #[.tmp 97], argTypes := #[23] }, 3, none, true⟩,
  ⟨some (99, false), .binOp .sub 3 (.tmp 98) (.const (.int .i64 251)) 3, 3, none, true⟩,
  ⟨some (100, false), .move (.tmp 15), 3, none, true⟩,
  ⟨some (101, false), .binOp .add 3 (.tmp 99) (.tmp 100) 3, 3, none, true⟩,
  ⟨some (18, true), .assign (.tmp 101), 3, none, true⟩]
theorem ref3_ReadMap_r21_go {K : Env → Heap → Prop} {τ ρ : Env} {h : Heap} : vcOps Try.prog K ref3_ReadMap_r21 τ ρ h = vcOps Try.prog K [
  ⟨some (97, false), .move (.tmp 11), 23, none, true⟩,
  ⟨some (98, false), .call { callee := .builtin .len, args := #[.tmp 97], argTypes := #[23] }, 3, none, true⟩,
  ⟨some (99, false), .binOp .sub 3 (.tmp 98) (.const (.int .i64 251)) 3, 3, none, true⟩,
  ⟨some (100, false), .move (.tmp 15), 3, none, true⟩,
  ⟨some (101, false), .binOp .add 3 (.tmp 99) (.tmp 100) 3, 3, none, true⟩,
  ⟨some (18, true), .assign (.tmp 101), 3, none, true⟩] τ ρ h := _root_.id rfl
def ref3_ReadMap_r22 : List Sop := [
  ⟨some (102, false), .move (.tmp 18), 3, none, true⟩,
  ⟨some (103, false), .binOp .lss 3 (.tmp 102) (.const (.int .i64 0)) 3, 4, none, true⟩,
  ⟨some (104, false), .move (.tmp 103), 4, none, true⟩,
  ⟨some (105, false), .move (.tmp 9), 64, some (104, true), true⟩,
  ⟨some (106, false), .nilCheck (.tmp 105), 0, some (104, true), true⟩,
  ⟨some (107, false), .fieldAddr 66 (.tmp 106) 2, 0, some (104, true), true⟩,
  ⟨some (108, false), .load 27 (.tmp 107), 27, some (104, true), true⟩,
  ⟨some (109, false), .binOp .eql 27 (.tmp 108) (.const (.int .i64 0)) 27, 4, some (104, true), true⟩,
  ⟨some (110, true), .pick (.tmp 104) (.tmp 109) (.const (.bool false)), 4, none, true⟩]
theorem ref3_ReadMap_r22_go {K : Env → Heap → Prop} {τ ρ : Env} {h : Heap} : vcOps Try.prog K ref3_ReadMap_r22 τ ρ h = vcOps Try.prog K [
  ⟨some (102, false), .move (.tmp 18), 3, none, true⟩,
  ⟨some (103, false), .binOp .lss 3 (.tmp 102) (.const (.int .i64 0)) 3, 4, none, true⟩,
  ⟨some (104, false), .move (.tmp 103), 4, none, true⟩,
  ⟨some (105, false), .move (.tmp 9), 64, some (104, true), true⟩,
  ⟨some (106, false), .nilCheck (.tmp 105), 0, some (104, true), true⟩,
  ⟨some (107, false), .fieldAddr 66 (.tmp 106) 2, 0, some (104, true), true⟩,
  ⟨some (108, false), .load 27 (.tmp 107), 27, some (104, true), true⟩,
  ⟨some (109, false), .binOp .eql 27 (.tmp 108) (.const (.int .i64 0)) 27, 4, some (104, true), true⟩,
  ⟨some (110, true), .pick (.tmp 104) (.tmp 109) (.const (.bool false)), 4, none, true⟩] τ ρ h := _root_.id rfl
def ref3_ReadMap_r23 : List Sop := [
  ⟨some (111, false), .move (.tmp 9), 64, none, true⟩,
  ⟨some (112, false), .move (.tmp 14), 3, none, true⟩,
  ⟨some (113, false), .call { callee := .value (.func 34), args := #[.tmp 111, .const (.int .i64 17), .tmp 112], argTypes := #[64, 27, 3] }, 0, none, false⟩]
theorem ref3_ReadMap_r23_go {K : Env → Heap → Prop} {τ ρ : Env} {h : Heap} : vcOps Try.prog K ref3_ReadMap_r23 τ ρ h = vcOps Try.prog K [
  ⟨some (111, false), .move (.tmp 9), 64, none, true⟩,
  ⟨some (112, false), .move (.tmp 14), 3, none, true⟩,
  ⟨some (113, false), .call { callee := .value (.func 34), args := #[.tmp 111, .const (.int .i64 17), .tmp 112], argTypes := #[64, 27, 3] }, 0, none, false⟩] τ ρ h := _root_.id rfl
def ref3_ReadMap_r24 : List Sop := [
  ⟨some (114, false), .fieldAddr 35 (.tmp 16) 1, 0, none, true⟩,
  ⟨some (115, false), .load 23 (.tmp 114), 23, none, true⟩,
  ⟨some (116, false), .move (.tmp 18), 3, none, true⟩,
  ⟨some (117, false), .call { callee := .builtin .max, args := #[.tmp 116, .const (.int .i64 0)], argTypes := #[3, 3] }, 3, none, true⟩,
  ⟨some (118, false), .slice 23 (.tmp 115) none (some (.tmp 117)) none, 23, none, true⟩,
  ⟨some (119, false), .fieldAddr 35 (.tmp 16) 1, 0, none, true⟩,
  ⟨none, .store 23 (.tmp 119) (.tmp 118), 0, none, false⟩]
theorem ref3_ReadMap_r24_go {K : Env → Heap → Prop} {τ ρ : Env} {h : Heap} : vcOps Try.prog K ref3_ReadMap_r24 τ ρ h = vcOps Try.prog K [
  ⟨some (114, false), .fieldAddr 35 (.tmp 16) 1, 0, none, true⟩,
  ⟨some (115, false), .load 23 (.tmp 114), 23, none, true⟩,
  ⟨some (116, false), .move (.tmp 18), 3, none, true⟩,
  ⟨some (117, false), .call { callee := .builtin .max, args := #[.tmp 116, .const (.int .i64 0)], argTypes := #[3, 3] }, 3, none, true⟩,
  ⟨some (118, false), .slice 23 (.tmp 115) none (some (.tmp 117)) none, 23, none, true⟩,
  ⟨some (119, false), .fieldAddr 35 (.tmp 16) 1, 0, none, true⟩,
  ⟨none, .store 23 (.tmp 119) (.tmp 118), 0, none, false⟩] τ ρ h := _root_.id rfl
def ref3_ReadMap_r25 : List Sop := [
  ⟨some (121, false), .move (.tmp 15), 3, none, true⟩,
  ⟨some (122, false), .binOp .lss 3 (.tmp 121) (.const (.int .i64 255)) 3, 4, none, true⟩,
  ⟨some (120, true), .assign (.tmp 122), 4, none, true⟩]
theorem ref3_ReadMap_r25_go {K : Env → Heap → Prop} {τ ρ : Env} {h : Heap} : vcOps Try.prog K ref3_ReadMap_r25 τ ρ h = vcOps Try.prog K [
  ⟨some (121, false), .move (.tmp 15), 3, none, true⟩,
  ⟨some (122, false), .binOp .lss 3 (.tmp 121) (.const (.int .i64 255)) 3, 4, none, true⟩,
  ⟨some (120, true), .assign (.tmp 122), 4, none, true⟩] τ ρ h := _root_.id rfl
def ref3_ReadMap_r26 : List (Sop × List Sop) := [
  (⟨some (123, false), .fieldAddr 35 (.tmp 16) 1, 0, none, true⟩, []),
  (⟨some (124, false), .load 23 (.tmp 123), 23, none, true⟩, []),
  (⟨some (125, false), .move (.tmp 9), 64, none, true⟩, []),
  (⟨some (126, false), .move (.tmp 1), 22, none, true⟩, []),
  (⟨some (127, false), .move (.tmp 15), 3, none, true⟩, []),
  (⟨some (128, false), .binOp .sub 3 (.tmp 127) (.const (.int .i64 251)) 3, 3, none, true⟩, []),
  (⟨some (129, false), .call { callee := .value (.func 33), args := #[.tmp 125, .tmp 126, .tmp 128], argTypes := #[64, 22, 3] }, 23, none, false⟩, [⟨some (123, false), .fieldAddr 35 (.tmp 16) 1, 0, none, true⟩, ⟨some (124, false), .load 23 (.tmp 123), 23, none, true⟩]),
  (⟨some (130, false), .call { callee := .builtin .append, args := #[.tmp 124, .tmp 129], argTypes := #[23, 23] }, 23, none, false⟩, []),
  (⟨some (131, false), .fieldAddr 35 (.tmp 16) 1, 0, none, true⟩, []),
  (⟨none, .store 23 (.tmp 131) (.tmp 130), 0, none, false⟩, [])]
theorem ref3_ReadMap_r26_go {K : Env → Heap → Prop} {τ ρ : Env} {h : Heap} : vcDraw Try.prog K ref3_ReadMap_r26 τ ρ h = vcDraw Try.prog K [
  (⟨some (123, false), .fieldAddr 35 (.tmp 16) 1, 0, none, true⟩, []),
  (⟨some (124, false), .load 23 (.tmp 123), 23, none, true⟩, []),
  (⟨some (125, false), .move (.tmp 9), 64, none, true⟩, []),
  (⟨some (126, false), .move (.tmp 1), 22, none, true⟩, []),
  (⟨some (127, false), .move (.tmp 15), 3, none, true⟩, []),
  (⟨some (128, false), .binOp .sub 3 (.tmp 127) (.const (.int .i64 251)) 3, 3, none, true⟩, []),
  (⟨some (129, false), .call { callee := .value (.func 33), args := #[.tmp 125, .tmp 126, .tmp 128], argTypes := #[64, 22, 3] }, 23, none, false⟩, [⟨some (123, false), .fieldAddr 35 (.tmp 16) 1, 0, none, true⟩, ⟨some (124, false), .load 23 (.tmp 123), 23, none, true⟩]),
  (⟨some (130, false), .call { callee := .builtin .append, args := #[.tmp 124, .tmp 129], argTypes := #[23, 23] }, 23, none, false⟩, []),
  (⟨some (131, false), .fieldAddr 35 (.tmp 16) 1, 0, none, true⟩, []),
  (⟨none, .store 23 (.tmp 131) (.tmp 130), 0, none, false⟩, [])] τ ρ h := _root_.id rfl
def ref3_ReadMap_r27 : List Sop := [
  ⟨some (58, false), .move (.tmp 9), 64, none, true⟩,
  ⟨some (59, false), .move (.tmp 1), 22, none, true⟩,
  ⟨some (60, false), .move (.tmp 9), 64, none, true⟩,
  ⟨some (61, false), .call { callee := .value (.func 31), args := #[.tmp 60, .const (.int .i64 2)], argTypes := #[64, 3] }, 3, none, false⟩,
  ⟨some (62, false), .call { callee := .value (.func 33), args := #[.tmp 58, .tmp 59, .tmp 61], argTypes := #[64, 22, 3] }, 23, none, false⟩,
  ⟨some (63, false), .fieldAddr 35 (.tmp 16) 1, 0, none, true⟩,
  ⟨none, .store 23 (.tmp 63) (.tmp 62), 0, none, false⟩]
theorem ref3_ReadMap_r27_go {K : Env → Heap → Prop} {τ ρ : Env} {h : Heap} : vcOps Try.prog K ref3_ReadMap_r27 τ ρ h = vcOps Try.prog K [
  ⟨some (58, false), .move (.tmp 9), 64, none, true⟩,
  ⟨some (59, false), .move (.tmp 1), 22, none, true⟩,
  ⟨some (60, false), .move (.tmp 9), 64, none, true⟩,
  ⟨some (61, false), .call { callee := .value (.func 31), args := #[.tmp 60, .const (.int .i64 2)], argTypes := #[64, 3] }, 3, none, false⟩,
  ⟨some (62, false), .call { callee := .value (.func 33), args := #[.tmp 58, .tmp 59, .tmp 61], argTypes := #[64, 22, 3] }, 23, none, false⟩,
  ⟨some (63, false), .fieldAddr 35 (.tmp 16) 1, 0, none, true⟩,
  ⟨none, .store 23 (.tmp 63) (.tmp 62), 0, none, false⟩] τ ρ h := _root_.id rfl
def ref3_ReadMap_r28 : List Sop := [
  ⟨some (64, false), .move (.tmp 9), 64, none, true⟩,
  ⟨some (65, false), .move (.tmp 1), 22, none, true⟩,
  ⟨some (66, false), .move (.tmp 9), 64, none, true⟩,
  ⟨some (67, false), .call { callee := .value (.func 31), args := #[.tmp 66, .const (.int .i64 2)], argTypes := #[64, 3] }, 3, none, false⟩,
  ⟨some (68, false), .call { callee := .value (.func 33), args := #[.tmp 64, .tmp 65, .tmp 67], argTypes := #[64, 22, 3] }, 23, none, false⟩,
  ⟨some (69, false), .fieldAddr 35 (.tmp 16) 2, 0, none, true⟩,
  ⟨none, .store 23 (.tmp 69) (.tmp 68), 0, none, false⟩]
theorem ref3_ReadMap_r28_go {K : Env → Heap → Prop} {τ ρ : Env} {h : Heap} : vcOps Try.prog K ref3_ReadMap_r28 τ ρ h = vcOps Try.prog K [
  ⟨some (64, false), .move (.tmp 9), 64, none, true⟩,
  ⟨some (65, false), .move (.tmp 1), 22, none, true⟩,
  ⟨some (66, false), .move (.tmp 9), 64, none, true⟩,
  ⟨some (67, false), .call { callee := .value (.func 31), args := #[.tmp 66, .const (.int .i64 2)], argTypes := #[64, 3] }, 3, none, false⟩,
  ⟨some (68, false), .call { callee := .value (.func 33), args := #[.tmp 64, .tmp 65, .tmp 67], argTypes := #[64, 22, 3] }, 23, none, false⟩,
  ⟨some (69, false), .fieldAddr 35 (.tmp 16) 2, 0, none, true⟩,
  ⟨none, .store 23 (.tmp 69) (.tmp 68), 0, none, false⟩] τ ρ h := _root_.id rfl
def ref3_ReadMap_r29 : List Sop := [
  ⟨some (132, false), .move (.tmp 12), 3, none, true⟩,
  ⟨some (133, false), .move (.tmp 17), 3, none, true⟩,
  ⟨some (134, false), .binOp .add 3 (.const (.int .i64 1)) (.tmp 133) 3, 3, none, true⟩,
  ⟨some (135, false), .binOp .add 3 (.tmp 132) (.tmp 134) 3, 3, none, true⟩,
  ⟨some (12, true), .assign (.tmp 135), 3, none, true⟩]
theorem ref3_ReadMap_r29_go {K : Env → Heap → Prop} {τ ρ : Env} {h : Heap} : vcOps Try.prog K ref3_ReadMap_r29 τ ρ h = vcOps Try.prog K [
  ⟨some (132, false), .move (.tmp 12), 3, none, true⟩,
  ⟨some (133, false), .move (.tmp 17), 3, none, true⟩,
  ⟨some (134, false), .binOp .add 3 (.const (.int .i64 1)) (.tmp 133) 3, 3, none, true⟩,
  ⟨some (135, false), .binOp .add 3 (.tmp 132) (.tmp 134) 3, 3, none, true⟩,
  ⟨some (12, true), .assign (.tmp 135), 3, none, true⟩] τ ρ h := _root_.id rfl
def ref3_ReadMap_r30 : List Sop := [
  ⟨some (136, false), .move (.tmp 12), 3, none, true⟩,
  ⟨some (137, false), .fieldAddr 35 (.tmp 16) 0, 0, none, true⟩,
  ⟨none, .store 3 (.tmp 137) (.tmp 136), 0, none, false⟩]
theorem ref3_ReadMap_r30_go {K : Env → Heap → Prop} {τ ρ : Env} {h : Heap} : vcOps Try.prog K ref3_ReadMap_r30 τ ρ h = vcOps Try.prog K [
  ⟨some (136, false), .move (.tmp 12), 3, none, true⟩,
  ⟨some (137, false), .fieldAddr 35 (.tmp 16) 0, 0, none, true⟩,
  ⟨none, .store 3 (.tmp 137) (.tmp 136), 0, none, false⟩] τ ρ h := _root_.id rfl
def ref3_ReadMap_r31 : List Sop := [
  ⟨some (138, false), .fieldAddr 35 (.tmp 16) 1, 0, none, true⟩,
  ⟨some (139, false), .load 23 (.tmp 138), 23, none, true⟩,
  ⟨some (11, true), .assign (.tmp 139), 23, none, true⟩]
theorem ref3_ReadMap_r31_go {K : Env → Heap → Prop} {τ ρ : Env} {h : Heap} : vcOps Try.prog K ref3_ReadMap_r31 τ ρ h = vcOps Try.prog K [
  ⟨some (138, false), .fieldAddr 35 (.tmp 16) 1, 0, none, true⟩,
  ⟨some (139, false), .load 23 (.tmp 138), 23, none, true⟩,
  ⟨some (11, true), .assign (.tmp 139), 23, none, true⟩] τ ρ h := _root_.id rfl
def ref3_ReadMap_r32 : List Sop := [
  ⟨some (140, false), .move (.tmp 13), 26, none, true⟩,
  ⟨some (141, false), .load 35 (.tmp 16), 35, none, true⟩,
  ⟨some (142, false), .buildSlice 26 1 #[(0, .tmp 141)], 26, none, false⟩,
  ⟨some (143, false), .call { callee := .builtin .append, args := #[.tmp 140, .tmp 142], argTypes := #[26, 26] }, 26, none, false⟩,
  ⟨some (13, true), .assign (.tmp 143), 26, none, true⟩]
theorem ref3_ReadMap_r32_go {K : Env → Heap → Prop} {τ ρ : Env} {h : Heap} : vcOps Try.prog K ref3_ReadMap_r32 τ ρ h = vcOps Try.prog K [
  ⟨some (140, false), .move (.tmp 13), 26, none, true⟩,
  ⟨some (141, false), .load 35 (.tmp 16), 35, none, true⟩,
  ⟨some (142, false), .buildSlice 26 1 #[(0, .tmp 141)], 26, none, false⟩,
  ⟨some (143, false), .call { callee := .builtin .append, args := #[.tmp 140, .tmp 142], argTypes := #[26, 26] }, 26, none, false⟩,
  ⟨some (13, true), .assign (.tmp 143), 26, none, true⟩] τ ρ h := _root_.id rfl
def ref3_ReadMap_r33 : List Sop := [
  ⟨some (34, false), .move (.tmp 10), 3, none, true⟩,
  ⟨some (35, false), .binOp .sub 3 (.tmp 34) (.const (.int .i64 1)) 3, 3, none, true⟩,
  ⟨some (10, true), .assign (.tmp 35), 3, none, true⟩]
theorem ref3_ReadMap_r33_go {K : Env → Heap → Prop} {τ ρ : Env} {h : Heap} : vcOps Try.prog K ref3_ReadMap_r33 τ ρ h = vcOps Try.prog K [
  ⟨some (34, false), .move (.tmp 10), 3, none, true⟩,
  ⟨some (35, false), .binOp .sub 3 (.tmp 34) (.const (.int .i64 1)) 3, 3, none, true⟩,
  ⟨some (10, true), .assign (.tmp 35), 3, none, true⟩] τ ρ h := _root_.id rfl
def ref3_ReadMap_r34 : List Sop := [
  ⟨some (144, false), .move (.tmp 9), 64, none, true⟩,
  ⟨some (145, false), .nilCheck (.tmp 144), 0, none, true⟩,
  ⟨some (146, false), .fieldAddr 66 (.tmp 145) 1, 0, none, true⟩,
  ⟨some (147, false), .load 3 (.tmp 146), 3, none, true⟩,
  ⟨some (148, false), .move (.tmp 0), 9, none, true⟩,
  ⟨some (149, false), .call { callee := .builtin .len, args := #[.tmp 148], argTypes := #[9] }, 3, none, true⟩,
  ⟨some (150, true), .binOp .lss 3 (.tmp 147) (.tmp 149) 3, 4, none, true⟩]
theorem ref3_ReadMap_r34_go {K : Env → Heap → Prop} {τ ρ : Env} {h : Heap} : vcOps Try.prog K ref3_ReadMap_r34 τ ρ h = vcOps Try.prog K [
  ⟨some (144, false), .move (.tmp 9), 64, none, true⟩,
  ⟨some (145, false), .nilCheck (.tmp 144), 0, none, true⟩,
  ⟨some (146, false), .fieldAddr 66 (.tmp 145) 1, 0, none, true⟩,
  ⟨some (147, false), .load 3 (.tmp 146), 3, none, true⟩,
  ⟨some (148, false), .move (.tmp 0), 9, none, true⟩,
  ⟨some (149, false), .call { callee := .builtin .len, args := #[.tmp 148], argTypes := #[9] }, 3, none, true⟩,
  ⟨some (150, true), .binOp .lss 3 (.tmp 147) (.tmp 149) 3, 4, none, true⟩] τ ρ h := _root_.id rfl
def ref3_ReadMap_r35 : List Sop := [
  ⟨some (151, false), .move (.tmp 9), 64, none, true⟩,
  ⟨some (152, false), .move (.tmp 9), 64, none, true⟩,
  ⟨some (153, false), .nilCheck (.tmp 152), 0, none, true⟩,
  ⟨some (154, false), .fieldAddr 66 (.tmp 153) 1, 0, none, true⟩,
  ⟨some (155, false), .load 3 (.tmp 154), 3, none, true⟩,
  ⟨some (156, false), .call { callee := .value (.func 34), args := #[.tmp 151, .const (.int .i64 2), .tmp 155], argTypes := #[64, 27, 3] }, 0, none, false⟩]
theorem ref3_ReadMap_r35_go {K : Env → Heap → Prop} {τ ρ : Env} {h : Heap} : vcOps Try.prog K ref3_ReadMap_r35 τ ρ h = vcOps Try.prog K [
  ⟨some (151, false), .move (.tmp 9), 64, none, true⟩,
  ⟨some (152, false), .move (.tmp 9), 64, none, true⟩,
  ⟨some (153, false), .nilCheck (.tmp 152), 0, none, true⟩,
  ⟨some (154, false), .fieldAddr 66 (.tmp 153) 1, 0, none, true⟩,
  ⟨some (155, false), .load 3 (.tmp 154), 3, none, true⟩,
  ⟨some (156, false), .call { callee := .value (.func 34), args := #[.tmp 151, .const (.int .i64 2), .tmp 155], argTypes := #[64, 27, 3] }, 0, none, false⟩] τ ρ h := _root_.id rfl
def ref3_ReadMap_r36 : List Sop := [
  ⟨some (157, false), .move (.tmp 9), 64, none, true⟩,
  ⟨some (158, false), .nilCheck (.tmp 157), 0, none, true⟩,
  ⟨some (159, false), .fieldAddr 66 (.tmp 158) 2, 0, none, true⟩,
  ⟨some (160, false), .load 27 (.tmp 159), 27, none, true⟩,
  ⟨some (161, true), .binOp .neq 27 (.tmp 160) (.const (.int .i64 0)) 27, 4, none, true⟩]
theorem ref3_ReadMap_r36_go {K : Env → Heap → Prop} {τ ρ : Env} {h : Heap} : vcOps Try.prog K ref3_ReadMap_r36 τ ρ h = vcOps Try.prog K [
  ⟨some (157, false), .move (.tmp 9), 64, none, true⟩,
  ⟨some (158, false), .nilCheck (.tmp 157), 0, none, true⟩,
  ⟨some (159, false), .fieldAddr 66 (.tmp 158) 2, 0, none, true⟩,
  ⟨some (160, false), .load 27 (.tmp 159), 27, none, true⟩,
  ⟨some (161, true), .binOp .neq 27 (.tmp 160) (.const (.int .i64 0)) 27, 4, none, true⟩] τ ρ h := _root_.id rfl
def ref3_ReadMap_r37 : List (Sop × List Sop) := [
  (⟨some (162, false), .move (.tmp 9), 64, none, true⟩, []),
  (⟨some (163, false), .nilCheck (.tmp 162), 0, none, true⟩, []),
  (⟨some (164, false), .fieldAddr 66 (.tmp 163) 2, 0, none, true⟩, []),
  (⟨some (165, false), .load 27 (.tmp 164), 27, none, true⟩, []),
  (⟨some (166, false), .move (.tmp 9), 64, none, true⟩, []),
  (⟨some (167, false), .nilCheck (.tmp 166), 0, none, true⟩, []),
  (⟨some (168, false), .fieldAddr 66 (.tmp 167) 3, 0, none, true⟩, []),
  (⟨some (169, false), .load 3 (.tmp 168), 3, none, true⟩, []),
  (⟨some (6, true), .assign (.const (.slice none 0 0)), 26, none, true⟩, []),
  (⟨some (7, true), .assign (.tmp 165), 27, none, true⟩, []),
  (⟨some (8, true), .assign (.tmp 169), 3, none, true⟩, [])]
theorem ref3_ReadMap_r37_go {K : Env → Heap → Prop} {τ ρ : Env} {h : Heap} : vcDraw Try.prog K ref3_ReadMap_r37 τ ρ h = vcDraw Try.prog K [
  (⟨some (162, false), .move (.tmp 9), 64, none, true⟩, []),
  (⟨some (163, false), .nilCheck (.tmp 162), 0, none, true⟩, []),
  (⟨some (164, false), .fieldAddr 66 (.tmp 163) 2, 0, none, true⟩, []),
  (⟨some (165, false), .load 27 (.tmp 164), 27, none, true⟩, []),
  (⟨some (166, false), .move (.tmp 9), 64, none, true⟩, []),
  (⟨some (167, false), .nilCheck (.tmp 166), 0, none, true⟩, []),
  (⟨some (168, false), .fieldAddr 66 (.tmp 167) 3, 0, none, true⟩, []),
  (⟨some (169, false), .load 3 (.tmp 168), 3, none, true⟩, []),
  (⟨some (6, true), .assign (.const (.slice none 0 0)), 26, none, true⟩, []),
  (⟨some (7, true), .assign (.tmp 165), 27, none, true⟩, []),
  (⟨some (8, true), .assign (.tmp 169), 3, none, true⟩, [])] τ ρ h := _root_.id rfl
def ref3_ReadMap_r38 : List Sop := [
  ⟨some (170, false), .move (.tmp 13), 26, none, true⟩,
  ⟨some (6, true), .assign (.tmp 170), 26, none, true⟩,
  ⟨some (7, true), .assign (.const (.int .i64 0)), 27, none, true⟩,
  ⟨some (8, true), .assign (.const (.int .i64 0)), 3, none, true⟩]
theorem ref3_ReadMap_r38_go {K : Env → Heap → Prop} {τ ρ : Env} {h : Heap} : vcOps Try.prog K ref3_ReadMap_r38 τ ρ h = vcOps Try.prog K [
  ⟨some (170, false), .move (.tmp 13), 26, none, true⟩,
  ⟨some (6, true), .assign (.tmp 170), 26, none, true⟩,
  ⟨some (7, true), .assign (.const (.int .i64 0)), 27, none, true⟩,
  ⟨some (8, true), .assign (.const (.int .i64 0)), 3, none, true⟩] τ ρ h := _root_.id rfl
def ref3_ReadMap_l0 : Cd := .seq (.seq (.region ref3_ReadMap_r6) (.cond (.tmp 33) (.skip) (.exit 0))) (.seq (.block 1 (.seq (.region ref3_ReadMap_r7) (.seq (.region ref3_ReadMap_r8) (.seq (.region ref3_ReadMap_r9) (.seq (.region ref3_ReadMap_r10) (.seq (.seq (.region ref3_ReadMap_r11) (.cond (.tmp 51) (.region ref3_ReadMap_r12) (.skip))) (.seq (.seq (.region ref3_ReadMap_r13) (.cond (.tmp 55) (.region ref3_ReadMap_r14) (.skip))) (.seq (.block 2 (.seq (.region ref3_ReadMap_r15) (.cond (.tmp 70) (.skip) (.seq (.region ref3_ReadMap_r16) (.cond (.tmp 77) (.region ref3_ReadMap_r17) (.seq (.region ref3_ReadMap_r18) (.cond (.tmp 88) (.region ref3_ReadMap_r19) (.seq (.region ref3_ReadMap_r20) (.cond (.tmp 94) (.seq (.region ref3_ReadMap_r21) (.seq (.seq (.region ref3_ReadMap_r22) (.cond (.tmp 110) (.region ref3_ReadMap_r23) (.skip))) (.region ref3_ReadMap_r24))) (.seq (.region ref3_ReadMap_r25) (.cond (.tmp 120) (.draw ref3_ReadMap_r26) (.seq (.region ref3_ReadMap_r27) (.region ref3_ReadMap_r28))))))))))))) (.seq (.region ref3_ReadMap_r29) (.seq (.region ref3_ReadMap_r30) (.seq (.region ref3_ReadMap_r31) (.region ref3_ReadMap_r32)))))))))))) (.region ref3_ReadMap_r33))
theorem ref3_ReadMap_l0_go {Q : Ex → Env → Heap → Prop} {ρ : Env} {h : Heap} : Cd.vc Try.prog ref3_ReadMap_l0 Q ρ h = Cd.vc Try.prog (.seq (.seq (.region ref3_ReadMap_r6) (.cond (.tmp 33) (.skip) (.exit 0))) (.seq (.block 1 (.seq (.region ref3_ReadMap_r7) (.seq (.region ref3_ReadMap_r8) (.seq (.region ref3_ReadMap_r9) (.seq (.region ref3_ReadMap_r10) (.seq (.seq (.region ref3_ReadMap_r11) (.cond (.tmp 51) (.region ref3_ReadMap_r12) (.skip))) (.seq (.seq (.region ref3_ReadMap_r13) (.cond (.tmp 55) (.region ref3_ReadMap_r14) (.skip))) (.seq (.block 2 (.seq (.region ref3_ReadMap_r15) (.cond (.tmp 70) (.skip) (.seq (.region ref3_ReadMap_r16) (.cond (.tmp 77) (.region ref3_ReadMap_r17) (.seq (.region ref3_ReadMap_r18) (.cond (.tmp 88) (.region ref3_ReadMap_r19) (.seq (.region ref3_ReadMap_r20) (.cond (.tmp 94) (.seq (.region ref3_ReadMap_r21) (.seq (.seq (.region ref3_ReadMap_r22) (.cond (.tmp 110) (.region ref3_ReadMap_r23) (.skip))) (.region ref3_ReadMap_r24))) (.seq (.region ref3_ReadMap_r25) (.cond (.tmp 120) (.draw ref3_ReadMap_r26) (.seq (.region ref3_ReadMap_r27) (.region ref3_ReadMap_r28))))))))))))) (.seq (.region ref3_ReadMap_r29) (.seq (.region ref3_ReadMap_r30) (.seq (.region ref3_ReadMap_r31) (.region ref3_ReadMap_r32)))))))))))) (.region ref3_ReadMap_r33))) Q ρ h := _root_.id rfl
def ref3_ReadMap : Cd := .seq (.region ref3_ReadMap_r0) (.seq (.region ref3_ReadMap_r1) (.seq (.region ref3_ReadMap_r2) (.seq (.region ref3_ReadMap_r3) (.seq (.region ref3_ReadMap_r4) (.seq (.region ref3_ReadMap_r5) (.seq (.block 0 (.loop ref3_ReadMap_l0)) (.seq (.seq (.region ref3_ReadMap_r34) (.cond (.tmp 150) (.region ref3_ReadMap_r35) (.skip))) (.seq (.seq (.region ref3_ReadMap_r36) (.cond (.tmp 161) (.seq (.draw ref3_ReadMap_r37) (.ret)) (.skip))) (.seq (.region ref3_ReadMap_r38) (.ret))))))))))
theorem ref3_ReadMap_go {Q : Ex → Env → Heap → Prop} {ρ : Env} {h : Heap} : Cd.vc Try.prog ref3_ReadMap Q ρ h = Cd.vc Try.prog (.seq (.region ref3_ReadMap_r0) (.seq (.region ref3_ReadMap_r1) (.seq (.region ref3_ReadMap_r2) (.seq (.region ref3_ReadMap_r3) (.seq (.region ref3_ReadMap_r4) (.seq (.region ref3_ReadMap_r5) (.seq (.block 0 (.loop ref3_ReadMap_l0)) (.seq (.seq (.region ref3_ReadMap_r34) (.cond (.tmp 150) (.region ref3_ReadMap_r35) (.skip))) (.seq (.seq (.region ref3_ReadMap_r36) (.cond (.tmp 161) (.seq (.draw ref3_ReadMap_r37) (.ret)) (.skip))) (.seq (.region ref3_ReadMap_r38) (.ret))))))))))) Q ρ h := _root_.id rfl
theorem ref3_ReadMap_calls {args : List Value} {h : Heap} {R : Value → Heap → Prop} (hl : args.length = 3) (hv : Cd.vc Try.prog ref3_ReadMap (retQ Try.prog [(6, none), (7, none), (8, none)] R) (initEnv args [0, 1, 2, 6, 7, 8, 9, 10, 11, 12, 13, 14, 15, 16, 17, 18, 33, 51, 55, 70, 77, 88, 94, 110, 120, 150, 161]) h) : HCalls Try.prog 9 args.toArray h R :=
  hcalls_of_vc (by kernel_rfl) Try.func9 (cd := ref3_ReadMap) (L := [0, 1, 2, 6, 7, 8, 9, 10, 11, 12, 13, 14, 15, 16, 17, 18, 33, 51, 55, 70, 77, 88, 94, 110, 120, 150, 161]) (by kernel_rfl) (by kernel_rfl) ⟨by rw [hl, Try.ntmps9]; decide, by rw [Try.ntmps9]; decide⟩ hv
def ref3_ReadMap_gos := And.intro @ref3_ReadMap_go (And.intro @ref3_ReadMap_r0_go (And.intro @ref3_ReadMap_r1_go (And.intro @ref3_ReadMap_r2_go (And.intro @ref3_ReadMap_r3_go (And.intro @ref3_ReadMap_r4_go (And.intro @ref3_ReadMap_r5_go (And.intro @ref3_ReadMap_r6_go (And.intro @ref3_ReadMap_r7_go (And.intro @ref3_ReadMap_r8_go (And.intro @ref3_ReadMap_r9_go (And.intro @ref3_ReadMap_r10_go (And.intro @ref3_ReadMap_r11_go (And.intro @ref3_ReadMap_r12_go (And.intro @ref3_ReadMap_r13_go (And.intro @ref3_ReadMap_r14_go (And.intro @ref3_ReadMap_r15_go (And.intro @ref3_ReadMap_r16_go (And.intro @ref3_ReadMap_r17_go (And.intro @ref3_ReadMap_r18_go (And.intro @ref3_ReadMap_r19_go (And.intro @ref3_ReadMap_r20_go (And.intro @ref3_ReadMap_r21_go (And.intro @ref3_ReadMap_r22_go (And.intro @ref3_ReadMap_r23_go (And.intro @ref3_ReadMap_r24_go (And.intro @ref3_ReadMap_r25_go (And.intro @ref3_ReadMap_r26_go (And.intro @ref3_ReadMap_r27_go (And.intro @ref3_ReadMap_r28_go (And.intro @ref3_ReadMap_r29_go (And.intro @ref3_ReadMap_r30_go (And.intro @ref3_ReadMap_r31_go (And.intro @ref3_ReadMap_r32_go (And.intro @ref3_ReadMap_r33_go (And.intro @ref3_ReadMap_r34_go (And.intro @ref3_ReadMap_r35_go (And.intro @ref3_ReadMap_r36_go (And.intro @ref3_ReadMap_r37_go (And.intro @ref3_ReadMap_r38_go (@ref3_ReadMap_l0_go))))))))))))))))))))))))))))))))))))))))

end Go.Proofs.Ytohkbpnblkkdgaa.C
