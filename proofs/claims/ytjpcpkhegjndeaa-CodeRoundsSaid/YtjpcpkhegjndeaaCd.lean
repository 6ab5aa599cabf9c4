/- The stripped code of some functions of this seat's program, printed by a program; that it is that code is proved by the kernel. No condition. -/

import Derived.Test.YtjpcpkhegjndeaaProg

import Derived.Test.YtjpcpkhegjndeaaVcH

set_option maxRecDepth 100000

set_option linter.defProp false

namespace Go.Proofs.Ytjpcpkhegjndeaa.C

open Go.Vc

/-! (*jvmcore/code.encoder).put: function 32: slots [0, 1, 2, 3, 4] -/
def code_put_r0 : List Sop := [
  ⟨some (10, false), .move (.tmp 0), 36, none, true⟩,
  ⟨some (11, false), .move (.tmp 0), 36, none, true⟩,
  ⟨some (12, false), .nilCheck (.tmp 11), 0, none, true⟩,
  ⟨some (13, false), .fieldAddr 39 (.tmp 12) 1, 0, none, true⟩,
  ⟨some (14, false), .load 4 (.tmp 13), 4, none, true⟩,
  ⟨some (15, false), .move (.tmp 14), 4, none, true⟩,
  ⟨some (16, false), .move (.tmp 1), 3, some (15, true), true⟩,
  ⟨some (17, false), .move (.tmp 3), 3, some (15, true), true⟩,
  ⟨some (18, false), .binOp .geq 3 (.tmp 16) (.tmp 17) 3, 4, some (15, true), true⟩,
  ⟨some (19, false), .pick (.tmp 15) (.tmp 18) (.const (.bool false)), 4, none, true⟩,
  ⟨some (20, false), .move (.tmp 19), 4, none, true⟩,
  ⟨some (21, false), .move (.tmp 1), 3, some (20, true), true⟩,
  ⟨some (22, false), .move (.tmp 4), 3, some (20, true), true⟩,
  ⟨some (23, false), .binOp .leq 3 (.tmp 21) (.tmp 22) 3, 4, some (20, true), true⟩,
  ⟨some (24, false), .pick (.tmp 20) (.tmp 23) (.const (.bool false)), 4, none, true⟩,
  ⟨some (25, false), .nilCheck (.tmp 10), 0, none, true⟩,
  ⟨some (26, false), .fieldAddr 39 (.tmp 25) 1, 0, none, true⟩,
  ⟨none, .store 4 (.tmp 26) (.tmp 24), 0, none, false⟩]
theorem code_put_r0_go {K : Env → Heap → Prop} {τ ρ : Env} {h : Heap} : vcOps Try.prog K code_put_r0 τ ρ h = vcOps Try.prog K [
  ⟨some (10, false), .move (.tmp 0), 36, none, true⟩,
  ⟨some (11, false), .move (.tmp 0), 36, none, true⟩,
  ⟨some (12, false), .nilCheck (.tmp 11), 0, none, true⟩,
  ⟨some (13, false), .fieldAddr 39 (.tmp 12) 1, 0, none, true⟩,
  ⟨some (14, false), .load 4 (.tmp 13), 4, none, true⟩,
  ⟨some (15, false), .move (.tmp 14), 4, none, true⟩,
  ⟨some (16, false), .move (.tmp 1), 3, some (15, true), true⟩,
  ⟨some (17, false), .move (.tmp 3), 3, some (15, true), true⟩,
  ⟨some (18, false), .binOp .geq 3 (.tmp 16) (.tmp 17) 3, 4, some (15, true), true⟩,
  ⟨some (19, false), .pick (.tmp 15) (.tmp 18) (.const (.bool false)), 4, none, true⟩,
  ⟨some (20, false), .move (.tmp 19), 4, none, true⟩,
  ⟨some (21, false), .move (.tmp 1), 3, some (20, true), true⟩,
  ⟨some (22, false), .move (.tmp 4), 3, some (20, true), true⟩,
  ⟨some (23, false), .binOp .leq 3 (.tmp 21) (.tmp 22) 3, 4, some (20, true), true⟩,
  ⟨some (24, false), .pick (.tmp 20) (.tmp 23) (.const (.bool false)), 4, none, true⟩,
  ⟨some (25, false), .nilCheck (.tmp 10), 0, none, true⟩,
  ⟨some (26, false), .fieldAddr 39 (.tmp 25) 1, 0, none, true⟩,
  ⟨none, .store 4 (.tmp 26) (.tmp 24), 0, none, false⟩] τ ρ h := _root_.id rfl
def code_put_r1 : List (Sop × List Sop) := [
  (⟨some (27, false), .move (.tmp 0), 36, none, true⟩, []),
  (⟨some (28, false), .move (.tmp 0), 36, none, true⟩, []),
  (⟨some (29, false), .nilCheck (.tmp 28), 0, none, true⟩, []),
  (⟨some (30, false), .fieldAddr 39 (.tmp 29) 0, 0, none, true⟩, []),
  (⟨some (31, false), .load 37 (.tmp 30), 37, none, true⟩, []),
  (⟨some (32, false), .move (.tmp 1), 3, none, true⟩, []),
  (⟨some (33, false), .convert 3 74 (.tmp 32), 74, none, true⟩, []),
  (⟨some (34, false), .move (.tmp 2), 3, none, true⟩, []),
  (⟨some (35, false), .call { callee := .value (.func 41), args := #[.tmp 33, .tmp 34], argTypes := #[74, 3] }, 9, none, false⟩, [⟨some (29, false), .nilCheck (.tmp 28), 0, none, true⟩, ⟨some (30, false), .fieldAddr 39 (.tmp 29) 0, 0, none, true⟩, ⟨some (31, false), .load 37 (.tmp 30), 37, none, true⟩]),
  (⟨some (36, false), .call { callee := .builtin .append, args := #[.tmp 31, .tmp 35], argTypes := #[37, 9] }, 37, none, false⟩, []),
  (⟨some (37, false), .nilCheck (.tmp 27), 0, none, true⟩, []),
  (⟨some (38, false), .fieldAddr 39 (.tmp 37) 0, 0, none, true⟩, []),
  (⟨none, .store 37 (.tmp 38) (.tmp 36), 0, none, false⟩, [])]
theorem code_put_r1_go {K : Env → Heap → Prop} {τ ρ : Env} {h : Heap} : vcDraw Try.prog K code_put_r1 τ ρ h = vcDraw Try.prog K [
  (⟨some (27, false), .move (.tmp 0), 36, none, true⟩, []),
  (⟨some (28, false), .move (.tmp 0), 36, none, true⟩, []),
  (⟨some (29, false), .nilCheck (.tmp 28), 0, none, true⟩, []),
  (⟨some (30, false), .fieldAddr 39 (.tmp 29) 0, 0, none, true⟩, []),
  (⟨some (31, false), .load 37 (.tmp 30), 37, none, true⟩, []),
  (⟨some (32, false), .move (.tmp 1), 3, none, true⟩, []),
  (⟨some (33, false), .convert 3 74 (.tmp 32), 74, none, true⟩, []),
  (⟨some (34, false), .move (.tmp 2), 3, none, true⟩, []),
  (⟨some (35, false), .call { callee := .value (.func 41), args := #[.tmp 33, .tmp 34], argTypes := #[74, 3] }, 9, none, false⟩, [⟨some (29, false), .nilCheck (.tmp 28), 0, none, true⟩, ⟨some (30, false), .fieldAddr 39 (.tmp 29) 0, 0, none, true⟩, ⟨some (31, false), .load 37 (.tmp 30), 37, none, true⟩]),
  (⟨some (36, false), .call { callee := .builtin .append, args := #[.tmp 31, .tmp 35], argTypes := #[37, 9] }, 37, none, false⟩, []),
  (⟨some (37, false), .nilCheck (.tmp 27), 0, none, true⟩, []),
  (⟨some (38, false), .fieldAddr 39 (.tmp 37) 0, 0, none, true⟩, []),
  (⟨none, .store 37 (.tmp 38) (.tmp 36), 0, none, false⟩, [])] τ ρ h := _root_.id rfl
def code_put : Cd := .seq (.region code_put_r0) (.draw code_put_r1)
theorem code_put_go {Q : Ex → Env → Heap → Prop} {ρ : Env} {h : Heap} : Cd.vc Try.prog code_put Q ρ h = Cd.vc Try.prog (.seq (.region code_put_r0) (.draw code_put_r1)) Q ρ h := _root_.id rfl
theorem code_put_calls {args : List Value} {h : Heap} {R : Value → Heap → Prop} (hl : args.length = 5) (hv : Cd.vc Try.prog code_put (retQ Try.prog [] R) (initEnv args [0, 1, 2, 3, 4]) h) : HCalls Try.prog 32 args.toArray h R :=
  hcalls_of_vc (by kernel_rfl) Try.func32 (cd := code_put) (L := [0, 1, 2, 3, 4]) (by kernel_rfl) (by kernel_rfl) ⟨by rw [hl, Try.ntmps32]; decide, by rw [Try.ntmps32]; decide⟩ hv
def code_put_gos := And.intro @code_put_go (And.intro @code_put_r0_go (@code_put_r1_go))

/-! (*jvmcore/code.encoder).unsigned: function 30: slots [0, 1, 2] -/
def code_unsigned_r0 : List Sop := [
  ⟨some (6, false), .move (.tmp 0), 36, none, true⟩,
  ⟨some (7, false), .move (.tmp 1), 3, none, true⟩,
  ⟨some (8, false), .move (.tmp 2), 3, none, true⟩,
  ⟨some (9, false), .move (.tmp 2), 3, none, true⟩,
  ⟨some (10, false), .binOp .mul 3 (.const (.int .i64 8)) (.tmp 9) 3, 3, none, true⟩,
  ⟨some (11, false), .binOp .shl 3 (.const (.int .i64 1)) (.tmp 10) 3, 3, none, true⟩,
  ⟨some (12, false), .binOp .sub 3 (.tmp 11) (.const (.int .i64 1)) 3, 3, none, true⟩,
  ⟨some (13, false), .call { callee := .value (.func 32), args := #[.tmp 6, .tmp 7, .tmp 8, .const (.int .i64 0), .tmp 12], argTypes := #[36, 3, 3, 3, 3] }, 0, none, false⟩]
theorem code_unsigned_r0_go {K : Env → Heap → Prop} {τ ρ : Env} {h : Heap} : vcOps Try.prog K code_unsigned_r0 τ ρ h = vcOps Try.prog K [
  ⟨some (6, false), .move (.tmp 0), 36, none, true⟩,
  ⟨some (7, false), .move (.tmp 1), 3, none, true⟩,
  ⟨some (8, false), .move (.tmp 2), 3, none, true⟩,
  ⟨some (9, false), .move (.tmp 2), 3, none, true⟩,
  ⟨some (10, false), .binOp .mul 3 (.const (.int .i64 8)) (.tmp 9) 3, 3, none, true⟩,
  ⟨some (11, false), .binOp .shl 3 (.const (.int .i64 1)) (.tmp 10) 3, 3, none, true⟩,
  ⟨some (12, false), .binOp .sub 3 (.tmp 11) (.const (.int .i64 1)) 3, 3, none, true⟩,
  ⟨some (13, false), .call { callee := .value (.func 32), args := #[.tmp 6, .tmp 7, .tmp 8, .const (.int .i64 0), .tmp 12], argTypes := #[36, 3, 3, 3, 3] }, 0, none, false⟩] τ ρ h := _root_.id rfl
def code_unsigned : Cd := .region code_unsigned_r0
theorem code_unsigned_go {Q : Ex → Env → Heap → Prop} {ρ : Env} {h : Heap} : Cd.vc Try.prog code_unsigned Q ρ h = Cd.vc Try.prog (.region code_unsigned_r0) Q ρ h := _root_.id rfl
theorem code_unsigned_calls {args : List Value} {h : Heap} {R : Value → Heap → Prop} (hl : args.length = 3) (hv : Cd.vc Try.prog code_unsigned (retQ Try.prog [] R) (initEnv args [0, 1, 2]) h) : HCalls Try.prog 30 args.toArray h R :=
  hcalls_of_vc (by kernel_rfl) Try.func30 (cd := code_unsigned) (L := [0, 1, 2]) (by kernel_rfl) (by kernel_rfl) ⟨by rw [hl, Try.ntmps30]; decide, by rw [Try.ntmps30]; decide⟩ hv
def code_unsigned_gos := And.intro @code_unsigned_go (@code_unsigned_r0_go)

/-! (*jvmcore/code.encoder).signed: function 29: slots [0, 1, 2] -/
def code_signed_r0 : List (Sop × List Sop) := [
  (⟨some (6, false), .move (.tmp 0), 36, none, true⟩, []),
  (⟨some (7, false), .move (.tmp 1), 3, none, true⟩, []),
  (⟨some (8, false), .move (.tmp 2), 3, none, true⟩, []),
  (⟨some (9, false), .move (.tmp 2), 3, none, true⟩, []),
  (⟨some (10, false), .binOp .mul 3 (.const (.int .i64 8)) (.tmp 9) 3, 3, none, true⟩, []),
  (⟨some (11, false), .binOp .sub 3 (.tmp 10) (.const (.int .i64 1)) 3, 3, none, true⟩, []),
  (⟨some (12, false), .binOp .shl 3 (.const (.int .i64 (-1))) (.tmp 11) 3, 3, none, true⟩, []),
  (⟨some (13, false), .move (.tmp 2), 3, none, true⟩, []),
  (⟨some (14, false), .binOp .mul 3 (.const (.int .i64 8)) (.tmp 13) 3, 3, none, true⟩, []),
  (⟨some (15, false), .binOp .sub 3 (.tmp 14) (.const (.int .i64 1)) 3, 3, none, true⟩, []),
  (⟨some (16, false), .binOp .shl 3 (.const (.int .i64 1)) (.tmp 15) 3, 3, none, true⟩, []),
  (⟨some (17, false), .binOp .sub 3 (.tmp 16) (.const (.int .i64 1)) 3, 3, none, true⟩, []),
  (⟨some (18, false), .call { callee := .value (.func 32), args := #[.tmp 6, .tmp 7, .tmp 8, .tmp 12, .tmp 17], argTypes := #[36, 3, 3, 3, 3] }, 0, none, false⟩, [])]
theorem code_signed_r0_go {K : Env → Heap → Prop} {τ ρ : Env} {h : Heap} : vcDraw Try.prog K code_signed_r0 τ ρ h = vcDraw Try.prog K [
  (⟨some (6, false), .move (.tmp 0), 36, none, true⟩, []),
  (⟨some (7, false), .move (.tmp 1), 3, none, true⟩, []),
  (⟨some (8, false), .move (.tmp 2), 3, none, true⟩, []),
  (⟨some (9, false), .move (.tmp 2), 3, none, true⟩, []),
  (⟨some (10, false), .binOp .mul 3 (.const (.int .i64 8)) (.tmp 9) 3, 3, none, true⟩, []),
  (⟨some (11, false), .binOp .sub 3 (.tmp 10) (.const (.int .i64 1)) 3, 3, none, true⟩, []),
  (⟨some (12, false), .binOp .shl 3 (.const (.int .i64 (-1))) (.tmp 11) 3, 3, none, true⟩, []),
  (⟨some (13, false), .move (.tmp 2), 3, none, true⟩, []),
  (⟨some (14, false), .binOp .mul 3 (.const (.int .i64 8)) (.tmp 13) 3, 3, none, true⟩, []),
  (⟨some (15, false), .binOp .sub 3 (.tmp 14) (.const (.int .i64 1)) 3, 3, none, true⟩, []),
  (⟨some (16, false), .binOp .shl 3 (.const (.int .i64 1)) (.tmp 15) 3, 3, none, true⟩, []),
  (⟨some (17, false), .binOp .sub 3 (.tmp 16) (.const (.int .i64 1)) 3, 3, none, true⟩, []),
  (⟨some (18, false), .call { callee := .value (.func 32), args := #[.tmp 6, .tmp 7, .tmp 8, .tmp 12, .tmp 17], argTypes := #[36, 3, 3, 3, 3] }, 0, none, false⟩, [])] τ ρ h := _root_.id rfl
def code_signed : Cd := .draw code_signed_r0
theorem code_signed_go {Q : Ex → Env → Heap → Prop} {ρ : Env} {h : Heap} : Cd.vc Try.prog code_signed Q ρ h = Cd.vc Try.prog (.draw code_signed_r0) Q ρ h := _root_.id rfl
theorem code_signed_calls {args : List Value} {h : Heap} {R : Value → Heap → Prop} (hl : args.length = 3) (hv : Cd.vc Try.prog code_signed (retQ Try.prog [] R) (initEnv args [0, 1, 2]) h) : HCalls Try.prog 29 args.toArray h R :=
  hcalls_of_vc (by kernel_rfl) Try.func29 (cd := code_signed) (L := [0, 1, 2]) (by kernel_rfl) (by kernel_rfl) ⟨by rw [hl, Try.ntmps29]; decide, by rw [Try.ntmps29]; decide⟩ hv
def code_signed_gos := And.intro @code_signed_go (@code_signed_r0_go)

/-! (*jvmcore/code.encoder).targets: function 28: slots [0, 1, 2, 4, 6] -/
def code_targets_r0 : List Sop := [
  ⟨some (4, true), .box 35 (.tmp 1), 0, none, false⟩,
  ⟨some (6, true), .assign (.const (.bool false)), 4, none, true⟩]
theorem code_targets_r0_go {K : Env → Heap → Prop} {τ ρ : Env} {h : Heap} : vcOps Try.prog K code_targets_r0 τ ρ h = vcOps Try.prog K [
  ⟨some (4, true), .box 35 (.tmp 1), 0, none, false⟩,
  ⟨some (6, true), .assign (.const (.bool false)), 4, none, true⟩] τ ρ h := _root_.id rfl
def code_targets_r1 : List Sop := [
  ⟨some (7, false), .move (.tmp 0), 36, none, true⟩,
  ⟨some (8, false), .move (.tmp 0), 36, none, true⟩,
  ⟨some (9, false), .nilCheck (.tmp 8), 0, none, true⟩,
  ⟨some (10, false), .fieldAddr 39 (.tmp 9) 1, 0, none, true⟩,
  ⟨some (11, false), .load 4 (.tmp 10), 4, none, true⟩,
  ⟨some (12, false), .move (.tmp 11), 4, none, true⟩,
  ⟨some (13, false), .fieldAddr 35 (.tmp 4) 7, 0, some (12, true), true⟩,
  ⟨some (14, false), .load 33 (.tmp 13), 33, some (12, true), true⟩,
  ⟨some (15, false), .call { callee := .builtin .len, args := #[.tmp 14], argTypes := #[33] }, 3, some (12, true), true⟩,
  ⟨some (16, false), .move (.tmp 2), 3, some (12, true), true⟩,
  ⟨some (17, false), .binOp .eql 3 (.tmp 15) (.tmp 16) 3, 4, some (12, true), true⟩,
  ⟨some (18, false), .pick (.tmp 12) (.tmp 17) (.const (.bool false)), 4, none, true⟩,
  ⟨some (19, false), .nilCheck (.tmp 7), 0, none, true⟩,
  ⟨some (20, false), .fieldAddr 39 (.tmp 19) 1, 0, none, true⟩,
  ⟨none, .store 4 (.tmp 20) (.tmp 18), 0, none, false⟩]
theorem code_targets_r1_go {K : Env → Heap → Prop} {τ ρ : Env} {h : Heap} : vcOps Try.prog K code_targets_r1 τ ρ h = vcOps Try.prog K [
  ⟨some (7, false), .move (.tmp 0), 36, none, true⟩,
  ⟨some (8, false), .move (.tmp 0), 36, none, true⟩,
  ⟨some (9, false), .nilCheck (.tmp 8), 0, none, true⟩,
  ⟨some (10, false), .fieldAddr 39 (.tmp 9) 1, 0, none, true⟩,
  ⟨some (11, false), .load 4 (.tmp 10), 4, none, true⟩,
  ⟨some (12, false), .move (.tmp 11), 4, none, true⟩,
  ⟨some (13, false), .fieldAddr 35 (.tmp 4) 7, 0, some (12, true), true⟩,
  ⟨some (14, false), .load 33 (.tmp 13), 33, some (12, true), true⟩,
  ⟨some (15, false), .call { callee := .builtin .len, args := #[.tmp 14], argTypes := #[33] }, 3, some (12, true), true⟩,
  ⟨some (16, false), .move (.tmp 2), 3, some (12, true), true⟩,
  ⟨some (17, false), .binOp .eql 3 (.tmp 15) (.tmp 16) 3, 4, some (12, true), true⟩,
  ⟨some (18, false), .pick (.tmp 12) (.tmp 17) (.const (.bool false)), 4, none, true⟩,
  ⟨some (19, false), .nilCheck (.tmp 7), 0, none, true⟩,
  ⟨some (20, false), .fieldAddr 39 (.tmp 19) 1, 0, none, true⟩,
  ⟨none, .store 4 (.tmp 20) (.tmp 18), 0, none, false⟩] τ ρ h := _root_.id rfl
def code_targets_r2 : List Sop := [
  ⟨some (21, false), .move (.tmp 0), 36, none, true⟩,
  ⟨some (22, false), .nilCheck (.tmp 21), 0, none, true⟩,
  ⟨some (23, false), .fieldAddr 39 (.tmp 22) 1, 0, none, true⟩,
  ⟨some (24, false), .load 4 (.tmp 23), 4, none, true⟩,
  ⟨some (6, true), .assign (.tmp 24), 4, none, true⟩]
theorem code_targets_r2_go {K : Env → Heap → Prop} {τ ρ : Env} {h : Heap} : vcOps Try.prog K code_targets_r2 τ ρ h = vcOps Try.prog K [
  ⟨some (21, false), .move (.tmp 0), 36, none, true⟩,
  ⟨some (22, false), .nilCheck (.tmp 21), 0, none, true⟩,
  ⟨some (23, false), .fieldAddr 39 (.tmp 22) 1, 0, none, true⟩,
  ⟨some (24, false), .load 4 (.tmp 23), 4, none, true⟩,
  ⟨some (6, true), .assign (.tmp 24), 4, none, true⟩] τ ρ h := _root_.id rfl
def code_targets : Cd := .seq (.region code_targets_r0) (.seq (.region code_targets_r1) (.seq (.region code_targets_r2) (.ret)))
theorem code_targets_go {Q : Ex → Env → Heap → Prop} {ρ : Env} {h : Heap} : Cd.vc Try.prog code_targets Q ρ h = Cd.vc Try.prog (.seq (.region code_targets_r0) (.seq (.region code_targets_r1) (.seq (.region code_targets_r2) (.ret)))) Q ρ h := _root_.id rfl
theorem code_targets_calls {args : List Value} {h : Heap} {R : Value → Heap → Prop} (hl : args.length = 3) (hv : Cd.vc Try.prog code_targets (retQ Try.prog [(6, none)] R) (initEnv args [0, 1, 2, 4, 6]) h) : HCalls Try.prog 28 args.toArray h R :=
  hcalls_of_vc (by kernel_rfl) Try.func28 (cd := code_targets) (L := [0, 1, 2, 4, 6]) (by kernel_rfl) (by kernel_rfl) ⟨by rw [hl, Try.ntmps28]; decide, by rw [Try.ntmps28]; decide⟩ hv
def code_targets_gos := And.intro @code_targets_go (And.intro @code_targets_r0_go (And.intro @code_targets_r1_go (@code_targets_r2_go)))

/-! (*jvmcore/code.encoder).choice: function 31: slots [0, 1, 2, 4, 6, 7, 8, 15, 49, 63, 80, 81, 82, 83, 88] -/
def code_choice_r0 : List Sop := [
  ⟨some (4, true), .box 35 (.tmp 1), 0, none, false⟩]
theorem code_choice_r0_go {K : Env → Heap → Prop} {τ ρ : Env} {h : Heap} : vcOps Try.prog K code_choice_r0 τ ρ h = vcOps Try.prog K [
  ⟨some (4, true), .box 35 (.tmp 1), 0, none, false⟩] τ ρ h := _root_.id rfl
def code_choice_r1 : List Sop := [
  ⟨some (9, false), .move (.tmp 0), 36, none, true⟩,
  ⟨some (10, false), .nilCheck (.tmp 9), 0, none, true⟩,
  ⟨some (11, false), .fieldAddr 39 (.tmp 10) 0, 0, none, true⟩,
  ⟨some (12, false), .load 37 (.tmp 11), 37, none, true⟩,
  ⟨some (13, false), .call { callee := .builtin .len, args := #[.tmp 12], argTypes := #[37] }, 3, none, true⟩,
  ⟨some (14, false), .binOp .rem 3 (.tmp 13) (.const (.int .i64 4)) 3, 3, none, true⟩,
  ⟨some (15, true), .binOp .neq 3 (.tmp 14) (.const (.int .i64 0)) 3, 4, none, true⟩]
theorem code_choice_r1_go {K : Env → Heap → Prop} {τ ρ : Env} {h : Heap} : vcOps Try.prog K code_choice_r1 τ ρ h = vcOps Try.prog K [
  ⟨some (9, false), .move (.tmp 0), 36, none, true⟩,
  ⟨some (10, false), .nilCheck (.tmp 9), 0, none, true⟩,
  ⟨some (11, false), .fieldAddr 39 (.tmp 10) 0, 0, none, true⟩,
  ⟨some (12, false), .load 37 (.tmp 11), 37, none, true⟩,
  ⟨some (13, false), .call { callee := .builtin .len, args := #[.tmp 12], argTypes := #[37] }, 3, none, true⟩,
  ⟨some (14, false), .binOp .rem 3 (.tmp 13) (.const (.int .i64 4)) 3, 3, none, true⟩,
  ⟨some (15, true), .binOp .neq 3 (.tmp 14) (.const (.int .i64 0)) 3, 4, none, true⟩] τ ρ h := _root_.id rfl
def code_choice_r2 : List Sop := [
  ⟨some (16, false), .move (.tmp 0), 36, none, true⟩,
  ⟨some (17, false), .move (.tmp 0), 36, none, true⟩,
  ⟨some (18, false), .nilCheck (.tmp 17), 0, none, true⟩,
  ⟨some (19, false), .fieldAddr 39 (.tmp 18) 0, 0, none, true⟩,
  ⟨some (20, false), .load 37 (.tmp 19), 37, none, true⟩,
  ⟨some (21, false), .buildSlice 37 1 #[(0, .const (.int .u8 0))], 37, none, false⟩,
  ⟨some (22, false), .call { callee := .builtin .append, args := #[.tmp 20, .tmp 21], argTypes := #[37, 37] }, 37, none, false⟩,
  ⟨some (23, false), .nilCheck (.tmp 16), 0, none, true⟩,
  ⟨some (24, false), .fieldAddr 39 (.tmp 23) 0, 0, none, true⟩,
  ⟨none, .store 37 (.tmp 24) (.tmp 22), 0, none, false⟩]
theorem code_choice_r2_go {K : Env → Heap → Prop} {τ ρ : Env} {h : Heap} : vcOps Try.prog K code_choice_r2 τ ρ h = vcOps Try.prog K [
  ⟨some (16, false), .move (.tmp 0), 36, none, true⟩,
  ⟨some (17, false), .move (.tmp 0), 36, none, true⟩,
  ⟨some (18, false), .nilCheck (.tmp 17), 0, none, true⟩,
  ⟨some (19, false), .fieldAddr 39 (.tmp 18) 0, 0, none, true⟩,
  ⟨some (20, false), .load 37 (.tmp 19), 37, none, true⟩,
  ⟨some (21, false), .buildSlice 37 1 #[(0, .const (.int .u8 0))], 37, none, false⟩,
  ⟨some (22, false), .call { callee := .builtin .append, args := #[.tmp 20, .tmp 21], argTypes := #[37, 37] }, 37, none, false⟩,
  ⟨some (23, false), .nilCheck (.tmp 16), 0, none, true⟩,
  ⟨some (24, false), .fieldAddr 39 (.tmp 23) 0, 0, none, true⟩,
  ⟨none, .store 37 (.tmp 24) (.tmp 22), 0, none, false⟩] τ ρ h := _root_.id rfl
def code_choice_r3 : List Sop := [
  ⟨some (25, false), .fieldAddr 35 (.tmp 4) 7, 0, none, true⟩,
  ⟨some (26, false), .load 33 (.tmp 25), 33, none, true⟩,
  ⟨some (27, false), .call { callee := .builtin .len, args := #[.tmp 26], argTypes := #[33] }, 3, none, true⟩,
  ⟨some (28, false), .binOp .sub 3 (.tmp 27) (.const (.int .i64 1)) 3, 3, none, true⟩,
  ⟨some (6, true), .assign (.tmp 28), 3, none, true⟩]
theorem code_choice_r3_go {K : Env → Heap → Prop} {τ ρ : Env} {h : Heap} : vcOps Try.prog K code_choice_r3 τ ρ h = vcOps Try.prog K [
  ⟨some (25, false), .fieldAddr 35 (.tmp 4) 7, 0, none, true⟩,
  ⟨some (26, false), .load 33 (.tmp 25), 33, none, true⟩,
  ⟨some (27, false), .call { callee := .builtin .len, args := #[.tmp 26], argTypes := #[33] }, 3, none, true⟩,
  ⟨some (28, false), .binOp .sub 3 (.tmp 27) (.const (.int .i64 1)) 3, 3, none, true⟩,
  ⟨some (6, true), .assign (.tmp 28), 3, none, true⟩] τ ρ h := _root_.id rfl
def code_choice_r4 : List Sop := [
  ⟨some (29, false), .move (.tmp 6), 3, none, true⟩,
  ⟨some (30, false), .binOp .lss 3 (.tmp 29) (.const (.int .i64 0)) 3, 4, none, true⟩,
  ⟨some (31, false), .move (.tmp 30), 4, none, true⟩,
  ⟨some (32, false), .move (.tmp 2), 3, some (31, false), true⟩,
  ⟨some (33, false), .binOp .eql 3 (.tmp 32) (.const (.int .i64 10)) 3, 4, some (31, false), true⟩,
  ⟨some (34, false), .move (.tmp 33), 4, some (31, false), true⟩,
  ⟨some (35, false), .move (.tmp 6), 3, some (34, true), true⟩,
  ⟨some (36, false), .binOp .eql 3 (.tmp 35) (.const (.int .i64 0)) 3, 4, some (34, true), true⟩,
  ⟨some (37, false), .pick (.tmp 34) (.tmp 36) (.const (.bool false)), 4, some (31, false), true⟩,
  ⟨some (38, false), .pick (.tmp 31) (.const (.bool true)) (.tmp 37), 4, none, true⟩,
  ⟨some (39, false), .move (.tmp 38), 4, none, true⟩,
  ⟨some (40, false), .move (.tmp 2), 3, some (39, false), true⟩,
  ⟨some (41, false), .binOp .eql 3 (.tmp 40) (.const (.int .i64 11)) 3, 4, some (39, false), true⟩,
  ⟨some (42, false), .move (.tmp 41), 4, some (39, false), true⟩,
  ⟨some (43, false), .move (.tmp 6), 3, some (42, true), true⟩,
  ⟨some (44, false), .fieldAddr 35 (.tmp 4) 6, 0, some (42, true), true⟩,
  ⟨some (45, false), .load 33 (.tmp 44), 33, some (42, true), true⟩,
  ⟨some (46, false), .call { callee := .builtin .len, args := #[.tmp 45], argTypes := #[33] }, 3, some (42, true), true⟩,
  ⟨some (47, false), .binOp .neq 3 (.tmp 43) (.tmp 46) 3, 4, some (42, true), true⟩,
  ⟨some (48, false), .pick (.tmp 42) (.tmp 47) (.const (.bool false)), 4, some (39, false), true⟩,
  ⟨some (49, true), .pick (.tmp 39) (.const (.bool true)) (.tmp 48), 4, none, true⟩]
theorem code_choice_r4_go {K : Env → Heap → Prop} {τ ρ : Env} {h : Heap} : vcOps Try.prog K code_choice_r4 τ ρ h = vcOps Try.prog K [
  ⟨some (29, false), .move (.tmp 6), 3, none, true⟩,
  ⟨some (30, false), .binOp .lss 3 (.tmp 29) (.const (.int .i64 0)) 3, 4, none, true⟩,
  ⟨some (31, false), .move (.tmp 30), 4, none, true⟩,
  ⟨some (32, false), .move (.tmp 2), 3, some (31, false), true⟩,
  ⟨some (33, false), .binOp .eql 3 (.tmp 32) (.const (.int .i64 10)) 3, 4, some (31, false), true⟩,
  ⟨some (34, false), .move (.tmp 33), 4, some (31, false), true⟩,
  ⟨some (35, false), .move (.tmp 6), 3, some (34, true), true⟩,
  ⟨some (36, false), .binOp .eql 3 (.tmp 35) (.const (.int .i64 0)) 3, 4, some (34, true), true⟩,
  ⟨some (37, false), .pick (.tmp 34) (.tmp 36) (.const (.bool false)), 4, some (31, false), true⟩,
  ⟨some (38, false), .pick (.tmp 31) (.const (.bool true)) (.tmp 37), 4, none, true⟩,
  ⟨some (39, false), .move (.tmp 38), 4, none, true⟩,
  ⟨some (40, false), .move (.tmp 2), 3, some (39, false), true⟩,
  ⟨some (41, false), .binOp .eql 3 (.tmp 40) (.const (.int .i64 11)) 3, 4, some (39, false), true⟩,
  ⟨some (42, false), .move (.tmp 41), 4, some (39, false), true⟩,
  ⟨some (43, false), .move (.tmp 6), 3, some (42, true), true⟩,
  ⟨some (44, false), .fieldAddr 35 (.tmp 4) 6, 0, some (42, true), true⟩,
  ⟨some (45, false), .load 33 (.tmp 44), 33, some (42, true), true⟩,
  ⟨some (46, false), .call { callee := .builtin .len, args := #[.tmp 45], argTypes := #[33] }, 3, some (42, true), true⟩,
  ⟨some (47, false), .binOp .neq 3 (.tmp 43) (.tmp 46) 3, 4, some (42, true), true⟩,
  ⟨some (48, false), .pick (.tmp 42) (.tmp 47) (.const (.bool false)), 4, some (39, false), true⟩,
  ⟨some (49, true), .pick (.tmp 39) (.const (.bool true)) (.tmp 48), 4, none, true⟩] τ ρ h := _root_.id rfl
def code_choice_r5 : List Sop := [
  ⟨some (50, false), .move (.tmp 0), 36, none, true⟩,
  ⟨some (51, false), .nilCheck (.tmp 50), 0, none, true⟩,
  ⟨some (52, false), .fieldAddr 39 (.tmp 51) 1, 0, none, true⟩,
  ⟨none, .store 4 (.tmp 52) (.const (.bool false)), 0, none, false⟩]
theorem code_choice_r5_go {K : Env → Heap → Prop} {τ ρ : Env} {h : Heap} : vcOps Try.prog K code_choice_r5 τ ρ h = vcOps Try.prog K [
  ⟨some (50, false), .move (.tmp 0), 36, none, true⟩,
  ⟨some (51, false), .nilCheck (.tmp 50), 0, none, true⟩,
  ⟨some (52, false), .fieldAddr 39 (.tmp 51) 1, 0, none, true⟩,
  ⟨none, .store 4 (.tmp 52) (.const (.bool false)), 0, none, false⟩] τ ρ h := _root_.id rfl
def code_choice_r6 : List (Sop × List Sop) := [
  (⟨some (53, false), .move (.tmp 0), 36, none, true⟩, []),
  (⟨some (54, false), .fieldAddr 35 (.tmp 4) 7, 0, none, true⟩, []),
  (⟨some (55, false), .load 33 (.tmp 54), 33, none, true⟩, []),
  (⟨some (56, false), .indexAddr 33 (.tmp 55) (.const (.int .i64 0)), 0, none, true⟩, []),
  (⟨some (57, false), .load 3 (.tmp 56), 3, none, true⟩, []),
  (⟨some (58, false), .fieldAddr 35 (.tmp 4) 0, 0, none, true⟩, []),
  (⟨some (59, false), .load 3 (.tmp 58), 3, none, true⟩, []),
  (⟨some (60, false), .binOp .sub 3 (.tmp 57) (.tmp 59) 3, 3, none, true⟩, []),
  (⟨some (61, false), .call { callee := .value (.func 29), args := #[.tmp 53, .tmp 60, .const (.int .i64 4)], argTypes := #[36, 3, 3] }, 0, none, false⟩, [])]
theorem code_choice_r6_go {K : Env → Heap → Prop} {τ ρ : Env} {h : Heap} : vcDraw Try.prog K code_choice_r6 τ ρ h = vcDraw Try.prog K [
  (⟨some (53, false), .move (.tmp 0), 36, none, true⟩, []),
  (⟨some (54, false), .fieldAddr 35 (.tmp 4) 7, 0, none, true⟩, []),
  (⟨some (55, false), .load 33 (.tmp 54), 33, none, true⟩, []),
  (⟨some (56, false), .indexAddr 33 (.tmp 55) (.const (.int .i64 0)), 0, none, true⟩, []),
  (⟨some (57, false), .load 3 (.tmp 56), 3, none, true⟩, []),
  (⟨some (58, false), .fieldAddr 35 (.tmp 4) 0, 0, none, true⟩, []),
  (⟨some (59, false), .load 3 (.tmp 58), 3, none, true⟩, []),
  (⟨some (60, false), .binOp .sub 3 (.tmp 57) (.tmp 59) 3, 3, none, true⟩, []),
  (⟨some (61, false), .call { callee := .value (.func 29), args := #[.tmp 53, .tmp 60, .const (.int .i64 4)], argTypes := #[36, 3, 3] }, 0, none, false⟩, [])] τ ρ h := _root_.id rfl
def code_choice_r7 : List Sop := [
  ⟨some (62, false), .move (.tmp 2), 3, none, true⟩,
  ⟨some (63, true), .binOp .eql 3 (.tmp 62) (.const (.int .i64 10)) 3, 4, none, true⟩]
theorem code_choice_r7_go {K : Env → Heap → Prop} {τ ρ : Env} {h : Heap} : vcOps Try.prog K code_choice_r7 τ ρ h = vcOps Try.prog K [
  ⟨some (62, false), .move (.tmp 2), 3, none, true⟩,
  ⟨some (63, true), .binOp .eql 3 (.tmp 62) (.const (.int .i64 10)) 3, 4, none, true⟩] τ ρ h := _root_.id rfl
def code_choice_r8 : List Sop := [
  ⟨some (64, false), .move (.tmp 0), 36, none, true⟩,
  ⟨some (65, false), .fieldAddr 35 (.tmp 4) 5, 0, none, true⟩,
  ⟨some (66, false), .load 3 (.tmp 65), 3, none, true⟩,
  ⟨some (67, false), .call { callee := .value (.func 29), args := #[.tmp 64, .tmp 66, .const (.int .i64 4)], argTypes := #[36, 3, 3] }, 0, none, false⟩]
theorem code_choice_r8_go {K : Env → Heap → Prop} {τ ρ : Env} {h : Heap} : vcOps Try.prog K code_choice_r8 τ ρ h = vcOps Try.prog K [
  ⟨some (64, false), .move (.tmp 0), 36, none, true⟩,
  ⟨some (65, false), .fieldAddr 35 (.tmp 4) 5, 0, none, true⟩,
  ⟨some (66, false), .load 3 (.tmp 65), 3, none, true⟩,
  ⟨some (67, false), .call { callee := .value (.func 29), args := #[.tmp 64, .tmp 66, .const (.int .i64 4)], argTypes := #[36, 3, 3] }, 0, none, false⟩] τ ρ h := _root_.id rfl
def code_choice_r9 : List Sop := [
  ⟨some (68, false), .move (.tmp 0), 36, none, true⟩,
  ⟨some (69, false), .fieldAddr 35 (.tmp 4) 5, 0, none, true⟩,
  ⟨some (70, false), .load 3 (.tmp 69), 3, none, true⟩,
  ⟨some (71, false), .move (.tmp 6), 3, none, true⟩,
  ⟨some (72, false), .binOp .add 3 (.tmp 70) (.tmp 71) 3, 3, none, true⟩,
  ⟨some (73, false), .binOp .sub 3 (.tmp 72) (.const (.int .i64 1)) 3, 3, none, true⟩,
  ⟨some (74, false), .call { callee := .value (.func 29), args := #[.tmp 68, .tmp 73, .const (.int .i64 4)], argTypes := #[36, 3, 3] }, 0, none, false⟩]
theorem code_choice_r9_go {K : Env → Heap → Prop} {τ ρ : Env} {h : Heap} : vcOps Try.prog K code_choice_r9 τ ρ h = vcOps Try.prog K [
  ⟨some (68, false), .move (.tmp 0), 36, none, true⟩,
  ⟨some (69, false), .fieldAddr 35 (.tmp 4) 5, 0, none, true⟩,
  ⟨some (70, false), .load 3 (.tmp 69), 3, none, true⟩,
  ⟨some (71, false), .move (.tmp 6), 3, none, true⟩,
  ⟨some (72, false), .binOp .add 3 (.tmp 70) (.tmp 71) 3, 3, none, true⟩,
  ⟨some (73, false), .binOp .sub 3 (.tmp 72) (.const (.int .i64 1)) 3, 3, none, true⟩,
  ⟨some (74, false), .call { callee := .value (.func 29), args := #[.tmp 68, .tmp 73, .const (.int .i64 4)], argTypes := #[36, 3, 3] }, 0, none, false⟩] τ ρ h := _root_.id rfl
def code_choice_r10 : List Sop := [
  ⟨some (75, false), .move (.tmp 0), 36, none, true⟩,
  ⟨some (76, false), .move (.tmp 6), 3, none, true⟩,
  ⟨some (77, false), .call { callee := .value (.func 29), args := #[.tmp 75, .tmp 76, .const (.int .i64 4)], argTypes := #[36, 3, 3] }, 0, none, false⟩]
theorem code_choice_r10_go {K : Env → Heap → Prop} {τ ρ : Env} {h : Heap} : vcOps Try.prog K code_choice_r10 τ ρ h = vcOps Try.prog K [
  ⟨some (75, false), .move (.tmp 0), 36, none, true⟩,
  ⟨some (76, false), .move (.tmp 6), 3, none, true⟩,
  ⟨some (77, false), .call { callee := .value (.func 29), args := #[.tmp 75, .tmp 76, .const (.int .i64 4)], argTypes := #[36, 3, 3] }, 0, none, false⟩] τ ρ h := _root_.id rfl
def code_choice_r11 : List Sop := [
  ⟨some (78, false), .fieldAddr 35 (.tmp 4) 7, 0, none, true⟩,
  ⟨some (79, false), .load 33 (.tmp 78), 33, none, true⟩,
  ⟨some (80, true), .slice 33 (.tmp 79) (some (.const (.int .i64 1))) none none, 33, none, true⟩,
  ⟨some (81, true), .call { callee := .builtin .len, args := #[.tmp 80], argTypes := #[33] }, 3, none, true⟩,
  ⟨some (82, true), .move (.const (.int .i64 0)), 3, none, true⟩]
theorem code_choice_r11_go {K : Env → Heap → Prop} {τ ρ : Env} {h : Heap} : vcOps Try.prog K code_choice_r11 τ ρ h = vcOps Try.prog K [
  ⟨some (78, false), .fieldAddr 35 (.tmp 4) 7, 0, none, true⟩,
  ⟨some (79, false), .load 33 (.tmp 78), 33, none, true⟩,
  ⟨some (80, true), .slice 33 (.tmp 79) (some (.const (.int .i64 1))) none none, 33, none, true⟩,
  ⟨some (81, true), .call { callee := .builtin .len, args := #[.tmp 80], argTypes := #[33] }, 3, none, true⟩,
  ⟨some (82, true), .move (.const (.int .i64 0)), 3, none, true⟩] τ ρ h := _root_.id rfl
def code_choice_r12 : List Sop := [
  ⟨some (83, true), .binOp .lss 3 (.tmp 82) (.tmp 81) 3, 0, none, true⟩]
theorem code_choice_r12_go {K : Env → Heap → Prop} {τ ρ : Env} {h : Heap} : vcOps Try.prog K code_choice_r12 τ ρ h = vcOps Try.prog K [
  ⟨some (83, true), .binOp .lss 3 (.tmp 82) (.tmp 81) 3, 0, none, true⟩] τ ρ h := _root_.id rfl
def code_choice_r13 : List Sop := [
  ⟨some (84, false), .move (.tmp 82), 3, none, true⟩,
  ⟨some (85, false), .indexAddr 33 (.tmp 80) (.tmp 82), 0, none, true⟩,
  ⟨some (86, false), .load 3 (.tmp 85), 3, none, true⟩,
  ⟨some (7, true), .assign (.tmp 84), 3, none, true⟩,
  ⟨some (8, true), .assign (.tmp 86), 3, none, true⟩]
theorem code_choice_r13_go {K : Env → Heap → Prop} {τ ρ : Env} {h : Heap} : vcOps Try.prog K code_choice_r13 τ ρ h = vcOps Try.prog K [
  ⟨some (84, false), .move (.tmp 82), 3, none, true⟩,
  ⟨some (85, false), .indexAddr 33 (.tmp 80) (.tmp 82), 0, none, true⟩,
  ⟨some (86, false), .load 3 (.tmp 85), 3, none, true⟩,
  ⟨some (7, true), .assign (.tmp 84), 3, none, true⟩,
  ⟨some (8, true), .assign (.tmp 86), 3, none, true⟩] τ ρ h := _root_.id rfl
def code_choice_r14 : List Sop := [
  ⟨some (87, false), .move (.tmp 2), 3, none, true⟩,
  ⟨some (88, true), .binOp .eql 3 (.tmp 87) (.const (.int .i64 11)) 3, 4, none, true⟩]
theorem code_choice_r14_go {K : Env → Heap → Prop} {τ ρ : Env} {h : Heap} : vcOps Try.prog K code_choice_r14 τ ρ h = vcOps Try.prog K [
  ⟨some (87, false), .move (.tmp 2), 3, none, true⟩,
  ⟨some (88, true), .binOp .eql 3 (.tmp 87) (.const (.int .i64 11)) 3, 4, none, true⟩] τ ρ h := _root_.id rfl
def code_choice_r15 : List (Sop × List Sop) := [
  (⟨some (89, false), .move (.tmp 0), 36, none, true⟩, []),
  (⟨some (90, false), .move (.tmp 0), 36, none, true⟩, []),
  (⟨some (91, false), .nilCheck (.tmp 90), 0, none, true⟩, []),
  (⟨some (92, false), .fieldAddr 39 (.tmp 91) 1, 0, none, true⟩, []),
  (⟨some (93, false), .load 4 (.tmp 92), 4, none, true⟩, []),
  (⟨some (94, false), .move (.tmp 93), 4, none, true⟩, []),
  (⟨some (95, false), .move (.tmp 7), 3, some (94, true), true⟩, []),
  (⟨some (96, false), .binOp .eql 3 (.tmp 95) (.const (.int .i64 0)) 3, 4, some (94, true), true⟩, []),
  (⟨some (97, false), .move (.tmp 96), 4, some (94, true), true⟩, []),
  (⟨some (98, false), .fieldAddr 35 (.tmp 4) 6, 0, some (97, false), true⟩, []),
  (⟨some (99, false), .load 33 (.tmp 98), 33, some (97, false), true⟩, []),
  (⟨some (100, false), .move (.tmp 7), 3, some (97, false), true⟩, []),
  (⟨some (101, false), .binOp .sub 3 (.tmp 100) (.const (.int .i64 1)) 3, 3, some (97, false), true⟩, []),
  (⟨some (102, false), .indexAddr 33 (.tmp 99) (.tmp 101), 0, some (97, false), true⟩, []),
  (⟨some (103, false), .load 3 (.tmp 102), 3, some (97, false), true⟩, []),
  (⟨some (104, false), .fieldAddr 35 (.tmp 4) 6, 0, some (97, false), true⟩, []),
  (⟨some (105, false), .load 33 (.tmp 104), 33, some (97, false), true⟩, []),
  (⟨some (106, false), .move (.tmp 7), 3, some (97, false), true⟩, []),
  (⟨some (107, false), .indexAddr 33 (.tmp 105) (.tmp 106), 0, some (97, false), true⟩, []),
  (⟨some (108, false), .load 3 (.tmp 107), 3, some (97, false), true⟩, []),
  (⟨some (109, false), .binOp .lss 3 (.tmp 103) (.tmp 108) 3, 4, some (97, false), true⟩, []),
  (⟨some (110, false), .pick (.tmp 97) (.const (.bool true)) (.tmp 109), 4, some (94, true), true⟩, []),
  (⟨some (111, false), .pick (.tmp 94) (.tmp 110) (.const (.bool false)), 4, none, true⟩, []),
  (⟨some (112, false), .nilCheck (.tmp 89), 0, none, true⟩, []),
  (⟨some (113, false), .fieldAddr 39 (.tmp 112) 1, 0, none, true⟩, []),
  (⟨none, .store 4 (.tmp 113) (.tmp 111), 0, none, false⟩, [])]
theorem code_choice_r15_go {K : Env → Heap → Prop} {τ ρ : Env} {h : Heap} : vcDraw Try.prog K code_choice_r15 τ ρ h = vcDraw Try.prog K [
  (⟨some (89, false), .move (.tmp 0), 36, none, true⟩, []),
  (⟨some (90, false), .move (.tmp 0), 36, none, true⟩, []),
  (⟨some (91, false), .nilCheck (.tmp 90), 0, none, true⟩, []),
  (⟨some (92, false), .fieldAddr 39 (.tmp 91) 1, 0, none, true⟩, []),
  (⟨some (93, false), .load 4 (.tmp 92), 4, none, true⟩, []),
  (⟨some (94, false), .move (.tmp 93), 4, none, true⟩, []),
  (⟨some (95, false), .move (.tmp 7), 3, some (94, true), true⟩, []),
  (⟨some (96, false), .binOp .eql 3 (.tmp 95) (.const (.int .i64 0)) 3, 4, some (94, true), true⟩, []),
  (⟨some (97, false), .move (.tmp 96), 4, some (94, true), true⟩, []),
  (⟨some (98, false), .fieldAddr 35 (.tmp 4) 6, 0, some (97, false), true⟩, []),
  (⟨some (99, false), .load 33 (.tmp 98), 33, some (97, false), true⟩, []),
  (⟨some (100, false), .move (.tmp 7), 3, some (97, false), true⟩, []),
  (⟨some (101, false), .binOp .sub 3 (.tmp 100) (.const (.int .i64 1)) 3, 3, some (97, false), true⟩, []),
  (⟨some (102, false), .indexAddr 33 (.tmp 99) (.tmp 101), 0, some (97, false), true⟩, []),
  (⟨some (103, false), .load 3 (.tmp 102), 3, some (97, false), true⟩, []),
  (⟨some (104, false), .fieldAddr 35 (.tmp 4) 6, 0, some (97, false), true⟩, []),
  (⟨some (105, false), .load 33 (.tmp 104), 33, some (97, false), true⟩, []),
  (⟨some (106, false), .move (.tmp 7), 3, some (97, false), true⟩, []),
  (⟨some (107, false), .indexAddr 33 (.tmp 105) (.tmp 106), 0, some (97, false), true⟩, []),
  (⟨some (108, false), .load 3 (.tmp 107), 3, some (97, false), true⟩, []),
  (⟨some (109, false), .binOp .lss 3 (.tmp 103) (.tmp 108) 3, 4, some (97, false), true⟩, []),
  (⟨some (110, false), .pick (.tmp 97) (.const (.bool true)) (.tmp 109), 4, some (94, true), true⟩, []),
  (⟨some (111, false), .pick (.tmp 94) (.tmp 110) (.const (.bool false)), 4, none, true⟩, []),
  (⟨some (112, false), .nilCheck (.tmp 89), 0, none, true⟩, []),
  (⟨some (113, false), .fieldAddr 39 (.tmp 112) 1, 0, none, true⟩, []),
  (⟨none, .store 4 (.tmp 113) (.tmp 111), 0, none, false⟩, [])] τ ρ h := _root_.id rfl
def code_choice_r16 : List Sop := [
  ⟨some (114, false), .move (.tmp 0), 36, none, true⟩,
  ⟨some (115, false), .fieldAddr 35 (.tmp 4) 6, 0, none, true⟩,
  ⟨some (116, false), .load 33 (.tmp 115), 33, none, true⟩,
  ⟨some (117, false), .move (.tmp 7), 3, none, true⟩,
  ⟨some (118, false), .indexAddr 33 (.tmp 116) (.tmp 117), 0, none, true⟩,
  ⟨some (119, false), .load 3 (.tmp 118), 3, none, true⟩,
  ⟨some (120, false), .call { callee := .value (.func 29), args := #[.tmp 114, .tmp 119, .const (.int .i64 4)], argTypes := #[36, 3, 3] }, 0, none, false⟩]
theorem code_choice_r16_go {K : Env → Heap → Prop} {τ ρ : Env} {h : Heap} : vcOps Try.prog K code_choice_r16 τ ρ h = vcOps Try.prog K [
  ⟨some (114, false), .move (.tmp 0), 36, none, true⟩,
  ⟨some (115, false), .fieldAddr 35 (.tmp 4) 6, 0, none, true⟩,
  ⟨some (116, false), .load 33 (.tmp 115), 33, none, true⟩,
  ⟨some (117, false), .move (.tmp 7), 3, none, true⟩,
  ⟨some (118, false), .indexAddr 33 (.tmp 116) (.tmp 117), 0, none, true⟩,
  ⟨some (119, false), .load 3 (.tmp 118), 3, none, true⟩,
  ⟨some (120, false), .call { callee := .value (.func 29), args := #[.tmp 114, .tmp 119, .const (.int .i64 4)], argTypes := #[36, 3, 3] }, 0, none, false⟩] τ ρ h := _root_.id rfl
def code_choice_r17 : List Sop := [
  ⟨some (121, false), .move (.tmp 0), 36, none, true⟩,
  ⟨some (122, false), .move (.tmp 8), 3, none, true⟩,
  ⟨some (123, false), .fieldAddr 35 (.tmp 4) 0, 0, none, true⟩,
  ⟨some (124, false), .load 3 (.tmp 123), 3, none, true⟩,
  ⟨some (125, false), .binOp .sub 3 (.tmp 122) (.tmp 124) 3, 3, none, true⟩,
  ⟨some (126, false), .call { callee := .value (.func 29), args := #[.tmp 121, .tmp 125, .const (.int .i64 4)], argTypes := #[36, 3, 3] }, 0, none, false⟩]
theorem code_choice_r17_go {K : Env → Heap → Prop} {τ ρ : Env} {h : Heap} : vcOps Try.prog K code_choice_r17 τ ρ h = vcOps Try.prog K [
  ⟨some (121, false), .move (.tmp 0), 36, none, true⟩,
  ⟨some (122, false), .move (.tmp 8), 3, none, true⟩,
  ⟨some (123, false), .fieldAddr 35 (.tmp 4) 0, 0, none, true⟩,
  ⟨some (124, false), .load 3 (.tmp 123), 3, none, true⟩,
  ⟨some (125, false), .binOp .sub 3 (.tmp 122) (.tmp 124) 3, 3, none, true⟩,
  ⟨some (126, false), .call { callee := .value (.func 29), args := #[.tmp 121, .tmp 125, .const (.int .i64 4)], argTypes := #[36, 3, 3] }, 0, none, false⟩] τ ρ h := _root_.id rfl
def code_choice_r18 : List Sop := [
  ⟨some (127, false), .binOp .add 3 (.tmp 82) (.const (.int .i64 1)) 3, 3, none, true⟩,
  ⟨some (82, true), .move (.tmp 127), 3, none, true⟩]
theorem code_choice_r18_go {K : Env → Heap → Prop} {τ ρ : Env} {h : Heap} : vcOps Try.prog K code_choice_r18 τ ρ h = vcOps Try.prog K [
  ⟨some (127, false), .binOp .add 3 (.tmp 82) (.const (.int .i64 1)) 3, 3, none, true⟩,
  ⟨some (82, true), .move (.tmp 127), 3, none, true⟩] τ ρ h := _root_.id rfl
def code_choice_l0 : Cd := .seq (.seq (.region code_choice_r1) (.cond (.tmp 15) (.skip) (.exit 0))) (.block 1 (.region code_choice_r2))
theorem code_choice_l0_go {Q : Ex → Env → Heap → Prop} {ρ : Env} {h : Heap} : Cd.vc Try.prog code_choice_l0 Q ρ h = Cd.vc Try.prog (.seq (.seq (.region code_choice_r1) (.cond (.tmp 15) (.skip) (.exit 0))) (.block 1 (.region code_choice_r2))) Q ρ h := _root_.id rfl
def code_choice_l1 : Cd := .seq (.region code_choice_r12) (.seq (.cond (.tmp 83) (.skip) (.exit 2)) (.seq (.block 3 (.seq (.region code_choice_r13) (.seq (.seq (.region code_choice_r14) (.cond (.tmp 88) (.seq (.draw code_choice_r15) (.region code_choice_r16)) (.skip))) (.region code_choice_r17)))) (.region code_choice_r18)))
theorem code_choice_l1_go {Q : Ex → Env → Heap → Prop} {ρ : Env} {h : Heap} : Cd.vc Try.prog code_choice_l1 Q ρ h = Cd.vc Try.prog (.seq (.region code_choice_r12) (.seq (.cond (.tmp 83) (.skip) (.exit 2)) (.seq (.block 3 (.seq (.region code_choice_r13) (.seq (.seq (.region code_choice_r14) (.cond (.tmp 88) (.seq (.draw code_choice_r15) (.region code_choice_r16)) (.skip))) (.region code_choice_r17)))) (.region code_choice_r18)))) Q ρ h := _root_.id rfl
def code_choice : Cd := .seq (.region code_choice_r0) (.seq (.block 0 (.loop code_choice_l0)) (.seq (.region code_choice_r3) (.seq (.seq (.region code_choice_r4) (.cond (.tmp 49) (.seq (.region code_choice_r5) (.ret)) (.skip))) (.seq (.draw code_choice_r6) (.seq (.seq (.region code_choice_r7) (.cond (.tmp 63) (.seq (.region code_choice_r8) (.region code_choice_r9)) (.region code_choice_r10))) (.seq (.region code_choice_r11) (.block 2 (.loop code_choice_l1))))))))
theorem code_choice_go {Q : Ex → Env → Heap → Prop} {ρ : Env} {h : Heap} : Cd.vc Try.prog code_choice Q ρ h = Cd.vc Try.prog (.seq (.region code_choice_r0) (.seq (.block 0 (.loop code_choice_l0)) (.seq (.region code_choice_r3) (.seq (.seq (.region code_choice_r4) (.cond (.tmp 49) (.seq (.region code_choice_r5) (.ret)) (.skip))) (.seq (.draw code_choice_r6) (.seq (.seq (.region code_choice_r7) (.cond (.tmp 63) (.seq (.region code_choice_r8) (.region code_choice_r9)) (.region code_choice_r10))) (.seq (.region code_choice_r11) (.block 2 (.loop code_choice_l1))))))))) Q ρ h := _root_.id rfl
theorem code_choice_calls {args : List Value} {h : Heap} {R : Value → Heap → Prop} (hl : args.length = 3) (hv : Cd.vc Try.prog code_choice (retQ Try.prog [] R) (initEnv args [0, 1, 2, 4, 6, 7, 8, 15, 49, 63, 80, 81, 82, 83, 88]) h) : HCalls Try.prog 31 args.toArray h R :=
  hcalls_of_vc (by kernel_rfl) Try.func31 (cd := code_choice) (L := [0, 1, 2, 4, 6, 7, 8, 15, 49, 63, 80, 81, 82, 83, 88]) (by kernel_rfl) (by kernel_rfl) ⟨by rw [hl, Try.ntmps31]; decide, by rw [Try.ntmps31]; decide⟩ hv
def code_choice_gos := And.intro @code_choice_go (And.intro @code_choice_r0_go (And.intro @code_choice_r1_go (And.intro @code_choice_r2_go (And.intro @code_choice_r3_go (And.intro @code_choice_r4_go (And.intro @code_choice_r5_go (And.intro @code_choice_r6_go (And.intro @code_choice_r7_go (And.intro @code_choice_r8_go (And.intro @code_choice_r9_go (And.intro @code_choice_r10_go (And.intro @code_choice_r11_go (And.intro @code_choice_r12_go (And.intro @code_choice_r13_go (And.intro @code_choice_r14_go (And.intro @code_choice_r15_go (And.intro @code_choice_r16_go (And.intro @code_choice_r17_go (And.intro @code_choice_r18_go (And.intro @code_choice_l0_go (@code_choice_l1_go)))))))))))))))))))))

/-! (*jvmcore/code.encoder).one: function 15: slots [0, 1, 2, 4, 6, 8, 42, 46, 47, 53, 59, 65, 71, 78, 90, 94, 104, 108, 118, 125, 144, 150] -/
def code_one_r0 : List Sop := [
  ⟨some (4, true), .box 35 (.tmp 1), 0, none, false⟩]
theorem code_one_r0_go {K : Env → Heap → Prop} {τ ρ : Env} {h : Heap} : vcOps Try.prog K code_one_r0 τ ρ h = vcOps Try.prog K [
  ⟨some (4, true), .box 35 (.tmp 1), 0, none, false⟩] τ ρ h := _root_.id rfl
def code_one_r1 : List Sop := [
  ⟨some (6, true), .assign (.const (.int .i64 1)), 3, none, true⟩]
theorem code_one_r1_go {K : Env → Heap → Prop} {τ ρ : Env} {h : Heap} : vcOps Try.prog K code_one_r1 τ ρ h = vcOps Try.prog K [
  ⟨some (6, true), .assign (.const (.int .i64 1)), 3, none, true⟩] τ ρ h := _root_.id rfl
def code_one_r2 : List Sop := [
  ⟨some (7, false), .fieldAddr 35 (.tmp 4) 2, 0, none, true⟩,
  ⟨some (8, true), .load 4 (.tmp 7), 4, none, true⟩]
theorem code_one_r2_go {K : Env → Heap → Prop} {τ ρ : Env} {h : Heap} : vcOps Try.prog K code_one_r2 τ ρ h = vcOps Try.prog K [
  ⟨some (7, false), .fieldAddr 35 (.tmp 4) 2, 0, none, true⟩,
  ⟨some (8, true), .load 4 (.tmp 7), 4, none, true⟩] τ ρ h := _root_.id rfl
def code_one_r3 : List Sop := [
  ⟨some (6, true), .assign (.const (.int .i64 2)), 3, none, true⟩]
theorem code_one_r3_go {K : Env → Heap → Prop} {τ ρ : Env} {h : Heap} : vcOps Try.prog K code_one_r3 τ ρ h = vcOps Try.prog K [
  ⟨some (6, true), .assign (.const (.int .i64 2)), 3, none, true⟩] τ ρ h := _root_.id rfl
def code_one_r4 : List Sop := [
  ⟨some (9, false), .move (.tmp 0), 36, none, true⟩,
  ⟨some (10, false), .move (.tmp 0), 36, none, true⟩,
  ⟨some (11, false), .nilCheck (.tmp 10), 0, none, true⟩,
  ⟨some (12, false), .fieldAddr 39 (.tmp 11) 0, 0, none, true⟩,
  ⟨some (13, false), .load 37 (.tmp 12), 37, none, true⟩,
  ⟨some (14, false), .buildSlice 37 1 #[(0, .const (.int .u8 196))], 37, none, false⟩,
  ⟨some (15, false), .call { callee := .builtin .append, args := #[.tmp 13, .tmp 14], argTypes := #[37, 37] }, 37, none, false⟩,
  ⟨some (16, false), .nilCheck (.tmp 9), 0, none, true⟩,
  ⟨some (17, false), .fieldAddr 39 (.tmp 16) 0, 0, none, true⟩,
  ⟨none, .store 37 (.tmp 17) (.tmp 15), 0, none, false⟩]
theorem code_one_r4_go {K : Env → Heap → Prop} {τ ρ : Env} {h : Heap} : vcOps Try.prog K code_one_r4 τ ρ h = vcOps Try.prog K [
  ⟨some (9, false), .move (.tmp 0), 36, none, true⟩,
  ⟨some (10, false), .move (.tmp 0), 36, none, true⟩,
  ⟨some (11, false), .nilCheck (.tmp 10), 0, none, true⟩,
  ⟨some (12, false), .fieldAddr 39 (.tmp 11) 0, 0, none, true⟩,
  ⟨some (13, false), .load 37 (.tmp 12), 37, none, true⟩,
  ⟨some (14, false), .buildSlice 37 1 #[(0, .const (.int .u8 196))], 37, none, false⟩,
  ⟨some (15, false), .call { callee := .builtin .append, args := #[.tmp 13, .tmp 14], argTypes := #[37, 37] }, 37, none, false⟩,
  ⟨some (16, false), .nilCheck (.tmp 9), 0, none, true⟩,
  ⟨some (17, false), .fieldAddr 39 (.tmp 16) 0, 0, none, true⟩,
  ⟨none, .store 37 (.tmp 17) (.tmp 15), 0, none, false⟩] τ ρ h := _root_.id rfl
def code_one_r5 : List (Sop × List Sop) := [
  (⟨some (18, false), .move (.tmp 0), 36, none, true⟩, []),
  (⟨some (19, false), .move (.tmp 0), 36, none, true⟩, []),
  (⟨some (20, false), .nilCheck (.tmp 19), 0, none, true⟩, []),
  (⟨some (21, false), .fieldAddr 39 (.tmp 20) 0, 0, none, true⟩, []),
  (⟨some (22, false), .load 37 (.tmp 21), 37, none, true⟩, []),
  (⟨some (23, false), .fieldAddr 35 (.tmp 4) 1, 0, none, true⟩, []),
  (⟨some (24, false), .load 5 (.tmp 23), 5, none, true⟩, []),
  (⟨some (25, false), .buildSlice 37 1 #[(0, .tmp 24)], 37, none, false⟩, [⟨some (20, false), .nilCheck (.tmp 19), 0, none, true⟩, ⟨some (21, false), .fieldAddr 39 (.tmp 20) 0, 0, none, true⟩, ⟨some (22, false), .load 37 (.tmp 21), 37, none, true⟩]),
  (⟨some (26, false), .call { callee := .builtin .append, args := #[.tmp 22, .tmp 25], argTypes := #[37, 37] }, 37, none, false⟩, []),
  (⟨some (27, false), .nilCheck (.tmp 18), 0, none, true⟩, []),
  (⟨some (28, false), .fieldAddr 39 (.tmp 27) 0, 0, none, true⟩, []),
  (⟨none, .store 37 (.tmp 28) (.tmp 26), 0, none, false⟩, [])]
theorem code_one_r5_go {K : Env → Heap → Prop} {τ ρ : Env} {h : Heap} : vcDraw Try.prog K code_one_r5 τ ρ h = vcDraw Try.prog K [
  (⟨some (18, false), .move (.tmp 0), 36, none, true⟩, []),
  (⟨some (19, false), .move (.tmp 0), 36, none, true⟩, []),
  (⟨some (20, false), .nilCheck (.tmp 19), 0, none, true⟩, []),
  (⟨some (21, false), .fieldAddr 39 (.tmp 20) 0, 0, none, true⟩, []),
  (⟨some (22, false), .load 37 (.tmp 21), 37, none, true⟩, []),
  (⟨some (23, false), .fieldAddr 35 (.tmp 4) 1, 0, none, true⟩, []),
  (⟨some (24, false), .load 5 (.tmp 23), 5, none, true⟩, []),
  (⟨some (25, false), .buildSlice 37 1 #[(0, .tmp 24)], 37, none, false⟩, [⟨some (20, false), .nilCheck (.tmp 19), 0, none, true⟩, ⟨some (21, false), .fieldAddr 39 (.tmp 20) 0, 0, none, true⟩, ⟨some (22, false), .load 37 (.tmp 21), 37, none, true⟩]),
  (⟨some (26, false), .call { callee := .builtin .append, args := #[.tmp 22, .tmp 25], argTypes := #[37, 37] }, 37, none, false⟩, []),
  (⟨some (27, false), .nilCheck (.tmp 18), 0, none, true⟩, []),
  (⟨some (28, false), .fieldAddr 39 (.tmp 27) 0, 0, none, true⟩, []),
  (⟨none, .store 37 (.tmp 28) (.tmp 26), 0, none, false⟩, [])] τ ρ h := _root_.id rfl
def code_one_r6 : List Sop := [
  ⟨some (29, false), .move (.tmp 2), 3, none, true⟩,
  ⟨some (30, false), .binOp .neq 3 (.tmp 29) (.const (.int .i64 8)) 3, 4, none, true⟩,
  ⟨some (31, false), .move (.tmp 30), 4, none, true⟩,
  ⟨some (32, false), .move (.tmp 2), 3, some (31, true), true⟩,
  ⟨some (33, false), .binOp .neq 3 (.tmp 32) (.const (.int .i64 9)) 3, 4, some (31, true), true⟩,
  ⟨some (34, false), .pick (.tmp 31) (.tmp 33) (.const (.bool false)), 4, none, true⟩,
  ⟨some (35, false), .move (.tmp 34), 4, none, true⟩,
  ⟨some (36, false), .move (.tmp 2), 3, some (35, true), true⟩,
  ⟨some (37, false), .binOp .neq 3 (.tmp 36) (.const (.int .i64 10)) 3, 4, some (35, true), true⟩,
  ⟨some (38, false), .pick (.tmp 35) (.tmp 37) (.const (.bool false)), 4, none, true⟩,
  ⟨some (39, false), .move (.tmp 38), 4, none, true⟩,
  ⟨some (40, false), .move (.tmp 2), 3, some (39, true), true⟩,
  ⟨some (41, false), .binOp .neq 3 (.tmp 40) (.const (.int .i64 11)) 3, 4, some (39, true), true⟩,
  ⟨some (42, true), .pick (.tmp 39) (.tmp 41) (.const (.bool false)), 4, none, true⟩]
theorem code_one_r6_go {K : Env → Heap → Prop} {τ ρ : Env} {h : Heap} : vcOps Try.prog K code_one_r6 τ ρ h = vcOps Try.prog K [
  ⟨some (29, false), .move (.tmp 2), 3, none, true⟩,
  ⟨some (30, false), .binOp .neq 3 (.tmp 29) (.const (.int .i64 8)) 3, 4, none, true⟩,
  ⟨some (31, false), .move (.tmp 30), 4, none, true⟩,
  ⟨some (32, false), .move (.tmp 2), 3, some (31, true), true⟩,
  ⟨some (33, false), .binOp .neq 3 (.tmp 32) (.const (.int .i64 9)) 3, 4, some (31, true), true⟩,
  ⟨some (34, false), .pick (.tmp 31) (.tmp 33) (.const (.bool false)), 4, none, true⟩,
  ⟨some (35, false), .move (.tmp 34), 4, none, true⟩,
  ⟨some (36, false), .move (.tmp 2), 3, some (35, true), true⟩,
  ⟨some (37, false), .binOp .neq 3 (.tmp 36) (.const (.int .i64 10)) 3, 4, some (35, true), true⟩,
  ⟨some (38, false), .pick (.tmp 35) (.tmp 37) (.const (.bool false)), 4, none, true⟩,
  ⟨some (39, false), .move (.tmp 38), 4, none, true⟩,
  ⟨some (40, false), .move (.tmp 2), 3, some (39, true), true⟩,
  ⟨some (41, false), .binOp .neq 3 (.tmp 40) (.const (.int .i64 11)) 3, 4, some (39, true), true⟩,
  ⟨some (42, true), .pick (.tmp 39) (.tmp 41) (.const (.bool false)), 4, none, true⟩] τ ρ h := _root_.id rfl
def code_one_r7 : List Sop := [
  ⟨some (43, false), .move (.tmp 0), 36, none, true⟩,
  ⟨some (44, false), .load 35 (.tmp 4), 35, none, true⟩,
  ⟨some (45, false), .call { callee := .value (.func 28), args := #[.tmp 43, .tmp 44, .const (.int .i64 0)], argTypes := #[36, 35, 3] }, 4, none, false⟩]
theorem code_one_r7_go {K : Env → Heap → Prop} {τ ρ : Env} {h : Heap} : vcOps Try.prog K code_one_r7 τ ρ h = vcOps Try.prog K [
  ⟨some (43, false), .move (.tmp 0), 36, none, true⟩,
  ⟨some (44, false), .load 35 (.tmp 4), 35, none, true⟩,
  ⟨some (45, false), .call { callee := .value (.func 28), args := #[.tmp 43, .tmp 44, .const (.int .i64 0)], argTypes := #[36, 35, 3] }, 4, none, false⟩] τ ρ h := _root_.id rfl
def code_one_r8 : List Sop := [
  ⟨some (46, true), .move (.tmp 2), 3, none, true⟩]
theorem code_one_r8_go {K : Env → Heap → Prop} {τ ρ : Env} {h : Heap} : vcOps Try.prog K code_one_r8 τ ρ h = vcOps Try.prog K [
  ⟨some (46, true), .move (.tmp 2), 3, none, true⟩] τ ρ h := _root_.id rfl
def code_one_r9 : List Sop := [
  ⟨some (48, false), .binOp .eql 3 (.tmp 46) (.const (.int .i64 2)) 3, 4, none, true⟩,
  ⟨some (47, true), .assign (.tmp 48), 4, none, true⟩]
theorem code_one_r9_go {K : Env → Heap → Prop} {τ ρ : Env} {h : Heap} : vcOps Try.prog K code_one_r9 τ ρ h = vcOps Try.prog K [
  ⟨some (48, false), .binOp .eql 3 (.tmp 46) (.const (.int .i64 2)) 3, 4, none, true⟩,
  ⟨some (47, true), .assign (.tmp 48), 4, none, true⟩] τ ρ h := _root_.id rfl
def code_one_r10 : List Sop := [
  ⟨some (49, false), .move (.tmp 0), 36, none, true⟩,
  ⟨some (50, false), .fieldAddr 35 (.tmp 4) 3, 0, none, true⟩,
  ⟨some (51, false), .load 3 (.tmp 50), 3, none, true⟩,
  ⟨some (52, false), .call { callee := .value (.func 29), args := #[.tmp 49, .tmp 51, .const (.int .i64 1)], argTypes := #[36, 3, 3] }, 0, none, false⟩]
theorem code_one_r10_go {K : Env → Heap → Prop} {τ ρ : Env} {h : Heap} : vcOps Try.prog K code_one_r10 τ ρ h = vcOps Try.prog K [
  ⟨some (49, false), .move (.tmp 0), 36, none, true⟩,
  ⟨some (50, false), .fieldAddr 35 (.tmp 4) 3, 0, none, true⟩,
  ⟨some (51, false), .load 3 (.tmp 50), 3, none, true⟩,
  ⟨some (52, false), .call { callee := .value (.func 29), args := #[.tmp 49, .tmp 51, .const (.int .i64 1)], argTypes := #[36, 3, 3] }, 0, none, false⟩] τ ρ h := _root_.id rfl
def code_one_r11 : List Sop := [
  ⟨some (54, false), .binOp .eql 3 (.tmp 46) (.const (.int .i64 3)) 3, 4, none, true⟩,
  ⟨some (53, true), .assign (.tmp 54), 4, none, true⟩]
theorem code_one_r11_go {K : Env → Heap → Prop} {τ ρ : Env} {h : Heap} : vcOps Try.prog K code_one_r11 τ ρ h = vcOps Try.prog K [
  ⟨some (54, false), .binOp .eql 3 (.tmp 46) (.const (.int .i64 3)) 3, 4, none, true⟩,
  ⟨some (53, true), .assign (.tmp 54), 4, none, true⟩] τ ρ h := _root_.id rfl
def code_one_r12 : List Sop := [
  ⟨some (55, false), .move (.tmp 0), 36, none, true⟩,
  ⟨some (56, false), .fieldAddr 35 (.tmp 4) 3, 0, none, true⟩,
  ⟨some (57, false), .load 3 (.tmp 56), 3, none, true⟩,
  ⟨some (58, false), .call { callee := .value (.func 29), args := #[.tmp 55, .tmp 57, .const (.int .i64 2)], argTypes := #[36, 3, 3] }, 0, none, false⟩]
theorem code_one_r12_go {K : Env → Heap → Prop} {τ ρ : Env} {h : Heap} : vcOps Try.prog K code_one_r12 τ ρ h = vcOps Try.prog K [
  ⟨some (55, false), .move (.tmp 0), 36, none, true⟩,
  ⟨some (56, false), .fieldAddr 35 (.tmp 4) 3, 0, none, true⟩,
  ⟨some (57, false), .load 3 (.tmp 56), 3, none, true⟩,
  ⟨some (58, false), .call { callee := .value (.func 29), args := #[.tmp 55, .tmp 57, .const (.int .i64 2)], argTypes := #[36, 3, 3] }, 0, none, false⟩] τ ρ h := _root_.id rfl
def code_one_r13 : List Sop := [
  ⟨some (60, false), .binOp .eql 3 (.tmp 46) (.const (.int .i64 4)) 3, 4, none, true⟩,
  ⟨some (59, true), .assign (.tmp 60), 4, none, true⟩]
theorem code_one_r13_go {K : Env → Heap → Prop} {τ ρ : Env} {h : Heap} : vcOps Try.prog K code_one_r13 τ ρ h = vcOps Try.prog K [
  ⟨some (60, false), .binOp .eql 3 (.tmp 46) (.const (.int .i64 4)) 3, 4, none, true⟩,
  ⟨some (59, true), .assign (.tmp 60), 4, none, true⟩] τ ρ h := _root_.id rfl
def code_one_r14 : List Sop := [
  ⟨some (61, false), .move (.tmp 0), 36, none, true⟩,
  ⟨some (62, false), .fieldAddr 35 (.tmp 4) 3, 0, none, true⟩,
  ⟨some (63, false), .load 3 (.tmp 62), 3, none, true⟩,
  ⟨some (64, false), .call { callee := .value (.func 30), args := #[.tmp 61, .tmp 63, .const (.int .i64 1)], argTypes := #[36, 3, 3] }, 0, none, false⟩]
theorem code_one_r14_go {K : Env → Heap → Prop} {τ ρ : Env} {h : Heap} : vcOps Try.prog K code_one_r14 τ ρ h = vcOps Try.prog K [
  ⟨some (61, false), .move (.tmp 0), 36, none, true⟩,
  ⟨some (62, false), .fieldAddr 35 (.tmp 4) 3, 0, none, true⟩,
  ⟨some (63, false), .load 3 (.tmp 62), 3, none, true⟩,
  ⟨some (64, false), .call { callee := .value (.func 30), args := #[.tmp 61, .tmp 63, .const (.int .i64 1)], argTypes := #[36, 3, 3] }, 0, none, false⟩] τ ρ h := _root_.id rfl
def code_one_r15 : List Sop := [
  ⟨some (66, false), .binOp .eql 3 (.tmp 46) (.const (.int .i64 5)) 3, 4, none, true⟩,
  ⟨some (65, true), .assign (.tmp 66), 4, none, true⟩]
theorem code_one_r15_go {K : Env → Heap → Prop} {τ ρ : Env} {h : Heap} : vcOps Try.prog K code_one_r15 τ ρ h = vcOps Try.prog K [
  ⟨some (66, false), .binOp .eql 3 (.tmp 46) (.const (.int .i64 5)) 3, 4, none, true⟩,
  ⟨some (65, true), .assign (.tmp 66), 4, none, true⟩] τ ρ h := _root_.id rfl
def code_one_r16 : List Sop := [
  ⟨some (67, false), .move (.tmp 0), 36, none, true⟩,
  ⟨some (68, false), .fieldAddr 35 (.tmp 4) 3, 0, none, true⟩,
  ⟨some (69, false), .load 3 (.tmp 68), 3, none, true⟩,
  ⟨some (70, false), .call { callee := .value (.func 30), args := #[.tmp 67, .tmp 69, .const (.int .i64 2)], argTypes := #[36, 3, 3] }, 0, none, false⟩]
theorem code_one_r16_go {K : Env → Heap → Prop} {τ ρ : Env} {h : Heap} : vcOps Try.prog K code_one_r16 τ ρ h = vcOps Try.prog K [
  ⟨some (67, false), .move (.tmp 0), 36, none, true⟩,
  ⟨some (68, false), .fieldAddr 35 (.tmp 4) 3, 0, none, true⟩,
  ⟨some (69, false), .load 3 (.tmp 68), 3, none, true⟩,
  ⟨some (70, false), .call { callee := .value (.func 30), args := #[.tmp 67, .tmp 69, .const (.int .i64 2)], argTypes := #[36, 3, 3] }, 0, none, false⟩] τ ρ h := _root_.id rfl
def code_one_r17 : List Sop := [
  ⟨some (72, false), .binOp .eql 3 (.tmp 46) (.const (.int .i64 6)) 3, 4, none, true⟩,
  ⟨some (71, true), .assign (.tmp 72), 4, none, true⟩]
theorem code_one_r17_go {K : Env → Heap → Prop} {τ ρ : Env} {h : Heap} : vcOps Try.prog K code_one_r17 τ ρ h = vcOps Try.prog K [
  ⟨some (72, false), .binOp .eql 3 (.tmp 46) (.const (.int .i64 6)) 3, 4, none, true⟩,
  ⟨some (71, true), .assign (.tmp 72), 4, none, true⟩] τ ρ h := _root_.id rfl
def code_one_r18 : List Sop := [
  ⟨some (73, false), .move (.tmp 0), 36, none, true⟩,
  ⟨some (74, false), .fieldAddr 35 (.tmp 4) 3, 0, none, true⟩,
  ⟨some (75, false), .load 3 (.tmp 74), 3, none, true⟩,
  ⟨some (76, false), .move (.tmp 6), 3, none, true⟩,
  ⟨some (77, false), .call { callee := .value (.func 30), args := #[.tmp 73, .tmp 75, .tmp 76], argTypes := #[36, 3, 3] }, 0, none, false⟩]
theorem code_one_r18_go {K : Env → Heap → Prop} {τ ρ : Env} {h : Heap} : vcOps Try.prog K code_one_r18 τ ρ h = vcOps Try.prog K [
  ⟨some (73, false), .move (.tmp 0), 36, none, true⟩,
  ⟨some (74, false), .fieldAddr 35 (.tmp 4) 3, 0, none, true⟩,
  ⟨some (75, false), .load 3 (.tmp 74), 3, none, true⟩,
  ⟨some (76, false), .move (.tmp 6), 3, none, true⟩,
  ⟨some (77, false), .call { callee := .value (.func 30), args := #[.tmp 73, .tmp 75, .tmp 76], argTypes := #[36, 3, 3] }, 0, none, false⟩] τ ρ h := _root_.id rfl
def code_one_r19 : List Sop := [
  ⟨some (79, false), .binOp .eql 3 (.tmp 46) (.const (.int .i64 7)) 3, 4, none, true⟩,
  ⟨some (78, true), .assign (.tmp 79), 4, none, true⟩]
theorem code_one_r19_go {K : Env → Heap → Prop} {τ ρ : Env} {h : Heap} : vcOps Try.prog K code_one_r19 τ ρ h = vcOps Try.prog K [
  ⟨some (79, false), .binOp .eql 3 (.tmp 46) (.const (.int .i64 7)) 3, 4, none, true⟩,
  ⟨some (78, true), .assign (.tmp 79), 4, none, true⟩] τ ρ h := _root_.id rfl
def code_one_r20 : List Sop := [
  ⟨some (80, false), .move (.tmp 0), 36, none, true⟩,
  ⟨some (81, false), .fieldAddr 35 (.tmp 4) 3, 0, none, true⟩,
  ⟨some (82, false), .load 3 (.tmp 81), 3, none, true⟩,
  ⟨some (83, false), .move (.tmp 6), 3, none, true⟩,
  ⟨some (84, false), .call { callee := .value (.func 30), args := #[.tmp 80, .tmp 82, .tmp 83], argTypes := #[36, 3, 3] }, 0, none, false⟩]
theorem code_one_r20_go {K : Env → Heap → Prop} {τ ρ : Env} {h : Heap} : vcOps Try.prog K code_one_r20 τ ρ h = vcOps Try.prog K [
  ⟨some (80, false), .move (.tmp 0), 36, none, true⟩,
  ⟨some (81, false), .fieldAddr 35 (.tmp 4) 3, 0, none, true⟩,
  ⟨some (82, false), .load 3 (.tmp 81), 3, none, true⟩,
  ⟨some (83, false), .move (.tmp 6), 3, none, true⟩,
  ⟨some (84, false), .call { callee := .value (.func 30), args := #[.tmp 80, .tmp 82, .tmp 83], argTypes := #[36, 3, 3] }, 0, none, false⟩] τ ρ h := _root_.id rfl
def code_one_r21 : List Sop := [
  ⟨some (85, false), .move (.tmp 0), 36, none, true⟩,
  ⟨some (86, false), .fieldAddr 35 (.tmp 4) 4, 0, none, true⟩,
  ⟨some (87, false), .load 3 (.tmp 86), 3, none, true⟩,
  ⟨some (88, false), .move (.tmp 6), 3, none, true⟩,
  ⟨some (89, false), .call { callee := .value (.func 29), args := #[.tmp 85, .tmp 87, .tmp 88], argTypes := #[36, 3, 3] }, 0, none, false⟩]
theorem code_one_r21_go {K : Env → Heap → Prop} {τ ρ : Env} {h : Heap} : vcOps Try.prog K code_one_r21 τ ρ h = vcOps Try.prog K [
  ⟨some (85, false), .move (.tmp 0), 36, none, true⟩,
  ⟨some (86, false), .fieldAddr 35 (.tmp 4) 4, 0, none, true⟩,
  ⟨some (87, false), .load 3 (.tmp 86), 3, none, true⟩,
  ⟨some (88, false), .move (.tmp 6), 3, none, true⟩,
  ⟨some (89, false), .call { callee := .value (.func 29), args := #[.tmp 85, .tmp 87, .tmp 88], argTypes := #[36, 3, 3] }, 0, none, false⟩] τ ρ h := _root_.id rfl
def code_one_r22 : List Sop := [
  ⟨some (91, false), .binOp .eql 3 (.tmp 46) (.const (.int .i64 8)) 3, 4, none, true⟩,
  ⟨some (90, true), .assign (.tmp 91), 4, none, true⟩]
theorem code_one_r22_go {K : Env → Heap → Prop} {τ ρ : Env} {h : Heap} : vcOps Try.prog K code_one_r22 τ ρ h = vcOps Try.prog K [
  ⟨some (91, false), .binOp .eql 3 (.tmp 46) (.const (.int .i64 8)) 3, 4, none, true⟩,
  ⟨some (90, true), .assign (.tmp 91), 4, none, true⟩] τ ρ h := _root_.id rfl
def code_one_r23 : List Sop := [
  ⟨some (92, false), .move (.tmp 0), 36, none, true⟩,
  ⟨some (93, false), .load 35 (.tmp 4), 35, none, true⟩,
  ⟨some (94, true), .call { callee := .value (.func 28), args := #[.tmp 92, .tmp 93, .const (.int .i64 1)], argTypes := #[36, 35, 3] }, 4, none, false⟩]
theorem code_one_r23_go {K : Env → Heap → Prop} {τ ρ : Env} {h : Heap} : vcOps Try.prog K code_one_r23 τ ρ h = vcOps Try.prog K [
  ⟨some (92, false), .move (.tmp 0), 36, none, true⟩,
  ⟨some (93, false), .load 35 (.tmp 4), 35, none, true⟩,
  ⟨some (94, true), .call { callee := .value (.func 28), args := #[.tmp 92, .tmp 93, .const (.int .i64 1)], argTypes := #[36, 35, 3] }, 4, none, false⟩] τ ρ h := _root_.id rfl
def code_one_r24 : List (Sop × List Sop) := [
  (⟨some (95, false), .move (.tmp 0), 36, none, true⟩, []),
  (⟨some (96, false), .fieldAddr 35 (.tmp 4) 7, 0, none, true⟩, []),
  (⟨some (97, false), .load 33 (.tmp 96), 33, none, true⟩, []),
  (⟨some (98, false), .indexAddr 33 (.tmp 97) (.const (.int .i64 0)), 0, none, true⟩, []),
  (⟨some (99, false), .load 3 (.tmp 98), 3, none, true⟩, []),
  (⟨some (100, false), .fieldAddr 35 (.tmp 4) 0, 0, none, true⟩, []),
  (⟨some (101, false), .load 3 (.tmp 100), 3, none, true⟩, []),
  (⟨some (102, false), .binOp .sub 3 (.tmp 99) (.tmp 101) 3, 3, none, true⟩, []),
  (⟨some (103, false), .call { callee := .value (.func 29), args := #[.tmp 95, .tmp 102, .const (.int .i64 2)], argTypes := #[36, 3, 3] }, 0, none, false⟩, [])]
theorem code_one_r24_go {K : Env → Heap → Prop} {τ ρ : Env} {h : Heap} : vcDraw Try.prog K code_one_r24 τ ρ h = vcDraw Try.prog K [
  (⟨some (95, false), .move (.tmp 0), 36, none, true⟩, []),
  (⟨some (96, false), .fieldAddr 35 (.tmp 4) 7, 0, none, true⟩, []),
  (⟨some (97, false), .load 33 (.tmp 96), 33, none, true⟩, []),
  (⟨some (98, false), .indexAddr 33 (.tmp 97) (.const (.int .i64 0)), 0, none, true⟩, []),
  (⟨some (99, false), .load 3 (.tmp 98), 3, none, true⟩, []),
  (⟨some (100, false), .fieldAddr 35 (.tmp 4) 0, 0, none, true⟩, []),
  (⟨some (101, false), .load 3 (.tmp 100), 3, none, true⟩, []),
  (⟨some (102, false), .binOp .sub 3 (.tmp 99) (.tmp 101) 3, 3, none, true⟩, []),
  (⟨some (103, false), .call { callee := .value (.func 29), args := #[.tmp 95, .tmp 102, .const (.int .i64 2)], argTypes := #[36, 3, 3] }, 0, none, false⟩, [])] τ ρ h := _root_.id rfl
def code_one_r25 : List Sop := [
  ⟨some (105, false), .binOp .eql 3 (.tmp 46) (.const (.int .i64 9)) 3, 4, none, true⟩,
  ⟨some (104, true), .assign (.tmp 105), 4, none, true⟩]
theorem code_one_r25_go {K : Env → Heap → Prop} {τ ρ : Env} {h : Heap} : vcOps Try.prog K code_one_r25 τ ρ h = vcOps Try.prog K [
  ⟨some (105, false), .binOp .eql 3 (.tmp 46) (.const (.int .i64 9)) 3, 4, none, true⟩,
  ⟨some (104, true), .assign (.tmp 105), 4, none, true⟩] τ ρ h := _root_.id rfl
def code_one_r26 : List Sop := [
  ⟨some (106, false), .move (.tmp 0), 36, none, true⟩,
  ⟨some (107, false), .load 35 (.tmp 4), 35, none, true⟩,
  ⟨some (108, true), .call { callee := .value (.func 28), args := #[.tmp 106, .tmp 107, .const (.int .i64 1)], argTypes := #[36, 35, 3] }, 4, none, false⟩]
theorem code_one_r26_go {K : Env → Heap → Prop} {τ ρ : Env} {h : Heap} : vcOps Try.prog K code_one_r26 τ ρ h = vcOps Try.prog K [
  ⟨some (106, false), .move (.tmp 0), 36, none, true⟩,
  ⟨some (107, false), .load 35 (.tmp 4), 35, none, true⟩,
  ⟨some (108, true), .call { callee := .value (.func 28), args := #[.tmp 106, .tmp 107, .const (.int .i64 1)], argTypes := #[36, 35, 3] }, 4, none, false⟩] τ ρ h := _root_.id rfl
def code_one_r27 : List (Sop × List Sop) := [
  (⟨some (109, false), .move (.tmp 0), 36, none, true⟩, []),
  (⟨some (110, false), .fieldAddr 35 (.tmp 4) 7, 0, none, true⟩, []),
  (⟨some (111, false), .load 33 (.tmp 110), 33, none, true⟩, []),
  (⟨some (112, false), .indexAddr 33 (.tmp 111) (.const (.int .i64 0)), 0, none, true⟩, []),
  (⟨some (113, false), .load 3 (.tmp 112), 3, none, true⟩, []),
  (⟨some (114, false), .fieldAddr 35 (.tmp 4) 0, 0, none, true⟩, []),
  (⟨some (115, false), .load 3 (.tmp 114), 3, none, true⟩, []),
  (⟨some (116, false), .binOp .sub 3 (.tmp 113) (.tmp 115) 3, 3, none, true⟩, []),
  (⟨some (117, false), .call { callee := .value (.func 29), args := #[.tmp 109, .tmp 116, .const (.int .i64 4)], argTypes := #[36, 3, 3] }, 0, none, false⟩, [])]
theorem code_one_r27_go {K : Env → Heap → Prop} {τ ρ : Env} {h : Heap} : vcDraw Try.prog K code_one_r27 τ ρ h = vcDraw Try.prog K [
  (⟨some (109, false), .move (.tmp 0), 36, none, true⟩, []),
  (⟨some (110, false), .fieldAddr 35 (.tmp 4) 7, 0, none, true⟩, []),
  (⟨some (111, false), .load 33 (.tmp 110), 33, none, true⟩, []),
  (⟨some (112, false), .indexAddr 33 (.tmp 111) (.const (.int .i64 0)), 0, none, true⟩, []),
  (⟨some (113, false), .load 3 (.tmp 112), 3, none, true⟩, []),
  (⟨some (114, false), .fieldAddr 35 (.tmp 4) 0, 0, none, true⟩, []),
  (⟨some (115, false), .load 3 (.tmp 114), 3, none, true⟩, []),
  (⟨some (116, false), .binOp .sub 3 (.tmp 113) (.tmp 115) 3, 3, none, true⟩, []),
  (⟨some (117, false), .call { callee := .value (.func 29), args := #[.tmp 109, .tmp 116, .const (.int .i64 4)], argTypes := #[36, 3, 3] }, 0, none, false⟩, [])] τ ρ h := _root_.id rfl
def code_one_r28 : List Sop := [
  ⟨some (119, false), .binOp .eql 3 (.tmp 46) (.const (.int .i64 10)) 3, 4, none, true⟩,
  ⟨some (118, true), .assign (.tmp 119), 4, none, true⟩]
theorem code_one_r28_go {K : Env → Heap → Prop} {τ ρ : Env} {h : Heap} : vcOps Try.prog K code_one_r28 τ ρ h = vcOps Try.prog K [
  ⟨some (119, false), .binOp .eql 3 (.tmp 46) (.const (.int .i64 10)) 3, 4, none, true⟩,
  ⟨some (118, true), .assign (.tmp 119), 4, none, true⟩] τ ρ h := _root_.id rfl
def code_one_r29 : List Sop := [
  ⟨some (120, false), .binOp .eql 3 (.tmp 46) (.const (.int .i64 11)) 3, 4, none, true⟩,
  ⟨some (118, true), .assign (.tmp 120), 4, none, true⟩]
theorem code_one_r29_go {K : Env → Heap → Prop} {τ ρ : Env} {h : Heap} : vcOps Try.prog K code_one_r29 τ ρ h = vcOps Try.prog K [
  ⟨some (120, false), .binOp .eql 3 (.tmp 46) (.const (.int .i64 11)) 3, 4, none, true⟩,
  ⟨some (118, true), .assign (.tmp 120), 4, none, true⟩] τ ρ h := _root_.id rfl
def code_one_r30 : List Sop := [
  ⟨some (121, false), .move (.tmp 0), 36, none, true⟩,
  ⟨some (122, false), .load 35 (.tmp 4), 35, none, true⟩,
  ⟨some (123, false), .move (.tmp 2), 3, none, true⟩,
  ⟨some (124, false), .call { callee := .value (.func 31), args := #[.tmp 121, .tmp 122, .tmp 123], argTypes := #[36, 35, 3] }, 0, none, false⟩]
theorem code_one_r30_go {K : Env → Heap → Prop} {τ ρ : Env} {h : Heap} : vcOps Try.prog K code_one_r30 τ ρ h = vcOps Try.prog K [
  ⟨some (121, false), .move (.tmp 0), 36, none, true⟩,
  ⟨some (122, false), .load 35 (.tmp 4), 35, none, true⟩,
  ⟨some (123, false), .move (.tmp 2), 3, none, true⟩,
  ⟨some (124, false), .call { callee := .value (.func 31), args := #[.tmp 121, .tmp 122, .tmp 123], argTypes := #[36, 35, 3] }, 0, none, false⟩] τ ρ h := _root_.id rfl
def code_one_r31 : List Sop := [
  ⟨some (126, false), .binOp .eql 3 (.tmp 46) (.const (.int .i64 12)) 3, 4, none, true⟩,
  ⟨some (125, true), .assign (.tmp 126), 4, none, true⟩]
theorem code_one_r31_go {K : Env → Heap → Prop} {τ ρ : Env} {h : Heap} : vcOps Try.prog K code_one_r31 τ ρ h = vcOps Try.prog K [
  ⟨some (126, false), .binOp .eql 3 (.tmp 46) (.const (.int .i64 12)) 3, 4, none, true⟩,
  ⟨some (125, true), .assign (.tmp 126), 4, none, true⟩] τ ρ h := _root_.id rfl
def code_one_r32 : List Sop := [
  ⟨some (127, false), .move (.tmp 0), 36, none, true⟩,
  ⟨some (128, false), .fieldAddr 35 (.tmp 4) 3, 0, none, true⟩,
  ⟨some (129, false), .load 3 (.tmp 128), 3, none, true⟩,
  ⟨some (130, false), .call { callee := .value (.func 30), args := #[.tmp 127, .tmp 129, .const (.int .i64 2)], argTypes := #[36, 3, 3] }, 0, none, false⟩]
theorem code_one_r32_go {K : Env → Heap → Prop} {τ ρ : Env} {h : Heap} : vcOps Try.prog K code_one_r32 τ ρ h = vcOps Try.prog K [
  ⟨some (127, false), .move (.tmp 0), 36, none, true⟩,
  ⟨some (128, false), .fieldAddr 35 (.tmp 4) 3, 0, none, true⟩,
  ⟨some (129, false), .load 3 (.tmp 128), 3, none, true⟩,
  ⟨some (130, false), .call { callee := .value (.func 30), args := #[.tmp 127, .tmp 129, .const (.int .i64 2)], argTypes := #[36, 3, 3] }, 0, none, false⟩] τ ρ h := _root_.id rfl
def code_one_r33 : List Sop := [
  ⟨some (131, false), .move (.tmp 0), 36, none, true⟩,
  ⟨some (132, false), .fieldAddr 35 (.tmp 4) 4, 0, none, true⟩,
  ⟨some (133, false), .load 3 (.tmp 132), 3, none, true⟩,
  ⟨some (134, false), .call { callee := .value (.func 32), args := #[.tmp 131, .tmp 133, .const (.int .i64 1), .const (.int .i64 1), .const (.int .i64 255)], argTypes := #[36, 3, 3, 3, 3] }, 0, none, false⟩]
theorem code_one_r33_go {K : Env → Heap → Prop} {τ ρ : Env} {h : Heap} : vcOps Try.prog K code_one_r33 τ ρ h = vcOps Try.prog K [
  ⟨some (131, false), .move (.tmp 0), 36, none, true⟩,
  ⟨some (132, false), .fieldAddr 35 (.tmp 4) 4, 0, none, true⟩,
  ⟨some (133, false), .load 3 (.tmp 132), 3, none, true⟩,
  ⟨some (134, false), .call { callee := .value (.func 32), args := #[.tmp 131, .tmp 133, .const (.int .i64 1), .const (.int .i64 1), .const (.int .i64 255)], argTypes := #[36, 3, 3, 3, 3] }, 0, none, false⟩] τ ρ h := _root_.id rfl
def code_one_r34 : List Sop := [
  ⟨some (135, false), .move (.tmp 0), 36, none, true⟩,
  ⟨some (136, false), .move (.tmp 0), 36, none, true⟩,
  ⟨some (137, false), .nilCheck (.tmp 136), 0, none, true⟩,
  ⟨some (138, false), .fieldAddr 39 (.tmp 137) 0, 0, none, true⟩,
  ⟨some (139, false), .load 37 (.tmp 138), 37, none, true⟩,
  ⟨some (140, false), .buildSlice 37 1 #[(0, .const (.int .u8 0))], 37, none, false⟩,
  ⟨some (141, false), .call { callee := .builtin .append, args := #[.tmp 139, .tmp 140], argTypes := #[37, 37] }, 37, none, false⟩,
  ⟨some (142, false), .nilCheck (.tmp 135), 0, none, true⟩,
  ⟨some (143, false), .fieldAddr 39 (.tmp 142) 0, 0, none, true⟩,
  ⟨none, .store 37 (.tmp 143) (.tmp 141), 0, none, false⟩]
theorem code_one_r34_go {K : Env → Heap → Prop} {τ ρ : Env} {h : Heap} : vcOps Try.prog K code_one_r34 τ ρ h = vcOps Try.prog K [
  ⟨some (135, false), .move (.tmp 0), 36, none, true⟩,
  ⟨some (136, false), .move (.tmp 0), 36, none, true⟩,
  ⟨some (137, false), .nilCheck (.tmp 136), 0, none, true⟩,
  ⟨some (138, false), .fieldAddr 39 (.tmp 137) 0, 0, none, true⟩,
  ⟨some (139, false), .load 37 (.tmp 138), 37, none, true⟩,
  ⟨some (140, false), .buildSlice 37 1 #[(0, .const (.int .u8 0))], 37, none, false⟩,
  ⟨some (141, false), .call { callee := .builtin .append, args := #[.tmp 139, .tmp 140], argTypes := #[37, 37] }, 37, none, false⟩,
  ⟨some (142, false), .nilCheck (.tmp 135), 0, none, true⟩,
  ⟨some (143, false), .fieldAddr 39 (.tmp 142) 0, 0, none, true⟩,
  ⟨none, .store 37 (.tmp 143) (.tmp 141), 0, none, false⟩] τ ρ h := _root_.id rfl
def code_one_r35 : List Sop := [
  ⟨some (145, false), .binOp .eql 3 (.tmp 46) (.const (.int .i64 13)) 3, 4, none, true⟩,
  ⟨some (144, true), .assign (.tmp 145), 4, none, true⟩]
theorem code_one_r35_go {K : Env → Heap → Prop} {τ ρ : Env} {h : Heap} : vcOps Try.prog K code_one_r35 τ ρ h = vcOps Try.prog K [
  ⟨some (145, false), .binOp .eql 3 (.tmp 46) (.const (.int .i64 13)) 3, 4, none, true⟩,
  ⟨some (144, true), .assign (.tmp 145), 4, none, true⟩] τ ρ h := _root_.id rfl
def code_one_r36 : List Sop := [
  ⟨some (146, false), .move (.tmp 0), 36, none, true⟩,
  ⟨some (147, false), .fieldAddr 35 (.tmp 4) 3, 0, none, true⟩,
  ⟨some (148, false), .load 3 (.tmp 147), 3, none, true⟩,
  ⟨some (149, false), .call { callee := .value (.func 32), args := #[.tmp 146, .tmp 148, .const (.int .i64 1), .const (.int .i64 4), .const (.int .i64 11)], argTypes := #[36, 3, 3, 3, 3] }, 0, none, false⟩]
theorem code_one_r36_go {K : Env → Heap → Prop} {τ ρ : Env} {h : Heap} : vcOps Try.prog K code_one_r36 τ ρ h = vcOps Try.prog K [
  ⟨some (146, false), .move (.tmp 0), 36, none, true⟩,
  ⟨some (147, false), .fieldAddr 35 (.tmp 4) 3, 0, none, true⟩,
  ⟨some (148, false), .load 3 (.tmp 147), 3, none, true⟩,
  ⟨some (149, false), .call { callee := .value (.func 32), args := #[.tmp 146, .tmp 148, .const (.int .i64 1), .const (.int .i64 4), .const (.int .i64 11)], argTypes := #[36, 3, 3, 3, 3] }, 0, none, false⟩] τ ρ h := _root_.id rfl
def code_one_r37 : List Sop := [
  ⟨some (151, false), .binOp .eql 3 (.tmp 46) (.const (.int .i64 14)) 3, 4, none, true⟩,
  ⟨some (150, true), .assign (.tmp 151), 4, none, true⟩]
theorem code_one_r37_go {K : Env → Heap → Prop} {τ ρ : Env} {h : Heap} : vcOps Try.prog K code_one_r37 τ ρ h = vcOps Try.prog K [
  ⟨some (151, false), .binOp .eql 3 (.tmp 46) (.const (.int .i64 14)) 3, 4, none, true⟩,
  ⟨some (150, true), .assign (.tmp 151), 4, none, true⟩] τ ρ h := _root_.id rfl
def code_one_r38 : List Sop := [
  ⟨some (152, false), .move (.tmp 0), 36, none, true⟩,
  ⟨some (153, false), .fieldAddr 35 (.tmp 4) 3, 0, none, true⟩,
  ⟨some (154, false), .load 3 (.tmp 153), 3, none, true⟩,
  ⟨some (155, false), .call { callee := .value (.func 30), args := #[.tmp 152, .tmp 154, .const (.int .i64 2)], argTypes := #[36, 3, 3] }, 0, none, false⟩]
theorem code_one_r38_go {K : Env → Heap → Prop} {τ ρ : Env} {h : Heap} : vcOps Try.prog K code_one_r38 τ ρ h = vcOps Try.prog K [
  ⟨some (152, false), .move (.tmp 0), 36, none, true⟩,
  ⟨some (153, false), .fieldAddr 35 (.tmp 4) 3, 0, none, true⟩,
  ⟨some (154, false), .load 3 (.tmp 153), 3, none, true⟩,
  ⟨some (155, false), .call { callee := .value (.func 30), args := #[.tmp 152, .tmp 154, .const (.int .i64 2)], argTypes := #[36, 3, 3] }, 0, none, false⟩] τ ρ h := _root_.id rfl
def code_one_r39 : List Sop := [
  ⟨some (156, false), .move (.tmp 0), 36, none, true⟩,
  ⟨some (157, false), .fieldAddr 35 (.tmp 4) 4, 0, none, true⟩,
  ⟨some (158, false), .load 3 (.tmp 157), 3, none, true⟩,
  ⟨some (159, false), .call { callee := .value (.func 32), args := #[.tmp 156, .tmp 158, .const (.int .i64 1), .const (.int .i64 1), .const (.int .i64 255)], argTypes := #[36, 3, 3, 3, 3] }, 0, none, false⟩]
theorem code_one_r39_go {K : Env → Heap → Prop} {τ ρ : Env} {h : Heap} : vcOps Try.prog K code_one_r39 τ ρ h = vcOps Try.prog K [
  ⟨some (156, false), .move (.tmp 0), 36, none, true⟩,
  ⟨some (157, false), .fieldAddr 35 (.tmp 4) 4, 0, none, true⟩,
  ⟨some (158, false), .load 3 (.tmp 157), 3, none, true⟩,
  ⟨some (159, false), .call { callee := .value (.func 32), args := #[.tmp 156, .tmp 158, .const (.int .i64 1), .const (.int .i64 1), .const (.int .i64 255)], argTypes := #[36, 3, 3, 3, 3] }, 0, none, false⟩] τ ρ h := _root_.id rfl
def code_one : Cd := .seq (.region code_one_r0) (.seq (.region code_one_r1) (.seq (.seq (.region code_one_r2) (.cond (.tmp 8) (.seq (.region code_one_r3) (.region code_one_r4)) (.skip))) (.seq (.draw code_one_r5) (.seq (.seq (.region code_one_r6) (.cond (.tmp 42) (.region code_one_r7) (.skip))) (.seq (.region code_one_r8) (.block 0 (.seq (.region code_one_r9) (.cond (.tmp 47) (.region code_one_r10) (.seq (.region code_one_r11) (.cond (.tmp 53) (.region code_one_r12) (.seq (.region code_one_r13) (.cond (.tmp 59) (.region code_one_r14) (.seq (.region code_one_r15) (.cond (.tmp 65) (.region code_one_r16) (.seq (.region code_one_r17) (.cond (.tmp 71) (.region code_one_r18) (.seq (.region code_one_r19) (.cond (.tmp 78) (.seq (.region code_one_r20) (.region code_one_r21)) (.seq (.region code_one_r22) (.cond (.tmp 90) (.seq (.region code_one_r23) (.cond (.tmp 94) (.draw code_one_r24) (.skip))) (.seq (.region code_one_r25) (.cond (.tmp 104) (.seq (.region code_one_r26) (.cond (.tmp 108) (.draw code_one_r27) (.skip))) (.seq (.seq (.region code_one_r28) (.cond (.tmp 118) (.skip) (.region code_one_r29))) (.cond (.tmp 118) (.region code_one_r30) (.seq (.region code_one_r31) (.cond (.tmp 125) (.seq (.region code_one_r32) (.seq (.region code_one_r33) (.region code_one_r34))) (.seq (.region code_one_r35) (.cond (.tmp 144) (.region code_one_r36) (.seq (.region code_one_r37) (.cond (.tmp 150) (.seq (.region code_one_r38) (.region code_one_r39)) (.skip)))))))))))))))))))))))))))))))
theorem code_one_go {Q : Ex → Env → Heap → Prop} {ρ : Env} {h : Heap} : Cd.vc Try.prog code_one Q ρ h = Cd.vc Try.prog (.seq (.region code_one_r0) (.seq (.region code_one_r1) (.seq (.seq (.region code_one_r2) (.cond (.tmp 8) (.seq (.region code_one_r3) (.region code_one_r4)) (.skip))) (.seq (.draw code_one_r5) (.seq (.seq (.region code_one_r6) (.cond (.tmp 42) (.region code_one_r7) (.skip))) (.seq (.region code_one_r8) (.block 0 (.seq (.region code_one_r9) (.cond (.tmp 47) (.region code_one_r10) (.seq (.region code_one_r11) (.cond (.tmp 53) (.region code_one_r12) (.seq (.region code_one_r13) (.cond (.tmp 59) (.region code_one_r14) (.seq (.region code_one_r15) (.cond (.tmp 65) (.region code_one_r16) (.seq (.region code_one_r17) (.cond (.tmp 71) (.region code_one_r18) (.seq (.region code_one_r19) (.cond (.tmp 78) (.seq (.region code_one_r20) (.region code_one_r21)) (.seq (.region code_one_r22) (.cond (.tmp 90) (.seq (.region code_one_r23) (.cond (.tmp 94) (.draw code_one_r24) (.skip))) (.seq (.region code_one_r25) (.cond (.tmp 104) (.seq (.region code_one_r26) (.cond (.tmp 108) (.draw code_one_r27) (.skip))) (.seq (.seq (.region code_one_r28) (.cond (.tmp 118) (.skip) (.region code_one_r29))) (.cond (.tmp 118) (.region code_one_r30) (.seq (.region code_one_r31) (.cond (.tmp 125) (.seq (.region code_one_r32) (.seq (.region code_one_r33) (.region code_one_r34))) (.seq (.region code_one_r35) (.cond (.tmp 144) (.region code_one_r36) (.seq (.region code_one_r37) (.cond (.tmp 150) (.seq (.region code_one_r38) (.region code_one_r39)) (.skip)))))))))))))))))))))))))))))))) Q ρ h := _root_.id rfl
theorem code_one_calls {args : List Value} {h : Heap} {R : Value → Heap → Prop} (hl : args.length = 3) (hv : Cd.vc Try.prog code_one (retQ Try.prog [] R) (initEnv args [0, 1, 2, 4, 6, 8, 42, 46, 47, 53, 59, 65, 71, 78, 90, 94, 104, 108, 118, 125, 144, 150]) h) : HCalls Try.prog 15 args.toArray h R :=
  hcalls_of_vc (by kernel_rfl) Try.func15 (cd := code_one) (L := [0, 1, 2, 4, 6, 8, 42, 46, 47, 53, 59, 65, 71, 78, 90, 94, 104, 108, 118, 125, 144, 150]) (by kernel_rfl) (by kernel_rfl) ⟨by rw [hl, Try.ntmps15]; decide, by rw [Try.ntmps15]; decide⟩ hv
def code_one_gos := And.intro @code_one_go (And.intro @code_one_r0_go (And.intro @code_one_r1_go (And.intro @code_one_r2_go (And.intro @code_one_r3_go (And.intro @code_one_r4_go (And.intro @code_one_r5_go (And.intro @code_one_r6_go (And.intro @code_one_r7_go (And.intro @code_one_r8_go (And.intro @code_one_r9_go (And.intro @code_one_r10_go (And.intro @code_one_r11_go (And.intro @code_one_r12_go (And.intro @code_one_r13_go (And.intro @code_one_r14_go (And.intro @code_one_r15_go (And.intro @code_one_r16_go (And.intro @code_one_r17_go (And.intro @code_one_r18_go (And.intro @code_one_r19_go (And.intro @code_one_r20_go (And.intro @code_one_r21_go (And.intro @code_one_r22_go (And.intro @code_one_r23_go (And.intro @code_one_r24_go (And.intro @code_one_r25_go (And.intro @code_one_r26_go (And.intro @code_one_r27_go (And.intro @code_one_r28_go (And.intro @code_one_r29_go (And.intro @code_one_r30_go (And.intro @code_one_r31_go (And.intro @code_one_r32_go (And.intro @code_one_r33_go (And.intro @code_one_r34_go (And.intro @code_one_r35_go (And.intro @code_one_r36_go (And.intro @code_one_r37_go (And.intro @code_one_r38_go (@code_one_r39_go))))))))))))))))))))))))))))))))))))))))

/-! jvmcore/code.Encode: function 8: slots [0, 2, 3, 4, 5, 6, 7, 8, 9, 10, 11, 13, 15, 19, 20, 21, 22, 33, 59, 69, 76, 81, 82, 83, 84, 85, 90, 91, 92, 93, 103] -/
def code_Encode_r0 : List Sop := [
  ⟨some (2, true), .assign (.const (.string { data := #[] })), 9, none, true⟩,
  ⟨some (3, true), .assign (.const (.int .i64 0)), 25, none, true⟩,
  ⟨some (4, true), .assign (.const (.int .i64 0)), 3, none, true⟩]
theorem code_Encode_r0_go {K : Env → Heap → Prop} {τ ρ : Env} {h : Heap} : vcOps Try.prog K code_Encode_r0 τ ρ h = vcOps Try.prog K [
  ⟨some (2, true), .assign (.const (.string { data := #[] })), 9, none, true⟩,
  ⟨some (3, true), .assign (.const (.int .i64 0)), 25, none, true⟩,
  ⟨some (4, true), .assign (.const (.int .i64 0)), 3, none, true⟩] τ ρ h := _root_.id rfl
def code_Encode_r1 : List Sop := [
  ⟨some (16, false), .build 39 #[(1, .const (.bool true))], 39, none, true⟩,
  ⟨some (17, false), .box 39 (.tmp 16), 36, none, false⟩,
  ⟨some (5, true), .assign (.tmp 17), 36, none, true⟩]
theorem code_Encode_r1_go {K : Env → Heap → Prop} {τ ρ : Env} {h : Heap} : vcOps Try.prog K code_Encode_r1 τ ρ h = vcOps Try.prog K [
  ⟨some (16, false), .build 39 #[(1, .const (.bool true))], 39, none, true⟩,
  ⟨some (17, false), .box 39 (.tmp 16), 36, none, false⟩,
  ⟨some (5, true), .assign (.tmp 17), 36, none, true⟩] τ ρ h := _root_.id rfl
def code_Encode_r2 : List Sop := [
  ⟨some (18, false), .makeMap 40 none, 40, none, false⟩,
  ⟨some (6, true), .assign (.tmp 18), 40, none, true⟩]
theorem code_Encode_r2_go {K : Env → Heap → Prop} {τ ρ : Env} {h : Heap} : vcOps Try.prog K code_Encode_r2 τ ρ h = vcOps Try.prog K [
  ⟨some (18, false), .makeMap 40 none, 40, none, false⟩,
  ⟨some (6, true), .assign (.tmp 18), 40, none, true⟩] τ ρ h := _root_.id rfl
def code_Encode_r3 : List Sop := [
  ⟨some (19, true), .move (.tmp 0), 22, none, true⟩,
  ⟨some (20, true), .call { callee := .builtin .len, args := #[.tmp 19], argTypes := #[22] }, 3, none, true⟩,
  ⟨some (21, true), .move (.const (.int .i64 0)), 3, none, true⟩]
theorem code_Encode_r3_go {K : Env → Heap → Prop} {τ ρ : Env} {h : Heap} : vcOps Try.prog K code_Encode_r3 τ ρ h = vcOps Try.prog K [
  ⟨some (19, true), .move (.tmp 0), 22, none, true⟩,
  ⟨some (20, true), .call { callee := .builtin .len, args := #[.tmp 19], argTypes := #[22] }, 3, none, true⟩,
  ⟨some (21, true), .move (.const (.int .i64 0)), 3, none, true⟩] τ ρ h := _root_.id rfl
def code_Encode_r4 : List Sop := [
  ⟨some (22, true), .binOp .lss 3 (.tmp 21) (.tmp 20) 3, 0, none, true⟩]
theorem code_Encode_r4_go {K : Env → Heap → Prop} {τ ρ : Env} {h : Heap} : vcOps Try.prog K code_Encode_r4 τ ρ h = vcOps Try.prog K [
  ⟨some (22, true), .binOp .lss 3 (.tmp 21) (.tmp 20) 3, 0, none, true⟩] τ ρ h := _root_.id rfl
def code_Encode_r5 : List Sop := [
  ⟨some (23, false), .move (.tmp 21), 3, none, true⟩,
  ⟨some (24, false), .indexAddr 22 (.tmp 19) (.tmp 21), 0, none, true⟩,
  ⟨some (25, false), .load 35 (.tmp 24), 35, none, true⟩,
  ⟨some (8, true), .alloc 35, 0, none, false⟩,
  ⟨some (7, true), .assign (.tmp 23), 3, none, true⟩,
  ⟨none, .store 35 (.tmp 8) (.tmp 25), 0, none, false⟩]
theorem code_Encode_r5_go {K : Env → Heap → Prop} {τ ρ : Env} {h : Heap} : vcOps Try.prog K code_Encode_r5 τ ρ h = vcOps Try.prog K [
  ⟨some (23, false), .move (.tmp 21), 3, none, true⟩,
  ⟨some (24, false), .indexAddr 22 (.tmp 19) (.tmp 21), 0, none, true⟩,
  ⟨some (25, false), .load 35 (.tmp 24), 35, none, true⟩,
  ⟨some (8, true), .alloc 35, 0, none, false⟩,
  ⟨some (7, true), .assign (.tmp 23), 3, none, true⟩,
  ⟨none, .store 35 (.tmp 8) (.tmp 25), 0, none, false⟩] τ ρ h := _root_.id rfl
def code_Encode_r6 : List (Sop × List Sop) := [
  (⟨some (26, false), .fieldAddr 35 (.tmp 8) 0, 0, none, true⟩, []),
  (⟨some (27, false), .load 3 (.tmp 26), 3, none, true⟩, []),
  (⟨some (28, false), .move (.tmp 5), 36, none, true⟩, []),
  (⟨some (29, false), .nilCheck (.tmp 28), 0, none, true⟩, []),
  (⟨some (30, false), .fieldAddr 39 (.tmp 29) 0, 0, none, true⟩, []),
  (⟨some (31, false), .load 37 (.tmp 30), 37, none, true⟩, []),
  (⟨some (32, false), .call { callee := .builtin .len, args := #[.tmp 31], argTypes := #[37] }, 3, none, true⟩, []),
  (⟨some (33, true), .binOp .neq 3 (.tmp 27) (.tmp 32) 3, 4, none, true⟩, [])]
theorem code_Encode_r6_go {K : Env → Heap → Prop} {τ ρ : Env} {h : Heap} : vcDraw Try.prog K code_Encode_r6 τ ρ h = vcDraw Try.prog K [
  (⟨some (26, false), .fieldAddr 35 (.tmp 8) 0, 0, none, true⟩, []),
  (⟨some (27, false), .load 3 (.tmp 26), 3, none, true⟩, []),
  (⟨some (28, false), .move (.tmp 5), 36, none, true⟩, []),
  (⟨some (29, false), .nilCheck (.tmp 28), 0, none, true⟩, []),
  (⟨some (30, false), .fieldAddr 39 (.tmp 29) 0, 0, none, true⟩, []),
  (⟨some (31, false), .load 37 (.tmp 30), 37, none, true⟩, []),
  (⟨some (32, false), .call { callee := .builtin .len, args := #[.tmp 31], argTypes := #[37] }, 3, none, true⟩, []),
  (⟨some (33, true), .binOp .neq 3 (.tmp 27) (.tmp 32) 3, 4, none, true⟩, [])] τ ρ h := _root_.id rfl
def code_Encode_r7 : List Sop := [
  ⟨some (34, false), .move (.tmp 7), 3, none, true⟩,
  ⟨some (2, true), .assign (.const (.string { data := #[] })), 9, none, true⟩,
  ⟨some (3, true), .assign (.const (.int .i64 16)), 25, none, true⟩,
  ⟨some (4, true), .assign (.tmp 34), 3, none, true⟩]
theorem code_Encode_r7_go {K : Env → Heap → Prop} {τ ρ : Env} {h : Heap} : vcOps Try.prog K code_Encode_r7 τ ρ h = vcOps Try.prog K [
  ⟨some (34, false), .move (.tmp 7), 3, none, true⟩,
  ⟨some (2, true), .assign (.const (.string { data := #[] })), 9, none, true⟩,
  ⟨some (3, true), .assign (.const (.int .i64 16)), 25, none, true⟩,
  ⟨some (4, true), .assign (.tmp 34), 3, none, true⟩] τ ρ h := _root_.id rfl
def code_Encode_r8 : List Sop := [
  ⟨some (35, false), .move (.tmp 6), 40, none, true⟩,
  ⟨some (36, false), .fieldAddr 35 (.tmp 8) 0, 0, none, true⟩,
  ⟨some (37, false), .load 3 (.tmp 36), 3, none, true⟩,
  ⟨some (38, false), .move (.tmp 7), 3, none, true⟩,
  ⟨none, .mapUpdate 40 (.tmp 35) (.tmp 37) (.tmp 38), 0, none, false⟩]
theorem code_Encode_r8_go {K : Env → Heap → Prop} {τ ρ : Env} {h : Heap} : vcOps Try.prog K code_Encode_r8 τ ρ h = vcOps Try.prog K [
  ⟨some (35, false), .move (.tmp 6), 40, none, true⟩,
  ⟨some (36, false), .fieldAddr 35 (.tmp 8) 0, 0, none, true⟩,
  ⟨some (37, false), .load 3 (.tmp 36), 3, none, true⟩,
  ⟨some (38, false), .move (.tmp 7), 3, none, true⟩,
  ⟨none, .mapUpdate 40 (.tmp 35) (.tmp 37) (.tmp 38), 0, none, false⟩] τ ρ h := _root_.id rfl
def code_Encode_r9 : List Sop := [
  ⟨some (39, false), .fieldAddr 35 (.tmp 8) 1, 0, none, true⟩,
  ⟨some (40, false), .load 5 (.tmp 39), 5, none, true⟩,
  ⟨some (41, false), .call { callee := .value (.func 14), args := #[.tmp 40], argTypes := #[5] }, 3, none, false⟩,
  ⟨some (9, true), .assign (.tmp 41), 3, none, true⟩]
theorem code_Encode_r9_go {K : Env → Heap → Prop} {τ ρ : Env} {h : Heap} : vcOps Try.prog K code_Encode_r9 τ ρ h = vcOps Try.prog K [
  ⟨some (39, false), .fieldAddr 35 (.tmp 8) 1, 0, none, true⟩,
  ⟨some (40, false), .load 5 (.tmp 39), 5, none, true⟩,
  ⟨some (41, false), .call { callee := .value (.func 14), args := #[.tmp 40], argTypes := #[5] }, 3, none, false⟩,
  ⟨some (9, true), .assign (.tmp 41), 3, none, true⟩] τ ρ h := _root_.id rfl
def code_Encode_r10 : List Sop := [
  ⟨some (42, false), .move (.tmp 9), 3, none, true⟩,
  ⟨some (43, false), .binOp .eql 3 (.tmp 42) (.const (.int .i64 1)) 3, 4, none, true⟩,
  ⟨some (44, false), .move (.tmp 43), 4, none, true⟩,
  ⟨some (45, false), .move (.tmp 9), 3, some (44, false), true⟩,
  ⟨some (46, false), .binOp .eql 3 (.tmp 45) (.const (.int .i64 15)) 3, 4, some (44, false), true⟩,
  ⟨some (47, false), .pick (.tmp 44) (.const (.bool true)) (.tmp 46), 4, none, true⟩,
  ⟨some (48, false), .move (.tmp 47), 4, none, true⟩,
  ⟨some (49, false), .fieldAddr 35 (.tmp 8) 2, 0, some (48, false), true⟩,
  ⟨some (50, false), .load 4 (.tmp 49), 4, some (48, false), true⟩,
  ⟨some (51, false), .move (.tmp 50), 4, some (48, false), true⟩,
  ⟨some (52, false), .move (.tmp 9), 3, some (51, true), true⟩,
  ⟨some (53, false), .binOp .neq 3 (.tmp 52) (.const (.int .i64 6)) 3, 4, some (51, true), true⟩,
  ⟨some (54, false), .pick (.tmp 51) (.tmp 53) (.const (.bool false)), 4, some (48, false), true⟩,
  ⟨some (55, false), .move (.tmp 54), 4, some (48, false), true⟩,
  ⟨some (56, false), .move (.tmp 9), 3, some (55, true), true⟩,
  ⟨some (57, false), .binOp .neq 3 (.tmp 56) (.const (.int .i64 7)) 3, 4, some (55, true), true⟩,
  ⟨some (58, false), .pick (.tmp 55) (.tmp 57) (.const (.bool false)), 4, some (48, false), true⟩,
  ⟨some (59, true), .pick (.tmp 48) (.const (.bool true)) (.tmp 58), 4, none, true⟩]
theorem code_Encode_r10_go {K : Env → Heap → Prop} {τ ρ : Env} {h : Heap} : vcOps Try.prog K code_Encode_r10 τ ρ h = vcOps Try.prog K [
  ⟨some (42, false), .move (.tmp 9), 3, none, true⟩,
  ⟨some (43, false), .binOp .eql 3 (.tmp 42) (.const (.int .i64 1)) 3, 4, none, true⟩,
  ⟨some (44, false), .move (.tmp 43), 4, none, true⟩,
  ⟨some (45, false), .move (.tmp 9), 3, some (44, false), true⟩,
  ⟨some (46, false), .binOp .eql 3 (.tmp 45) (.const (.int .i64 15)) 3, 4, some (44, false), true⟩,
  ⟨some (47, false), .pick (.tmp 44) (.const (.bool true)) (.tmp 46), 4, none, true⟩,
  ⟨some (48, false), .move (.tmp 47), 4, none, true⟩,
  ⟨some (49, false), .fieldAddr 35 (.tmp 8) 2, 0, some (48, false), true⟩,
  ⟨some (50, false), .load 4 (.tmp 49), 4, some (48, false), true⟩,
  ⟨some (51, false), .move (.tmp 50), 4, some (48, false), true⟩,
  ⟨some (52, false), .move (.tmp 9), 3, some (51, true), true⟩,
  ⟨some (53, false), .binOp .neq 3 (.tmp 52) (.const (.int .i64 6)) 3, 4, some (51, true), true⟩,
  ⟨some (54, false), .pick (.tmp 51) (.tmp 53) (.const (.bool false)), 4, some (48, false), true⟩,
  ⟨some (55, false), .move (.tmp 54), 4, some (48, false), true⟩,
  ⟨some (56, false), .move (.tmp 9), 3, some (55, true), true⟩,
  ⟨some (57, false), .binOp .neq 3 (.tmp 56) (.const (.int .i64 7)) 3, 4, some (55, true), true⟩,
  ⟨some (58, false), .pick (.tmp 55) (.tmp 57) (.const (.bool false)), 4, some (48, false), true⟩,
  ⟨some (59, true), .pick (.tmp 48) (.const (.bool true)) (.tmp 58), 4, none, true⟩] τ ρ h := _root_.id rfl
def code_Encode_r11 : List Sop := [
  ⟨some (60, false), .move (.tmp 7), 3, none, true⟩,
  ⟨some (2, true), .assign (.const (.string { data := #[] })), 9, none, true⟩,
  ⟨some (3, true), .assign (.const (.int .i64 14)), 25, none, true⟩,
  ⟨some (4, true), .assign (.tmp 60), 3, none, true⟩]
theorem code_Encode_r11_go {K : Env → Heap → Prop} {τ ρ : Env} {h : Heap} : vcOps Try.prog K code_Encode_r11 τ ρ h = vcOps Try.prog K [
  ⟨some (60, false), .move (.tmp 7), 3, none, true⟩,
  ⟨some (2, true), .assign (.const (.string { data := #[] })), 9, none, true⟩,
  ⟨some (3, true), .assign (.const (.int .i64 14)), 25, none, true⟩,
  ⟨some (4, true), .assign (.tmp 60), 3, none, true⟩] τ ρ h := _root_.id rfl
def code_Encode_r12 : List Sop := [
  ⟨some (61, false), .move (.tmp 5), 36, none, true⟩,
  ⟨some (62, false), .load 35 (.tmp 8), 35, none, true⟩,
  ⟨some (63, false), .move (.tmp 9), 3, none, true⟩,
  ⟨some (64, false), .call { callee := .value (.func 15), args := #[.tmp 61, .tmp 62, .tmp 63], argTypes := #[36, 35, 3] }, 0, none, false⟩]
theorem code_Encode_r12_go {K : Env → Heap → Prop} {τ ρ : Env} {h : Heap} : vcOps Try.prog K code_Encode_r12 τ ρ h = vcOps Try.prog K [
  ⟨some (61, false), .move (.tmp 5), 36, none, true⟩,
  ⟨some (62, false), .load 35 (.tmp 8), 35, none, true⟩,
  ⟨some (63, false), .move (.tmp 9), 3, none, true⟩,
  ⟨some (64, false), .call { callee := .value (.func 15), args := #[.tmp 61, .tmp 62, .tmp 63], argTypes := #[36, 35, 3] }, 0, none, false⟩] τ ρ h := _root_.id rfl
def code_Encode_r13 : List Sop := [
  ⟨some (65, false), .move (.tmp 5), 36, none, true⟩,
  ⟨some (66, false), .nilCheck (.tmp 65), 0, none, true⟩,
  ⟨some (67, false), .fieldAddr 39 (.tmp 66) 1, 0, none, true⟩,
  ⟨some (68, false), .load 4 (.tmp 67), 4, none, true⟩,
  ⟨some (69, true), .unOp .not 4 (.tmp 68), 4, none, true⟩]
theorem code_Encode_r13_go {K : Env → Heap → Prop} {τ ρ : Env} {h : Heap} : vcOps Try.prog K code_Encode_r13 τ ρ h = vcOps Try.prog K [
  ⟨some (65, false), .move (.tmp 5), 36, none, true⟩,
  ⟨some (66, false), .nilCheck (.tmp 65), 0, none, true⟩,
  ⟨some (67, false), .fieldAddr 39 (.tmp 66) 1, 0, none, true⟩,
  ⟨some (68, false), .load 4 (.tmp 67), 4, none, true⟩,
  ⟨some (69, true), .unOp .not 4 (.tmp 68), 4, none, true⟩] τ ρ h := _root_.id rfl
def code_Encode_r14 : List Sop := [
  ⟨some (70, false), .move (.tmp 7), 3, none, true⟩,
  ⟨some (2, true), .assign (.const (.string { data := #[] })), 9, none, true⟩,
  ⟨some (3, true), .assign (.const (.int .i64 15)), 25, none, true⟩,
  ⟨some (4, true), .assign (.tmp 70), 3, none, true⟩]
theorem code_Encode_r14_go {K : Env → Heap → Prop} {τ ρ : Env} {h : Heap} : vcOps Try.prog K code_Encode_r14 τ ρ h = vcOps Try.prog K [
  ⟨some (70, false), .move (.tmp 7), 3, none, true⟩,
  ⟨some (2, true), .assign (.const (.string { data := #[] })), 9, none, true⟩,
  ⟨some (3, true), .assign (.const (.int .i64 15)), 25, none, true⟩,
  ⟨some (4, true), .assign (.tmp 70), 3, none, true⟩] τ ρ h := _root_.id rfl
def code_Encode_r15 : List Sop := [
  ⟨some (71, false), .move (.tmp 5), 36, none, true⟩,
  ⟨some (72, false), .nilCheck (.tmp 71), 0, none, true⟩,
  ⟨some (73, false), .fieldAddr 39 (.tmp 72) 0, 0, none, true⟩,
  ⟨some (74, false), .load 37 (.tmp 73), 37, none, true⟩,
  ⟨some (75, false), .call { callee := .builtin .len, args := #[.tmp 74], argTypes := #[37] }, 3, none, true⟩,
  ⟨some (76, true), .binOp .gtr 3 (.tmp 75) (.const (.int .i64 65535)) 3, 4, none, true⟩]
theorem code_Encode_r15_go {K : Env → Heap → Prop} {τ ρ : Env} {h : Heap} : vcOps Try.prog K code_Encode_r15 τ ρ h = vcOps Try.prog K [
  ⟨some (71, false), .move (.tmp 5), 36, none, true⟩,
  ⟨some (72, false), .nilCheck (.tmp 71), 0, none, true⟩,
  ⟨some (73, false), .fieldAddr 39 (.tmp 72) 0, 0, none, true⟩,
  ⟨some (74, false), .load 37 (.tmp 73), 37, none, true⟩,
  ⟨some (75, false), .call { callee := .builtin .len, args := #[.tmp 74], argTypes := #[37] }, 3, none, true⟩,
  ⟨some (76, true), .binOp .gtr 3 (.tmp 75) (.const (.int .i64 65535)) 3, 4, none, true⟩] τ ρ h := _root_.id rfl
def code_Encode_r16 : List Sop := [
  ⟨some (77, false), .move (.tmp 7), 3, none, true⟩,
  ⟨some (2, true), .assign (.const (.string { data := #[] })), 9, none, true⟩,
  ⟨some (3, true), .assign (.const (.int .i64 12)), 25, none, true⟩,
  ⟨some (4, true), .assign (.tmp 77), 3, none, true⟩]
theorem code_Encode_r16_go {K : Env → Heap → Prop} {τ ρ : Env} {h : Heap} : vcOps Try.prog K code_Encode_r16 τ ρ h = vcOps Try.prog K [
  ⟨some (77, false), .move (.tmp 7), 3, none, true⟩,
  ⟨some (2, true), .assign (.const (.string { data := #[] })), 9, none, true⟩,
  ⟨some (3, true), .assign (.const (.int .i64 12)), 25, none, true⟩,
  ⟨some (4, true), .assign (.tmp 77), 3, none, true⟩] τ ρ h := _root_.id rfl
def code_Encode_r17 : List Sop := [
  ⟨some (78, false), .binOp .add 3 (.tmp 21) (.const (.int .i64 1)) 3, 3, none, true⟩,
  ⟨some (21, true), .move (.tmp 78), 3, none, true⟩]
theorem code_Encode_r17_go {K : Env → Heap → Prop} {τ ρ : Env} {h : Heap} : vcOps Try.prog K code_Encode_r17 τ ρ h = vcOps Try.prog K [
  ⟨some (78, false), .binOp .add 3 (.tmp 21) (.const (.int .i64 1)) 3, 3, none, true⟩,
  ⟨some (21, true), .move (.tmp 78), 3, none, true⟩] τ ρ h := _root_.id rfl
def code_Encode_r18 : List Sop := [
  ⟨some (79, false), .move (.tmp 0), 22, none, true⟩,
  ⟨some (80, false), .call { callee := .builtin .len, args := #[.tmp 79], argTypes := #[22] }, 3, none, true⟩,
  ⟨some (81, true), .binOp .eql 3 (.tmp 80) (.const (.int .i64 0)) 3, 4, none, true⟩]
theorem code_Encode_r18_go {K : Env → Heap → Prop} {τ ρ : Env} {h : Heap} : vcOps Try.prog K code_Encode_r18 τ ρ h = vcOps Try.prog K [
  ⟨some (79, false), .move (.tmp 0), 22, none, true⟩,
  ⟨some (80, false), .call { callee := .builtin .len, args := #[.tmp 79], argTypes := #[22] }, 3, none, true⟩,
  ⟨some (81, true), .binOp .eql 3 (.tmp 80) (.const (.int .i64 0)) 3, 4, none, true⟩] τ ρ h := _root_.id rfl
def code_Encode_r19 : List Sop := [
  ⟨some (2, true), .assign (.const (.string { data := #[] })), 9, none, true⟩,
  ⟨some (3, true), .assign (.const (.int .i64 12)), 25, none, true⟩,
  ⟨some (4, true), .assign (.const (.int .i64 0)), 3, none, true⟩]
theorem code_Encode_r19_go {K : Env → Heap → Prop} {τ ρ : Env} {h : Heap} : vcOps Try.prog K code_Encode_r19 τ ρ h = vcOps Try.prog K [
  ⟨some (2, true), .assign (.const (.string { data := #[] })), 9, none, true⟩,
  ⟨some (3, true), .assign (.const (.int .i64 12)), 25, none, true⟩,
  ⟨some (4, true), .assign (.const (.int .i64 0)), 3, none, true⟩] τ ρ h := _root_.id rfl
def code_Encode_r20 : List Sop := [
  ⟨some (82, true), .move (.tmp 0), 22, none, true⟩,
  ⟨some (83, true), .call { callee := .builtin .len, args := #[.tmp 82], argTypes := #[22] }, 3, none, true⟩,
  ⟨some (84, true), .move (.const (.int .i64 0)), 3, none, true⟩]
theorem code_Encode_r20_go {K : Env → Heap → Prop} {τ ρ : Env} {h : Heap} : vcOps Try.prog K code_Encode_r20 τ ρ h = vcOps Try.prog K [
  ⟨some (82, true), .move (.tmp 0), 22, none, true⟩,
  ⟨some (83, true), .call { callee := .builtin .len, args := #[.tmp 82], argTypes := #[22] }, 3, none, true⟩,
  ⟨some (84, true), .move (.const (.int .i64 0)), 3, none, true⟩] τ ρ h := _root_.id rfl
def code_Encode_r21 : List Sop := [
  ⟨some (85, true), .binOp .lss 3 (.tmp 84) (.tmp 83) 3, 0, none, true⟩]
theorem code_Encode_r21_go {K : Env → Heap → Prop} {τ ρ : Env} {h : Heap} : vcOps Try.prog K code_Encode_r21 τ ρ h = vcOps Try.prog K [
  ⟨some (85, true), .binOp .lss 3 (.tmp 84) (.tmp 83) 3, 0, none, true⟩] τ ρ h := _root_.id rfl
def code_Encode_r22 : List Sop := [
  ⟨some (86, false), .move (.tmp 84), 3, none, true⟩,
  ⟨some (87, false), .indexAddr 22 (.tmp 82) (.tmp 84), 0, none, true⟩,
  ⟨some (88, false), .load 35 (.tmp 87), 35, none, true⟩,
  ⟨some (11, true), .alloc 35, 0, none, false⟩,
  ⟨some (10, true), .assign (.tmp 86), 3, none, true⟩,
  ⟨none, .store 35 (.tmp 11) (.tmp 88), 0, none, false⟩]
theorem code_Encode_r22_go {K : Env → Heap → Prop} {τ ρ : Env} {h : Heap} : vcOps Try.prog K code_Encode_r22 τ ρ h = vcOps Try.prog K [
  ⟨some (86, false), .move (.tmp 84), 3, none, true⟩,
  ⟨some (87, false), .indexAddr 22 (.tmp 82) (.tmp 84), 0, none, true⟩,
  ⟨some (88, false), .load 35 (.tmp 87), 35, none, true⟩,
  ⟨some (11, true), .alloc 35, 0, none, false⟩,
  ⟨some (10, true), .assign (.tmp 86), 3, none, true⟩,
  ⟨none, .store 35 (.tmp 11) (.tmp 88), 0, none, false⟩] τ ρ h := _root_.id rfl
def code_Encode_r23 : List Sop := [
  ⟨some (89, false), .fieldAddr 35 (.tmp 11) 7, 0, none, true⟩,
  ⟨some (90, true), .load 33 (.tmp 89), 33, none, true⟩,
  ⟨some (91, true), .call { callee := .builtin .len, args := #[.tmp 90], argTypes := #[33] }, 3, none, true⟩,
  ⟨some (92, true), .move (.const (.int .i64 0)), 3, none, true⟩]
theorem code_Encode_r23_go {K : Env → Heap → Prop} {τ ρ : Env} {h : Heap} : vcOps Try.prog K code_Encode_r23 τ ρ h = vcOps Try.prog K [
  ⟨some (89, false), .fieldAddr 35 (.tmp 11) 7, 0, none, true⟩,
  ⟨some (90, true), .load 33 (.tmp 89), 33, none, true⟩,
  ⟨some (91, true), .call { callee := .builtin .len, args := #[.tmp 90], argTypes := #[33] }, 3, none, true⟩,
  ⟨some (92, true), .move (.const (.int .i64 0)), 3, none, true⟩] τ ρ h := _root_.id rfl
def code_Encode_r24 : List Sop := [
  ⟨some (93, true), .binOp .lss 3 (.tmp 92) (.tmp 91) 3, 0, none, true⟩]
theorem code_Encode_r24_go {K : Env → Heap → Prop} {τ ρ : Env} {h : Heap} : vcOps Try.prog K code_Encode_r24 τ ρ h = vcOps Try.prog K [
  ⟨some (93, true), .binOp .lss 3 (.tmp 92) (.tmp 91) 3, 0, none, true⟩] τ ρ h := _root_.id rfl
def code_Encode_r25 : List Sop := [
  ⟨some (94, false), .indexAddr 33 (.tmp 90) (.tmp 92), 0, none, true⟩,
  ⟨some (95, false), .load 3 (.tmp 94), 3, none, true⟩,
  ⟨some (13, true), .assign (.tmp 95), 3, none, true⟩]
theorem code_Encode_r25_go {K : Env → Heap → Prop} {τ ρ : Env} {h : Heap} : vcOps Try.prog K code_Encode_r25 τ ρ h = vcOps Try.prog K [
  ⟨some (94, false), .indexAddr 33 (.tmp 90) (.tmp 92), 0, none, true⟩,
  ⟨some (95, false), .load 3 (.tmp 94), 3, none, true⟩,
  ⟨some (13, true), .assign (.tmp 95), 3, none, true⟩] τ ρ h := _root_.id rfl
def code_Encode_r26 : List Sop := [
  ⟨some (97, false), .move (.tmp 6), 40, none, true⟩,
  ⟨some (98, false), .move (.tmp 13), 3, none, true⟩,
  ⟨some (99, false), .lookup 40 (.tmp 97) (.tmp 98) true, 43, none, true⟩,
  ⟨some (96, false), .move (.tmp 99), 43, none, true⟩,
  ⟨some (100, false), .extract (.tmp 96) 0, 3, none, true⟩,
  ⟨some (101, false), .extract (.tmp 96) 1, 4, none, true⟩,
  ⟨some (14, false), .assign (.tmp 100), 3, none, true⟩,
  ⟨some (15, true), .assign (.tmp 101), 4, none, true⟩]
theorem code_Encode_r26_go {K : Env → Heap → Prop} {τ ρ : Env} {h : Heap} : vcOps Try.prog K code_Encode_r26 τ ρ h = vcOps Try.prog K [
  ⟨some (97, false), .move (.tmp 6), 40, none, true⟩,
  ⟨some (98, false), .move (.tmp 13), 3, none, true⟩,
  ⟨some (99, false), .lookup 40 (.tmp 97) (.tmp 98) true, 43, none, true⟩,
  ⟨some (96, false), .move (.tmp 99), 43, none, true⟩,
  ⟨some (100, false), .extract (.tmp 96) 0, 3, none, true⟩,
  ⟨some (101, false), .extract (.tmp 96) 1, 4, none, true⟩,
  ⟨some (14, false), .assign (.tmp 100), 3, none, true⟩,
  ⟨some (15, true), .assign (.tmp 101), 4, none, true⟩] τ ρ h := _root_.id rfl
def code_Encode_r27 : List Sop := [
  ⟨some (102, false), .move (.tmp 15), 4, none, true⟩,
  ⟨some (103, true), .unOp .not 4 (.tmp 102), 4, none, true⟩]
theorem code_Encode_r27_go {K : Env → Heap → Prop} {τ ρ : Env} {h : Heap} : vcOps Try.prog K code_Encode_r27 τ ρ h = vcOps Try.prog K [
  ⟨some (102, false), .move (.tmp 15), 4, none, true⟩,
  ⟨some (103, true), .unOp .not 4 (.tmp 102), 4, none, true⟩] τ ρ h := _root_.id rfl
def code_Encode_r28 : List Sop := [
  ⟨some (104, false), .move (.tmp 10), 3, none, true⟩,
  ⟨some (2, true), .assign (.const (.string { data := #[] })), 9, none, true⟩,
  ⟨some (3, true), .assign (.const (.int .i64 16)), 25, none, true⟩,
  ⟨some (4, true), .assign (.tmp 104), 3, none, true⟩]
theorem code_Encode_r28_go {K : Env → Heap → Prop} {τ ρ : Env} {h : Heap} : vcOps Try.prog K code_Encode_r28 τ ρ h = vcOps Try.prog K [
  ⟨some (104, false), .move (.tmp 10), 3, none, true⟩,
  ⟨some (2, true), .assign (.const (.string { data := #[] })), 9, none, true⟩,
  ⟨some (3, true), .assign (.const (.int .i64 16)), 25, none, true⟩,
  ⟨some (4, true), .assign (.tmp 104), 3, none, true⟩] τ ρ h := _root_.id rfl
def code_Encode_r29 : List Sop := [
  ⟨some (105, false), .binOp .add 3 (.tmp 92) (.const (.int .i64 1)) 3, 3, none, true⟩,
  ⟨some (92, true), .move (.tmp 105), 3, none, true⟩]
theorem code_Encode_r29_go {K : Env → Heap → Prop} {τ ρ : Env} {h : Heap} : vcOps Try.prog K code_Encode_r29 τ ρ h = vcOps Try.prog K [
  ⟨some (105, false), .binOp .add 3 (.tmp 92) (.const (.int .i64 1)) 3, 3, none, true⟩,
  ⟨some (92, true), .move (.tmp 105), 3, none, true⟩] τ ρ h := _root_.id rfl
def code_Encode_r30 : List Sop := [
  ⟨some (106, false), .binOp .add 3 (.tmp 84) (.const (.int .i64 1)) 3, 3, none, true⟩,
  ⟨some (84, true), .move (.tmp 106), 3, none, true⟩]
theorem code_Encode_r30_go {K : Env → Heap → Prop} {τ ρ : Env} {h : Heap} : vcOps Try.prog K code_Encode_r30 τ ρ h = vcOps Try.prog K [
  ⟨some (106, false), .binOp .add 3 (.tmp 84) (.const (.int .i64 1)) 3, 3, none, true⟩,
  ⟨some (84, true), .move (.tmp 106), 3, none, true⟩] τ ρ h := _root_.id rfl
def code_Encode_r31 : List Sop := [
  ⟨some (107, false), .move (.tmp 5), 36, none, true⟩,
  ⟨some (108, false), .nilCheck (.tmp 107), 0, none, true⟩,
  ⟨some (109, false), .fieldAddr 39 (.tmp 108) 0, 0, none, true⟩,
  ⟨some (110, false), .load 37 (.tmp 109), 37, none, true⟩,
  ⟨some (111, false), .convert 37 9 (.tmp 110), 9, none, true⟩,
  ⟨some (2, true), .assign (.tmp 111), 9, none, true⟩,
  ⟨some (3, true), .assign (.const (.int .i64 0)), 25, none, true⟩,
  ⟨some (4, true), .assign (.const (.int .i64 0)), 3, none, true⟩]
theorem code_Encode_r31_go {K : Env → Heap → Prop} {τ ρ : Env} {h : Heap} : vcOps Try.prog K code_Encode_r31 τ ρ h = vcOps Try.prog K [
  ⟨some (107, false), .move (.tmp 5), 36, none, true⟩,
  ⟨some (108, false), .nilCheck (.tmp 107), 0, none, true⟩,
  ⟨some (109, false), .fieldAddr 39 (.tmp 108) 0, 0, none, true⟩,
  ⟨some (110, false), .load 37 (.tmp 109), 37, none, true⟩,
  ⟨some (111, false), .convert 37 9 (.tmp 110), 9, none, true⟩,
  ⟨some (2, true), .assign (.tmp 111), 9, none, true⟩,
  ⟨some (3, true), .assign (.const (.int .i64 0)), 25, none, true⟩,
  ⟨some (4, true), .assign (.const (.int .i64 0)), 3, none, true⟩] τ ρ h := _root_.id rfl
def code_Encode_l0 : Cd := .seq (.region code_Encode_r4) (.seq (.cond (.tmp 22) (.skip) (.exit 0)) (.seq (.block 1 (.seq (.region code_Encode_r5) (.seq (.seq (.draw code_Encode_r6) (.cond (.tmp 33) (.seq (.region code_Encode_r7) (.ret)) (.skip))) (.seq (.region code_Encode_r8) (.seq (.region code_Encode_r9) (.seq (.seq (.region code_Encode_r10) (.cond (.tmp 59) (.seq (.region code_Encode_r11) (.ret)) (.skip))) (.seq (.region code_Encode_r12) (.seq (.seq (.region code_Encode_r13) (.cond (.tmp 69) (.seq (.region code_Encode_r14) (.ret)) (.skip))) (.seq (.region code_Encode_r15) (.cond (.tmp 76) (.seq (.region code_Encode_r16) (.ret)) (.skip))))))))))) (.region code_Encode_r17)))
theorem code_Encode_l0_go {Q : Ex → Env → Heap → Prop} {ρ : Env} {h : Heap} : Cd.vc Try.prog code_Encode_l0 Q ρ h = Cd.vc Try.prog (.seq (.region code_Encode_r4) (.seq (.cond (.tmp 22) (.skip) (.exit 0)) (.seq (.block 1 (.seq (.region code_Encode_r5) (.seq (.seq (.draw code_Encode_r6) (.cond (.tmp 33) (.seq (.region code_Encode_r7) (.ret)) (.skip))) (.seq (.region code_Encode_r8) (.seq (.region code_Encode_r9) (.seq (.seq (.region code_Encode_r10) (.cond (.tmp 59) (.seq (.region code_Encode_r11) (.ret)) (.skip))) (.seq (.region code_Encode_r12) (.seq (.seq (.region code_Encode_r13) (.cond (.tmp 69) (.seq (.region code_Encode_r14) (.ret)) (.skip))) (.seq (.region code_Encode_r15) (.cond (.tmp 76) (.seq (.region code_Encode_r16) (.ret)) (.skip))))))))))) (.region code_Encode_r17)))) Q ρ h := _root_.id rfl
def code_Encode_l1 : Cd := .seq (.region code_Encode_r24) (.seq (.cond (.tmp 93) (.skip) (.exit 4)) (.seq (.block 5 (.seq (.region code_Encode_r25) (.seq (.region code_Encode_r26) (.seq (.region code_Encode_r27) (.cond (.tmp 103) (.seq (.region code_Encode_r28) (.ret)) (.skip)))))) (.region code_Encode_r29)))
theorem code_Encode_l1_go {Q : Ex → Env → Heap → Prop} {ρ : Env} {h : Heap} : Cd.vc Try.prog code_Encode_l1 Q ρ h = Cd.vc Try.prog (.seq (.region code_Encode_r24) (.seq (.cond (.tmp 93) (.skip) (.exit 4)) (.seq (.block 5 (.seq (.region code_Encode_r25) (.seq (.region code_Encode_r26) (.seq (.region code_Encode_r27) (.cond (.tmp 103) (.seq (.region code_Encode_r28) (.ret)) (.skip)))))) (.region code_Encode_r29)))) Q ρ h := _root_.id rfl
def code_Encode_l2 : Cd := .seq (.region code_Encode_r21) (.seq (.cond (.tmp 85) (.skip) (.exit 2)) (.seq (.block 3 (.seq (.region code_Encode_r22) (.seq (.region code_Encode_r23) (.block 4 (.loop code_Encode_l1))))) (.region code_Encode_r30)))
theorem code_Encode_l2_go {Q : Ex → Env → Heap → Prop} {ρ : Env} {h : Heap} : Cd.vc Try.prog code_Encode_l2 Q ρ h = Cd.vc Try.prog (.seq (.region code_Encode_r21) (.seq (.cond (.tmp 85) (.skip) (.exit 2)) (.seq (.block 3 (.seq (.region code_Encode_r22) (.seq (.region code_Encode_r23) (.block 4 (.loop code_Encode_l1))))) (.region code_Encode_r30)))) Q ρ h := _root_.id rfl
def code_Encode : Cd := .seq (.region code_Encode_r0) (.seq (.region code_Encode_r1) (.seq (.region code_Encode_r2) (.seq (.seq (.region code_Encode_r3) (.block 0 (.loop code_Encode_l0))) (.seq (.seq (.region code_Encode_r18) (.cond (.tmp 81) (.seq (.region code_Encode_r19) (.ret)) (.skip))) (.seq (.seq (.region code_Encode_r20) (.block 2 (.loop code_Encode_l2))) (.seq (.region code_Encode_r31) (.ret)))))))
theorem code_Encode_go {Q : Ex → Env → Heap → Prop} {ρ : Env} {h : Heap} : Cd.vc Try.prog code_Encode Q ρ h = Cd.vc Try.prog (.seq (.region code_Encode_r0) (.seq (.region code_Encode_r1) (.seq (.region code_Encode_r2) (.seq (.seq (.region code_Encode_r3) (.block 0 (.loop code_Encode_l0))) (.seq (.seq (.region code_Encode_r18) (.cond (.tmp 81) (.seq (.region code_Encode_r19) (.ret)) (.skip))) (.seq (.seq (.region code_Encode_r20) (.block 2 (.loop code_Encode_l2))) (.seq (.region code_Encode_r31) (.ret)))))))) Q ρ h := _root_.id rfl
theorem code_Encode_calls {args : List Value} {h : Heap} {R : Value → Heap → Prop} (hl : args.length = 1) (hv : Cd.vc Try.prog code_Encode (retQ Try.prog [(2, none), (3, none), (4, none)] R) (initEnv args [0, 2, 3, 4, 5, 6, 7, 8, 9, 10, 11, 13, 15, 19, 20, 21, 22, 33, 59, 69, 76, 81, 82, 83, 84, 85, 90, 91, 92, 93, 103]) h) : HCalls Try.prog 8 args.toArray h R :=
  hcalls_of_vc (by kernel_rfl) Try.func8 (cd := code_Encode) (L := [0, 2, 3, 4, 5, 6, 7, 8, 9, 10, 11, 13, 15, 19, 20, 21, 22, 33, 59, 69, 76, 81, 82, 83, 84, 85, 90, 91, 92, 93, 103]) (by kernel_rfl) (by kernel_rfl) ⟨by rw [hl, Try.ntmps8]; decide, by rw [Try.ntmps8]; decide⟩ hv
def code_Encode_gos := And.intro @code_Encode_go (And.intro @code_Encode_r0_go (And.intro @code_Encode_r1_go (And.intro @code_Encode_r2_go (And.intro @code_Encode_r3_go (And.intro @code_Encode_r4_go (And.intro @code_Encode_r5_go (And.intro @code_Encode_r6_go (And.intro @code_Encode_r7_go (And.intro @code_Encode_r8_go (And.intro @code_Encode_r9_go (And.intro @code_Encode_r10_go (And.intro @code_Encode_r11_go (And.intro @code_Encode_r12_go (And.intro @code_Encode_r13_go (And.intro @code_Encode_r14_go (And.intro @code_Encode_r15_go (And.intro @code_Encode_r16_go (And.intro @code_Encode_r17_go (And.intro @code_Encode_r18_go (And.intro @code_Encode_r19_go (And.intro @code_Encode_r20_go (And.intro @code_Encode_r21_go (And.intro @code_Encode_r22_go (And.intro @code_Encode_r23_go (And.intro @code_Encode_r24_go (And.intro @code_Encode_r25_go (And.intro @code_Encode_r26_go (And.intro @code_Encode_r27_go (And.intro @code_Encode_r28_go (And.intro @code_Encode_r29_go (And.intro @code_Encode_r30_go (And.intro @code_Encode_r31_go (And.intro @code_Encode_l0_go (And.intro @code_Encode_l1_go (@code_Encode_l2_go)))))))))))))))))))))))))))))))))))

end Go.Proofs.Ytjpcpkhegjndeaa.C
