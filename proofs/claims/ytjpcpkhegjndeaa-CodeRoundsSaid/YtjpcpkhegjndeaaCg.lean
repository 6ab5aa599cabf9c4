/- The stripped code of some functions of this seat's program, printed by a program; that it is that code is proved by the kernel. No condition. -/

import Derived.Test.YtjpcpkhegjndeaaProg

import Derived.Test.YtjpcpkhegjndeaaVcH

set_option maxRecDepth 100000

set_option linter.defProp false

namespace Go.Proofs.Ytjpcpkhegjndeaa.C

open Go.Vc

/-! jvmcore/code.sign: function 45: slots [0, 1, 4, 5, 12] -/
def code_sign_r0 : List Sop := [
  ⟨some (4, true), .assign (.const (.int .i64 0)), 3, none, true⟩]
theorem code_sign_r0_go {K : Env → Heap → Prop} {τ ρ : Env} {h : Heap} : vcOps Try.prog K code_sign_r0 τ ρ h = vcOps Try.prog K [
  ⟨some (4, true), .assign (.const (.int .i64 0)), 3, none, true⟩] τ ρ h := _root_.id rfl
def code_sign_r1 : List Sop := [
  ⟨some (6, false), .move (.tmp 1), 3, none, true⟩,
  ⟨some (7, false), .binOp .mul 3 (.const (.int .i64 8)) (.tmp 6) 3, 3, none, true⟩,
  ⟨some (8, false), .binOp .sub 3 (.tmp 7) (.const (.int .i64 1)) 3, 3, none, true⟩,
  ⟨some (9, false), .binOp .shl 3 (.const (.int .i64 1)) (.tmp 8) 3, 3, none, true⟩,
  ⟨some (5, true), .assign (.tmp 9), 3, none, true⟩]
theorem code_sign_r1_go {K : Env → Heap → Prop} {τ ρ : Env} {h : Heap} : vcOps Try.prog K code_sign_r1 τ ρ h = vcOps Try.prog K [
  ⟨some (6, false), .move (.tmp 1), 3, none, true⟩,
  ⟨some (7, false), .binOp .mul 3 (.const (.int .i64 8)) (.tmp 6) 3, 3, none, true⟩,
  ⟨some (8, false), .binOp .sub 3 (.tmp 7) (.const (.int .i64 1)) 3, 3, none, true⟩,
  ⟨some (9, false), .binOp .shl 3 (.const (.int .i64 1)) (.tmp 8) 3, 3, none, true⟩,
  ⟨some (5, true), .assign (.tmp 9), 3, none, true⟩] τ ρ h := _root_.id rfl
def code_sign_r2 : List Sop := [
  ⟨some (10, false), .move (.tmp 0), 3, none, true⟩,
  ⟨some (11, false), .move (.tmp 5), 3, none, true⟩,
  ⟨some (12, true), .binOp .geq 3 (.tmp 10) (.tmp 11) 3, 4, none, true⟩]
theorem code_sign_r2_go {K : Env → Heap → Prop} {τ ρ : Env} {h : Heap} : vcOps Try.prog K code_sign_r2 τ ρ h = vcOps Try.prog K [
  ⟨some (10, false), .move (.tmp 0), 3, none, true⟩,
  ⟨some (11, false), .move (.tmp 5), 3, none, true⟩,
  ⟨some (12, true), .binOp .geq 3 (.tmp 10) (.tmp 11) 3, 4, none, true⟩] τ ρ h := _root_.id rfl
def code_sign_r3 : List Sop := [
  ⟨some (13, false), .move (.tmp 0), 3, none, true⟩,
  ⟨some (14, false), .move (.tmp 5), 3, none, true⟩,
  ⟨some (15, false), .binOp .mul 3 (.const (.int .i64 2)) (.tmp 14) 3, 3, none, true⟩,
  ⟨some (16, false), .binOp .sub 3 (.tmp 13) (.tmp 15) 3, 3, none, true⟩,
  ⟨some (4, true), .assign (.tmp 16), 3, none, true⟩]
theorem code_sign_r3_go {K : Env → Heap → Prop} {τ ρ : Env} {h : Heap} : vcOps Try.prog K code_sign_r3 τ ρ h = vcOps Try.prog K [
  ⟨some (13, false), .move (.tmp 0), 3, none, true⟩,
  ⟨some (14, false), .move (.tmp 5), 3, none, true⟩,
  ⟨some (15, false), .binOp .mul 3 (.const (.int .i64 2)) (.tmp 14) 3, 3, none, true⟩,
  ⟨some (16, false), .binOp .sub 3 (.tmp 13) (.tmp 15) 3, 3, none, true⟩,
  ⟨some (4, true), .assign (.tmp 16), 3, none, true⟩] τ ρ h := _root_.id rfl
def code_sign_r4 : List Sop := [
  ⟨some (17, false), .move (.tmp 0), 3, none, true⟩,
  ⟨some (4, true), .assign (.tmp 17), 3, none, true⟩]
theorem code_sign_r4_go {K : Env → Heap → Prop} {τ ρ : Env} {h : Heap} : vcOps Try.prog K code_sign_r4 τ ρ h = vcOps Try.prog K [
  ⟨some (17, false), .move (.tmp 0), 3, none, true⟩,
  ⟨some (4, true), .assign (.tmp 17), 3, none, true⟩] τ ρ h := _root_.id rfl
def code_sign : Cd := .seq (.region code_sign_r0) (.seq (.region code_sign_r1) (.seq (.seq (.region code_sign_r2) (.cond (.tmp 12) (.seq (.region code_sign_r3) (.ret)) (.skip))) (.seq (.region code_sign_r4) (.ret))))
theorem code_sign_go {Q : Ex → Env → Heap → Prop} {ρ : Env} {h : Heap} : Cd.vc Try.prog code_sign Q ρ h = Cd.vc Try.prog (.seq (.region code_sign_r0) (.seq (.region code_sign_r1) (.seq (.seq (.region code_sign_r2) (.cond (.tmp 12) (.seq (.region code_sign_r3) (.ret)) (.skip))) (.seq (.region code_sign_r4) (.ret))))) Q ρ h := _root_.id rfl
theorem code_sign_calls {args : List Value} {h : Heap} {R : Value → Heap → Prop} (hl : args.length = 2) (hv : Cd.vc Try.prog code_sign (retQ Try.prog [(4, none)] R) (initEnv args [0, 1, 4, 5, 12]) h) : HCalls Try.prog 45 args.toArray h R :=
  hcalls_of_vc (by kernel_rfl) Try.func45 (cd := code_sign) (L := [0, 1, 4, 5, 12]) (by kernel_rfl) (by kernel_rfl) ⟨by rw [hl, Try.ntmps45]; decide, by rw [Try.ntmps45]; decide⟩ hv
def code_sign_gos := And.intro @code_sign_go (And.intro @code_sign_r0_go (And.intro @code_sign_r1_go (And.intro @code_sign_r2_go (And.intro @code_sign_r3_go (@code_sign_r4_go)))))

/-! (jvmcore/code.decoder).signed: function 36: slots [0, 1, 2, 4] -/
def dec_signed_r0 : List Sop := [
  ⟨some (2, true), .box 52 (.tmp 0), 0, none, false⟩,
  ⟨some (4, true), .assign (.const (.int .i64 0)), 3, none, true⟩]
theorem dec_signed_r0_go {K : Env → Heap → Prop} {τ ρ : Env} {h : Heap} : vcOps Try.prog K dec_signed_r0 τ ρ h = vcOps Try.prog K [
  ⟨some (2, true), .box 52 (.tmp 0), 0, none, false⟩,
  ⟨some (4, true), .assign (.const (.int .i64 0)), 3, none, true⟩] τ ρ h := _root_.id rfl
def dec_signed_r1 : List Sop := [
  ⟨some (5, false), .fieldAddr 52 (.tmp 2) 0, 0, none, true⟩,
  ⟨some (6, false), .load 49 (.tmp 5), 49, none, true⟩,
  ⟨some (7, false), .move (.tmp 1), 3, none, true⟩,
  ⟨some (8, false), .call { callee := .value (.func 35), args := #[.tmp 6, .tmp 7], argTypes := #[49, 3] }, 3, none, false⟩,
  ⟨some (9, false), .move (.tmp 1), 3, none, true⟩,
  ⟨some (10, false), .call { callee := .value (.func 45), args := #[.tmp 8, .tmp 9], argTypes := #[3, 3] }, 3, none, false⟩,
  ⟨some (4, true), .assign (.tmp 10), 3, none, true⟩]
theorem dec_signed_r1_go {K : Env → Heap → Prop} {τ ρ : Env} {h : Heap} : vcOps Try.prog K dec_signed_r1 τ ρ h = vcOps Try.prog K [
  ⟨some (5, false), .fieldAddr 52 (.tmp 2) 0, 0, none, true⟩,
  ⟨some (6, false), .load 49 (.tmp 5), 49, none, true⟩,
  ⟨some (7, false), .move (.tmp 1), 3, none, true⟩,
  ⟨some (8, false), .call { callee := .value (.func 35), args := #[.tmp 6, .tmp 7], argTypes := #[49, 3] }, 3, none, false⟩,
  ⟨some (9, false), .move (.tmp 1), 3, none, true⟩,
  ⟨some (10, false), .call { callee := .value (.func 45), args := #[.tmp 8, .tmp 9], argTypes := #[3, 3] }, 3, none, false⟩,
  ⟨some (4, true), .assign (.tmp 10), 3, none, true⟩] τ ρ h := _root_.id rfl
def dec_signed : Cd := .seq (.region dec_signed_r0) (.seq (.region dec_signed_r1) (.ret))
theorem dec_signed_go {Q : Ex → Env → Heap → Prop} {ρ : Env} {h : Heap} : Cd.vc Try.prog dec_signed Q ρ h = Cd.vc Try.prog (.seq (.region dec_signed_r0) (.seq (.region dec_signed_r1) (.ret))) Q ρ h := _root_.id rfl
theorem dec_signed_calls {args : List Value} {h : Heap} {R : Value → Heap → Prop} (hl : args.length = 2) (hv : Cd.vc Try.prog dec_signed (retQ Try.prog [(4, none)] R) (initEnv args [0, 1, 2, 4]) h) : HCalls Try.prog 36 args.toArray h R :=
  hcalls_of_vc (by kernel_rfl) Try.func36 (cd := dec_signed) (L := [0, 1, 2, 4]) (by kernel_rfl) (by kernel_rfl) ⟨by rw [hl, Try.ntmps36]; decide, by rw [Try.ntmps36]; decide⟩ hv
def dec_signed_gos := And.intro @dec_signed_go (And.intro @dec_signed_r0_go (@dec_signed_r1_go))

/-! (jvmcore/code.decoder).choice: function 46: slots [0, 1, 2, 3, 6, 7, 8, 9, 20, 24, 46, 58, 74, 90, 94, 110] -/
def dec_choice_r0 : List Sop := [
  ⟨some (3, true), .box 52 (.tmp 0), 0, none, false⟩]
theorem dec_choice_r0_go {K : Env → Heap → Prop} {τ ρ : Env} {h : Heap} : vcOps Try.prog K dec_choice_r0 τ ρ h = vcOps Try.prog K [
  ⟨some (3, true), .box 52 (.tmp 0), 0, none, false⟩] τ ρ h := _root_.id rfl
def dec_choice_r1 : List Sop := [
  ⟨some (10, false), .fieldAddr 52 (.tmp 3) 0, 0, none, true⟩,
  ⟨some (11, false), .load 49 (.tmp 10), 49, none, true⟩,
  ⟨some (12, false), .call { callee := .value (.func 22), args := #[.tmp 11], argTypes := #[49] }, 3, none, false⟩,
  ⟨some (13, false), .binOp .rem 3 (.tmp 12) (.const (.int .i64 4)) 3, 3, none, true⟩,
  ⟨some (14, false), .binOp .neq 3 (.tmp 13) (.const (.int .i64 0)) 3, 4, none, true⟩,
  ⟨some (15, false), .move (.tmp 14), 4, none, true⟩,
  ⟨some (16, false), .fieldAddr 52 (.tmp 3) 0, 0, some (15, true), true⟩,
  ⟨some (17, false), .load 49 (.tmp 16), 49, some (15, true), true⟩,
  ⟨some (18, false), .call { callee := .value (.func 21), args := #[.tmp 17], argTypes := #[49] }, 4, some (15, true), false⟩,
  ⟨some (19, false), .unOp .not 4 (.tmp 18), 4, some (15, true), true⟩,
  ⟨some (20, true), .pick (.tmp 15) (.tmp 19) (.const (.bool false)), 4, none, true⟩]
theorem dec_choice_r1_go {K : Env → Heap → Prop} {τ ρ : Env} {h : Heap} : vcOps Try.prog K dec_choice_r1 τ ρ h = vcOps Try.prog K [
  ⟨some (10, false), .fieldAddr 52 (.tmp 3) 0, 0, none, true⟩,
  ⟨some (11, false), .load 49 (.tmp 10), 49, none, true⟩,
  ⟨some (12, false), .call { callee := .value (.func 22), args := #[.tmp 11], argTypes := #[49] }, 3, none, false⟩,
  ⟨some (13, false), .binOp .rem 3 (.tmp 12) (.const (.int .i64 4)) 3, 3, none, true⟩,
  ⟨some (14, false), .binOp .neq 3 (.tmp 13) (.const (.int .i64 0)) 3, 4, none, true⟩,
  ⟨some (15, false), .move (.tmp 14), 4, none, true⟩,
  ⟨some (16, false), .fieldAddr 52 (.tmp 3) 0, 0, some (15, true), true⟩,
  ⟨some (17, false), .load 49 (.tmp 16), 49, some (15, true), true⟩,
  ⟨some (18, false), .call { callee := .value (.func 21), args := #[.tmp 17], argTypes := #[49] }, 4, some (15, true), false⟩,
  ⟨some (19, false), .unOp .not 4 (.tmp 18), 4, some (15, true), true⟩,
  ⟨some (20, true), .pick (.tmp 15) (.tmp 19) (.const (.bool false)), 4, none, true⟩] τ ρ h := _root_.id rfl
def dec_choice_r2 : List Sop := [
  ⟨some (21, false), .fieldAddr 52 (.tmp 3) 0, 0, none, true⟩,
  ⟨some (22, false), .load 49 (.tmp 21), 49, none, true⟩,
  ⟨some (23, false), .call { callee := .value (.func 35), args := #[.tmp 22, .const (.int .i64 1)], argTypes := #[49, 3] }, 3, none, false⟩,
  ⟨some (24, true), .binOp .neq 3 (.tmp 23) (.const (.int .i64 0)) 3, 4, none, true⟩]
theorem dec_choice_r2_go {K : Env → Heap → Prop} {τ ρ : Env} {h : Heap} : vcOps Try.prog K dec_choice_r2 τ ρ h = vcOps Try.prog K [
  ⟨some (21, false), .fieldAddr 52 (.tmp 3) 0, 0, none, true⟩,
  ⟨some (22, false), .load 49 (.tmp 21), 49, none, true⟩,
  ⟨some (23, false), .call { callee := .value (.func 35), args := #[.tmp 22, .const (.int .i64 1)], argTypes := #[49, 3] }, 3, none, false⟩,
  ⟨some (24, true), .binOp .neq 3 (.tmp 23) (.const (.int .i64 0)) 3, 4, none, true⟩] τ ρ h := _root_.id rfl
def dec_choice_r3 : List (Sop × List Sop) := [
  (⟨some (25, false), .fieldAddr 52 (.tmp 3) 0, 0, none, true⟩, []),
  (⟨some (26, false), .load 49 (.tmp 25), 49, none, true⟩, []),
  (⟨some (27, false), .move (.tmp 1), 71, none, true⟩, []),
  (⟨some (28, false), .nilCheck (.tmp 27), 0, none, true⟩, []),
  (⟨some (29, false), .fieldAddr 35 (.tmp 28) 0, 0, none, true⟩, []),
  (⟨some (30, false), .load 3 (.tmp 29), 3, none, true⟩, []),
  (⟨some (31, false), .call { callee := .value (.func 24), args := #[.tmp 26, .const (.int .i64 15), .tmp 30], argTypes := #[49, 25, 3] }, 0, none, false⟩, [])]
theorem dec_choice_r3_go {K : Env → Heap → Prop} {τ ρ : Env} {h : Heap} : vcDraw Try.prog K dec_choice_r3 τ ρ h = vcDraw Try.prog K [
  (⟨some (25, false), .fieldAddr 52 (.tmp 3) 0, 0, none, true⟩, []),
  (⟨some (26, false), .load 49 (.tmp 25), 49, none, true⟩, []),
  (⟨some (27, false), .move (.tmp 1), 71, none, true⟩, []),
  (⟨some (28, false), .nilCheck (.tmp 27), 0, none, true⟩, []),
  (⟨some (29, false), .fieldAddr 35 (.tmp 28) 0, 0, none, true⟩, []),
  (⟨some (30, false), .load 3 (.tmp 29), 3, none, true⟩, []),
  (⟨some (31, false), .call { callee := .value (.func 24), args := #[.tmp 26, .const (.int .i64 15), .tmp 30], argTypes := #[49, 25, 3] }, 0, none, false⟩, [])] τ ρ h := _root_.id rfl
def dec_choice_r4 : List (Sop × List Sop) := [
  (⟨some (32, false), .move (.tmp 1), 71, none, true⟩, []),
  (⟨some (33, false), .move (.tmp 1), 71, none, true⟩, []),
  (⟨some (34, false), .nilCheck (.tmp 33), 0, none, true⟩, []),
  (⟨some (35, false), .fieldAddr 35 (.tmp 34) 0, 0, none, true⟩, []),
  (⟨some (36, false), .load 3 (.tmp 35), 3, none, true⟩, []),
  (⟨some (37, false), .load 52 (.tmp 3), 52, none, true⟩, []),
  (⟨some (38, false), .call { callee := .value (.func 36), args := #[.tmp 37, .const (.int .i64 4)], argTypes := #[52, 3] }, 3, none, false⟩, [⟨some (34, false), .nilCheck (.tmp 33), 0, none, true⟩, ⟨some (35, false), .fieldAddr 35 (.tmp 34) 0, 0, none, true⟩, ⟨some (36, false), .load 3 (.tmp 35), 3, none, true⟩]),
  (⟨some (39, false), .binOp .add 3 (.tmp 36) (.tmp 38) 3, 3, none, true⟩, []),
  (⟨some (40, false), .buildSlice 33 1 #[(0, .tmp 39)], 33, none, false⟩, []),
  (⟨some (41, false), .nilCheck (.tmp 32), 0, none, true⟩, []),
  (⟨some (42, false), .fieldAddr 35 (.tmp 41) 7, 0, none, true⟩, []),
  (⟨none, .store 33 (.tmp 42) (.tmp 40), 0, none, false⟩, [])]
theorem dec_choice_r4_go {K : Env → Heap → Prop} {τ ρ : Env} {h : Heap} : vcDraw Try.prog K dec_choice_r4 τ ρ h = vcDraw Try.prog K [
  (⟨some (32, false), .move (.tmp 1), 71, none, true⟩, []),
  (⟨some (33, false), .move (.tmp 1), 71, none, true⟩, []),
  (⟨some (34, false), .nilCheck (.tmp 33), 0, none, true⟩, []),
  (⟨some (35, false), .fieldAddr 35 (.tmp 34) 0, 0, none, true⟩, []),
  (⟨some (36, false), .load 3 (.tmp 35), 3, none, true⟩, []),
  (⟨some (37, false), .load 52 (.tmp 3), 52, none, true⟩, []),
  (⟨some (38, false), .call { callee := .value (.func 36), args := #[.tmp 37, .const (.int .i64 4)], argTypes := #[52, 3] }, 3, none, false⟩, [⟨some (34, false), .nilCheck (.tmp 33), 0, none, true⟩, ⟨some (35, false), .fieldAddr 35 (.tmp 34) 0, 0, none, true⟩, ⟨some (36, false), .load 3 (.tmp 35), 3, none, true⟩]),
  (⟨some (39, false), .binOp .add 3 (.tmp 36) (.tmp 38) 3, 3, none, true⟩, []),
  (⟨some (40, false), .buildSlice 33 1 #[(0, .tmp 39)], 33, none, false⟩, []),
  (⟨some (41, false), .nilCheck (.tmp 32), 0, none, true⟩, []),
  (⟨some (42, false), .fieldAddr 35 (.tmp 41) 7, 0, none, true⟩, []),
  (⟨none, .store 33 (.tmp 42) (.tmp 40), 0, none, false⟩, [])] τ ρ h := _root_.id rfl
def dec_choice_r5 : List Sop := [
  ⟨some (43, false), .load 52 (.tmp 3), 52, none, true⟩,
  ⟨some (44, false), .call { callee := .value (.func 36), args := #[.tmp 43, .const (.int .i64 4)], argTypes := #[52, 3] }, 3, none, false⟩,
  ⟨some (6, true), .assign (.tmp 44), 3, none, true⟩]
theorem dec_choice_r5_go {K : Env → Heap → Prop} {τ ρ : Env} {h : Heap} : vcOps Try.prog K dec_choice_r5 τ ρ h = vcOps Try.prog K [
  ⟨some (43, false), .load 52 (.tmp 3), 52, none, true⟩,
  ⟨some (44, false), .call { callee := .value (.func 36), args := #[.tmp 43, .const (.int .i64 4)], argTypes := #[52, 3] }, 3, none, false⟩,
  ⟨some (6, true), .assign (.tmp 44), 3, none, true⟩] τ ρ h := _root_.id rfl
def dec_choice_r6 : List Sop := [
  ⟨some (45, false), .move (.tmp 2), 3, none, true⟩,
  ⟨some (46, true), .binOp .eql 3 (.tmp 45) (.const (.int .i64 10)) 3, 4, none, true⟩]
theorem dec_choice_r6_go {K : Env → Heap → Prop} {τ ρ : Env} {h : Heap} : vcOps Try.prog K dec_choice_r6 τ ρ h = vcOps Try.prog K [
  ⟨some (45, false), .move (.tmp 2), 3, none, true⟩,
  ⟨some (46, true), .binOp .eql 3 (.tmp 45) (.const (.int .i64 10)) 3, 4, none, true⟩] τ ρ h := _root_.id rfl
def dec_choice_r7 : List Sop := [
  ⟨some (47, false), .move (.tmp 1), 71, none, true⟩,
  ⟨some (48, false), .move (.tmp 6), 3, none, true⟩,
  ⟨some (49, false), .nilCheck (.tmp 47), 0, none, true⟩,
  ⟨some (50, false), .fieldAddr 35 (.tmp 49) 5, 0, none, true⟩,
  ⟨none, .store 3 (.tmp 50) (.tmp 48), 0, none, false⟩]
theorem dec_choice_r7_go {K : Env → Heap → Prop} {τ ρ : Env} {h : Heap} : vcOps Try.prog K dec_choice_r7 τ ρ h = vcOps Try.prog K [
  ⟨some (47, false), .move (.tmp 1), 71, none, true⟩,
  ⟨some (48, false), .move (.tmp 6), 3, none, true⟩,
  ⟨some (49, false), .nilCheck (.tmp 47), 0, none, true⟩,
  ⟨some (50, false), .fieldAddr 35 (.tmp 49) 5, 0, none, true⟩,
  ⟨none, .store 3 (.tmp 50) (.tmp 48), 0, none, false⟩] τ ρ h := _root_.id rfl
def dec_choice_r8 : List Sop := [
  ⟨some (51, false), .load 52 (.tmp 3), 52, none, true⟩,
  ⟨some (52, false), .call { callee := .value (.func 36), args := #[.tmp 51, .const (.int .i64 4)], argTypes := #[52, 3] }, 3, none, false⟩,
  ⟨some (7, true), .assign (.tmp 52), 3, none, true⟩]
theorem dec_choice_r8_go {K : Env → Heap → Prop} {τ ρ : Env} {h : Heap} : vcOps Try.prog K dec_choice_r8 τ ρ h = vcOps Try.prog K [
  ⟨some (51, false), .load 52 (.tmp 3), 52, none, true⟩,
  ⟨some (52, false), .call { callee := .value (.func 36), args := #[.tmp 51, .const (.int .i64 4)], argTypes := #[52, 3] }, 3, none, false⟩,
  ⟨some (7, true), .assign (.tmp 52), 3, none, true⟩] τ ρ h := _root_.id rfl
def dec_choice_r9 : List Sop := [
  ⟨some (53, false), .move (.tmp 7), 3, none, true⟩,
  ⟨some (54, false), .move (.tmp 1), 71, none, true⟩,
  ⟨some (55, false), .nilCheck (.tmp 54), 0, none, true⟩,
  ⟨some (56, false), .fieldAddr 35 (.tmp 55) 5, 0, none, true⟩,
  ⟨some (57, false), .load 3 (.tmp 56), 3, none, true⟩,
  ⟨some (58, true), .binOp .lss 3 (.tmp 53) (.tmp 57) 3, 4, none, true⟩]
theorem dec_choice_r9_go {K : Env → Heap → Prop} {τ ρ : Env} {h : Heap} : vcOps Try.prog K dec_choice_r9 τ ρ h = vcOps Try.prog K [
  ⟨some (53, false), .move (.tmp 7), 3, none, true⟩,
  ⟨some (54, false), .move (.tmp 1), 71, none, true⟩,
  ⟨some (55, false), .nilCheck (.tmp 54), 0, none, true⟩,
  ⟨some (56, false), .fieldAddr 35 (.tmp 55) 5, 0, none, true⟩,
  ⟨some (57, false), .load 3 (.tmp 56), 3, none, true⟩,
  ⟨some (58, true), .binOp .lss 3 (.tmp 53) (.tmp 57) 3, 4, none, true⟩] τ ρ h := _root_.id rfl
def dec_choice_r10 : List (Sop × List Sop) := [
  (⟨some (59, false), .fieldAddr 52 (.tmp 3) 0, 0, none, true⟩, []),
  (⟨some (60, false), .load 49 (.tmp 59), 49, none, true⟩, []),
  (⟨some (61, false), .move (.tmp 1), 71, none, true⟩, []),
  (⟨some (62, false), .nilCheck (.tmp 61), 0, none, true⟩, []),
  (⟨some (63, false), .fieldAddr 35 (.tmp 62) 0, 0, none, true⟩, []),
  (⟨some (64, false), .load 3 (.tmp 63), 3, none, true⟩, []),
  (⟨some (65, false), .call { callee := .value (.func 24), args := #[.tmp 60, .const (.int .i64 15), .tmp 64], argTypes := #[49, 25, 3] }, 0, none, false⟩, [])]
theorem dec_choice_r10_go {K : Env → Heap → Prop} {τ ρ : Env} {h : Heap} : vcDraw Try.prog K dec_choice_r10 τ ρ h = vcDraw Try.prog K [
  (⟨some (59, false), .fieldAddr 52 (.tmp 3) 0, 0, none, true⟩, []),
  (⟨some (60, false), .load 49 (.tmp 59), 49, none, true⟩, []),
  (⟨some (61, false), .move (.tmp 1), 71, none, true⟩, []),
  (⟨some (62, false), .nilCheck (.tmp 61), 0, none, true⟩, []),
  (⟨some (63, false), .fieldAddr 35 (.tmp 62) 0, 0, none, true⟩, []),
  (⟨some (64, false), .load 3 (.tmp 63), 3, none, true⟩, []),
  (⟨some (65, false), .call { callee := .value (.func 24), args := #[.tmp 60, .const (.int .i64 15), .tmp 64], argTypes := #[49, 25, 3] }, 0, none, false⟩, [])] τ ρ h := _root_.id rfl
def dec_choice_r11 : List Sop := [
  ⟨some (66, false), .move (.tmp 7), 3, none, true⟩,
  ⟨some (67, false), .move (.tmp 1), 71, none, true⟩,
  ⟨some (68, false), .nilCheck (.tmp 67), 0, none, true⟩,
  ⟨some (69, false), .fieldAddr 35 (.tmp 68) 5, 0, none, true⟩,
  ⟨some (70, false), .load 3 (.tmp 69), 3, none, true⟩,
  ⟨some (71, false), .binOp .sub 3 (.tmp 66) (.tmp 70) 3, 3, none, true⟩,
  ⟨some (72, false), .binOp .add 3 (.tmp 71) (.const (.int .i64 1)) 3, 3, none, true⟩,
  ⟨some (6, true), .assign (.tmp 72), 3, none, true⟩]
theorem dec_choice_r11_go {K : Env → Heap → Prop} {τ ρ : Env} {h : Heap} : vcOps Try.prog K dec_choice_r11 τ ρ h = vcOps Try.prog K [
  ⟨some (66, false), .move (.tmp 7), 3, none, true⟩,
  ⟨some (67, false), .move (.tmp 1), 71, none, true⟩,
  ⟨some (68, false), .nilCheck (.tmp 67), 0, none, true⟩,
  ⟨some (69, false), .fieldAddr 35 (.tmp 68) 5, 0, none, true⟩,
  ⟨some (70, false), .load 3 (.tmp 69), 3, none, true⟩,
  ⟨some (71, false), .binOp .sub 3 (.tmp 66) (.tmp 70) 3, 3, none, true⟩,
  ⟨some (72, false), .binOp .add 3 (.tmp 71) (.const (.int .i64 1)) 3, 3, none, true⟩,
  ⟨some (6, true), .assign (.tmp 72), 3, none, true⟩] τ ρ h := _root_.id rfl
def dec_choice_r12 : List Sop := [
  ⟨some (73, false), .move (.tmp 6), 3, none, true⟩,
  ⟨some (74, true), .binOp .lss 3 (.tmp 73) (.const (.int .i64 0)) 3, 4, none, true⟩]
theorem dec_choice_r12_go {K : Env → Heap → Prop} {τ ρ : Env} {h : Heap} : vcOps Try.prog K dec_choice_r12 τ ρ h = vcOps Try.prog K [
  ⟨some (73, false), .move (.tmp 6), 3, none, true⟩,
  ⟨some (74, true), .binOp .lss 3 (.tmp 73) (.const (.int .i64 0)) 3, 4, none, true⟩] τ ρ h := _root_.id rfl
def dec_choice_r13 : List (Sop × List Sop) := [
  (⟨some (75, false), .fieldAddr 52 (.tmp 3) 0, 0, none, true⟩, []),
  (⟨some (76, false), .load 49 (.tmp 75), 49, none, true⟩, []),
  (⟨some (77, false), .move (.tmp 1), 71, none, true⟩, []),
  (⟨some (78, false), .nilCheck (.tmp 77), 0, none, true⟩, []),
  (⟨some (79, false), .fieldAddr 35 (.tmp 78) 0, 0, none, true⟩, []),
  (⟨some (80, false), .load 3 (.tmp 79), 3, none, true⟩, []),
  (⟨some (81, false), .call { callee := .value (.func 24), args := #[.tmp 76, .const (.int .i64 15), .tmp 80], argTypes := #[49, 25, 3] }, 0, none, false⟩, [])]
theorem dec_choice_r13_go {K : Env → Heap → Prop} {τ ρ : Env} {h : Heap} : vcDraw Try.prog K dec_choice_r13 τ ρ h = vcDraw Try.prog K [
  (⟨some (75, false), .fieldAddr 52 (.tmp 3) 0, 0, none, true⟩, []),
  (⟨some (76, false), .load 49 (.tmp 75), 49, none, true⟩, []),
  (⟨some (77, false), .move (.tmp 1), 71, none, true⟩, []),
  (⟨some (78, false), .nilCheck (.tmp 77), 0, none, true⟩, []),
  (⟨some (79, false), .fieldAddr 35 (.tmp 78) 0, 0, none, true⟩, []),
  (⟨some (80, false), .load 3 (.tmp 79), 3, none, true⟩, []),
  (⟨some (81, false), .call { callee := .value (.func 24), args := #[.tmp 76, .const (.int .i64 15), .tmp 80], argTypes := #[49, 25, 3] }, 0, none, false⟩, [])] τ ρ h := _root_.id rfl
def dec_choice_r14 : List Sop := [
  ⟨some (8, true), .assign (.const (.int .i64 0)), 3, none, true⟩]
theorem dec_choice_r14_go {K : Env → Heap → Prop} {τ ρ : Env} {h : Heap} : vcOps Try.prog K dec_choice_r14 τ ρ h = vcOps Try.prog K [
  ⟨some (8, true), .assign (.const (.int .i64 0)), 3, none, true⟩] τ ρ h := _root_.id rfl
def dec_choice_r15 : List Sop := [
  ⟨some (82, false), .move (.tmp 8), 3, none, true⟩,
  ⟨some (83, false), .move (.tmp 6), 3, none, true⟩,
  ⟨some (84, false), .binOp .lss 3 (.tmp 82) (.tmp 83) 3, 4, none, true⟩,
  ⟨some (85, false), .move (.tmp 84), 4, none, true⟩,
  ⟨some (86, false), .fieldAddr 52 (.tmp 3) 0, 0, some (85, true), true⟩,
  ⟨some (87, false), .load 49 (.tmp 86), 49, some (85, true), true⟩,
  ⟨some (88, false), .call { callee := .value (.func 21), args := #[.tmp 87], argTypes := #[49] }, 4, some (85, true), false⟩,
  ⟨some (89, false), .unOp .not 4 (.tmp 88), 4, some (85, true), true⟩,
  ⟨some (90, true), .pick (.tmp 85) (.tmp 89) (.const (.bool false)), 4, none, true⟩]
theorem dec_choice_r15_go {K : Env → Heap → Prop} {τ ρ : Env} {h : Heap} : vcOps Try.prog K dec_choice_r15 τ ρ h = vcOps Try.prog K [
  ⟨some (82, false), .move (.tmp 8), 3, none, true⟩,
  ⟨some (83, false), .move (.tmp 6), 3, none, true⟩,
  ⟨some (84, false), .binOp .lss 3 (.tmp 82) (.tmp 83) 3, 4, none, true⟩,
  ⟨some (85, false), .move (.tmp 84), 4, none, true⟩,
  ⟨some (86, false), .fieldAddr 52 (.tmp 3) 0, 0, some (85, true), true⟩,
  ⟨some (87, false), .load 49 (.tmp 86), 49, some (85, true), true⟩,
  ⟨some (88, false), .call { callee := .value (.func 21), args := #[.tmp 87], argTypes := #[49] }, 4, some (85, true), false⟩,
  ⟨some (89, false), .unOp .not 4 (.tmp 88), 4, some (85, true), true⟩,
  ⟨some (90, true), .pick (.tmp 85) (.tmp 89) (.const (.bool false)), 4, none, true⟩] τ ρ h := _root_.id rfl
def dec_choice_r16 : List Sop := [
  ⟨some (93, false), .move (.tmp 2), 3, none, true⟩,
  ⟨some (94, true), .binOp .eql 3 (.tmp 93) (.const (.int .i64 11)) 3, 4, none, true⟩]
theorem dec_choice_r16_go {K : Env → Heap → Prop} {τ ρ : Env} {h : Heap} : vcOps Try.prog K dec_choice_r16 τ ρ h = vcOps Try.prog K [
  ⟨some (93, false), .move (.tmp 2), 3, none, true⟩,
  ⟨some (94, true), .binOp .eql 3 (.tmp 93) (.const (.int .i64 11)) 3, 4, none, true⟩] τ ρ h := _root_.id rfl
def dec_choice_r17 : List Sop := [
  ⟨some (95, false), .load 52 (.tmp 3), 52, none, true⟩,
  ⟨some (96, false), .call { callee := .value (.func 36), args := #[.tmp 95, .const (.int .i64 4)], argTypes := #[52, 3] }, 3, none, false⟩,
  ⟨some (9, true), .assign (.tmp 96), 3, none, true⟩]
theorem dec_choice_r17_go {K : Env → Heap → Prop} {τ ρ : Env} {h : Heap} : vcOps Try.prog K dec_choice_r17 τ ρ h = vcOps Try.prog K [
  ⟨some (95, false), .load 52 (.tmp 3), 52, none, true⟩,
  ⟨some (96, false), .call { callee := .value (.func 36), args := #[.tmp 95, .const (.int .i64 4)], argTypes := #[52, 3] }, 3, none, false⟩,
  ⟨some (9, true), .assign (.tmp 96), 3, none, true⟩] τ ρ h := _root_.id rfl
def dec_choice_r18 : List Sop := [
  ⟨some (97, false), .move (.tmp 8), 3, none, true⟩,
  ⟨some (98, false), .binOp .gtr 3 (.tmp 97) (.const (.int .i64 0)) 3, 4, none, true⟩,
  ⟨some (99, false), .move (.tmp 98), 4, none, true⟩,
  ⟨some (100, false), .move (.tmp 9), 3, some (99, true), true⟩,
  ⟨some (101, false), .move (.tmp 1), 71, some (99, true), true⟩,
  ⟨some (102, false), .nilCheck (.tmp 101), 0, some (99, true), true⟩,
  ⟨some (103, false), .fieldAddr 35 (.tmp 102) 6, 0, some (99, true), true⟩,
  ⟨some (104, false), .load 33 (.tmp 103), 33, some (99, true), true⟩,
  ⟨some (105, false), .move (.tmp 8), 3, some (99, true), true⟩,
  ⟨some (106, false), .binOp .sub 3 (.tmp 105) (.const (.int .i64 1)) 3, 3, some (99, true), true⟩,
  ⟨some (107, false), .indexAddr 33 (.tmp 104) (.tmp 106), 0, some (99, true), true⟩,
  ⟨some (108, false), .load 3 (.tmp 107), 3, some (99, true), true⟩,
  ⟨some (109, false), .binOp .leq 3 (.tmp 100) (.tmp 108) 3, 4, some (99, true), true⟩,
  ⟨some (110, true), .pick (.tmp 99) (.tmp 109) (.const (.bool false)), 4, none, true⟩]
theorem dec_choice_r18_go {K : Env → Heap → Prop} {τ ρ : Env} {h : Heap} : vcOps Try.prog K dec_choice_r18 τ ρ h = vcOps Try.prog K [
  ⟨some (97, false), .move (.tmp 8), 3, none, true⟩,
  ⟨some (98, false), .binOp .gtr 3 (.tmp 97) (.const (.int .i64 0)) 3, 4, none, true⟩,
  ⟨some (99, false), .move (.tmp 98), 4, none, true⟩,
  ⟨some (100, false), .move (.tmp 9), 3, some (99, true), true⟩,
  ⟨some (101, false), .move (.tmp 1), 71, some (99, true), true⟩,
  ⟨some (102, false), .nilCheck (.tmp 101), 0, some (99, true), true⟩,
  ⟨some (103, false), .fieldAddr 35 (.tmp 102) 6, 0, some (99, true), true⟩,
  ⟨some (104, false), .load 33 (.tmp 103), 33, some (99, true), true⟩,
  ⟨some (105, false), .move (.tmp 8), 3, some (99, true), true⟩,
  ⟨some (106, false), .binOp .sub 3 (.tmp 105) (.const (.int .i64 1)) 3, 3, some (99, true), true⟩,
  ⟨some (107, false), .indexAddr 33 (.tmp 104) (.tmp 106), 0, some (99, true), true⟩,
  ⟨some (108, false), .load 3 (.tmp 107), 3, some (99, true), true⟩,
  ⟨some (109, false), .binOp .leq 3 (.tmp 100) (.tmp 108) 3, 4, some (99, true), true⟩,
  ⟨some (110, true), .pick (.tmp 99) (.tmp 109) (.const (.bool false)), 4, none, true⟩] τ ρ h := _root_.id rfl
def dec_choice_r19 : List (Sop × List Sop) := [
  (⟨some (111, false), .fieldAddr 52 (.tmp 3) 0, 0, none, true⟩, []),
  (⟨some (112, false), .load 49 (.tmp 111), 49, none, true⟩, []),
  (⟨some (113, false), .move (.tmp 1), 71, none, true⟩, []),
  (⟨some (114, false), .nilCheck (.tmp 113), 0, none, true⟩, []),
  (⟨some (115, false), .fieldAddr 35 (.tmp 114) 0, 0, none, true⟩, []),
  (⟨some (116, false), .load 3 (.tmp 115), 3, none, true⟩, []),
  (⟨some (117, false), .call { callee := .value (.func 24), args := #[.tmp 112, .const (.int .i64 15), .tmp 116], argTypes := #[49, 25, 3] }, 0, none, false⟩, [])]
theorem dec_choice_r19_go {K : Env → Heap → Prop} {τ ρ : Env} {h : Heap} : vcDraw Try.prog K dec_choice_r19 τ ρ h = vcDraw Try.prog K [
  (⟨some (111, false), .fieldAddr 52 (.tmp 3) 0, 0, none, true⟩, []),
  (⟨some (112, false), .load 49 (.tmp 111), 49, none, true⟩, []),
  (⟨some (113, false), .move (.tmp 1), 71, none, true⟩, []),
  (⟨some (114, false), .nilCheck (.tmp 113), 0, none, true⟩, []),
  (⟨some (115, false), .fieldAddr 35 (.tmp 114) 0, 0, none, true⟩, []),
  (⟨some (116, false), .load 3 (.tmp 115), 3, none, true⟩, []),
  (⟨some (117, false), .call { callee := .value (.func 24), args := #[.tmp 112, .const (.int .i64 15), .tmp 116], argTypes := #[49, 25, 3] }, 0, none, false⟩, [])] τ ρ h := _root_.id rfl
def dec_choice_r20 : List Sop := [
  ⟨some (118, false), .move (.tmp 1), 71, none, true⟩,
  ⟨some (119, false), .move (.tmp 1), 71, none, true⟩,
  ⟨some (120, false), .nilCheck (.tmp 119), 0, none, true⟩,
  ⟨some (121, false), .fieldAddr 35 (.tmp 120) 6, 0, none, true⟩,
  ⟨some (122, false), .load 33 (.tmp 121), 33, none, true⟩,
  ⟨some (123, false), .move (.tmp 9), 3, none, true⟩,
  ⟨some (124, false), .buildSlice 33 1 #[(0, .tmp 123)], 33, none, false⟩,
  ⟨some (125, false), .call { callee := .builtin .append, args := #[.tmp 122, .tmp 124], argTypes := #[33, 33] }, 33, none, false⟩,
  ⟨some (126, false), .nilCheck (.tmp 118), 0, none, true⟩,
  ⟨some (127, false), .fieldAddr 35 (.tmp 126) 6, 0, none, true⟩,
  ⟨none, .store 33 (.tmp 127) (.tmp 125), 0, none, false⟩]
theorem dec_choice_r20_go {K : Env → Heap → Prop} {τ ρ : Env} {h : Heap} : vcOps Try.prog K dec_choice_r20 τ ρ h = vcOps Try.prog K [
  ⟨some (118, false), .move (.tmp 1), 71, none, true⟩,
  ⟨some (119, false), .move (.tmp 1), 71, none, true⟩,
  ⟨some (120, false), .nilCheck (.tmp 119), 0, none, true⟩,
  ⟨some (121, false), .fieldAddr 35 (.tmp 120) 6, 0, none, true⟩,
  ⟨some (122, false), .load 33 (.tmp 121), 33, none, true⟩,
  ⟨some (123, false), .move (.tmp 9), 3, none, true⟩,
  ⟨some (124, false), .buildSlice 33 1 #[(0, .tmp 123)], 33, none, false⟩,
  ⟨some (125, false), .call { callee := .builtin .append, args := #[.tmp 122, .tmp 124], argTypes := #[33, 33] }, 33, none, false⟩,
  ⟨some (126, false), .nilCheck (.tmp 118), 0, none, true⟩,
  ⟨some (127, false), .fieldAddr 35 (.tmp 126) 6, 0, none, true⟩,
  ⟨none, .store 33 (.tmp 127) (.tmp 125), 0, none, false⟩] τ ρ h := _root_.id rfl
def dec_choice_r21 : List (Sop × List Sop) := [
  (⟨some (128, false), .move (.tmp 1), 71, none, true⟩, []),
  (⟨some (129, false), .move (.tmp 1), 71, none, true⟩, []),
  (⟨some (130, false), .nilCheck (.tmp 129), 0, none, true⟩, []),
  (⟨some (131, false), .fieldAddr 35 (.tmp 130) 7, 0, none, true⟩, []),
  (⟨some (132, false), .load 33 (.tmp 131), 33, none, true⟩, []),
  (⟨some (133, false), .move (.tmp 1), 71, none, true⟩, []),
  (⟨some (134, false), .nilCheck (.tmp 133), 0, none, true⟩, []),
  (⟨some (135, false), .fieldAddr 35 (.tmp 134) 0, 0, none, true⟩, []),
  (⟨some (136, false), .load 3 (.tmp 135), 3, none, true⟩, []),
  (⟨some (137, false), .load 52 (.tmp 3), 52, none, true⟩, []),
  (⟨some (138, false), .call { callee := .value (.func 36), args := #[.tmp 137, .const (.int .i64 4)], argTypes := #[52, 3] }, 3, none, false⟩, [⟨some (130, false), .nilCheck (.tmp 129), 0, none, true⟩, ⟨some (131, false), .fieldAddr 35 (.tmp 130) 7, 0, none, true⟩, ⟨some (132, false), .load 33 (.tmp 131), 33, none, true⟩, ⟨some (134, false), .nilCheck (.tmp 133), 0, none, true⟩, ⟨some (135, false), .fieldAddr 35 (.tmp 134) 0, 0, none, true⟩, ⟨some (136, false), .load 3 (.tmp 135), 3, none, true⟩]),
  (⟨some (139, false), .binOp .add 3 (.tmp 136) (.tmp 138) 3, 3, none, true⟩, []),
  (⟨some (140, false), .buildSlice 33 1 #[(0, .tmp 139)], 33, none, false⟩, [⟨some (130, false), .nilCheck (.tmp 129), 0, none, true⟩, ⟨some (131, false), .fieldAddr 35 (.tmp 130) 7, 0, none, true⟩, ⟨some (132, false), .load 33 (.tmp 131), 33, none, true⟩]),
  (⟨some (141, false), .call { callee := .builtin .append, args := #[.tmp 132, .tmp 140], argTypes := #[33, 33] }, 33, none, false⟩, []),
  (⟨some (142, false), .nilCheck (.tmp 128), 0, none, true⟩, []),
  (⟨some (143, false), .fieldAddr 35 (.tmp 142) 7, 0, none, true⟩, []),
  (⟨none, .store 33 (.tmp 143) (.tmp 141), 0, none, false⟩, [])]
theorem dec_choice_r21_go {K : Env → Heap → Prop} {τ ρ : Env} {h : Heap} : vcDraw Try.prog K dec_choice_r21 τ ρ h = vcDraw Try.prog K [
  (⟨some (128, false), .move (.tmp 1), 71, none, true⟩, []),
  (⟨some (129, false), .move (.tmp 1), 71, none, true⟩, []),
  (⟨some (130, false), .nilCheck (.tmp 129), 0, none, true⟩, []),
  (⟨some (131, false), .fieldAddr 35 (.tmp 130) 7, 0, none, true⟩, []),
  (⟨some (132, false), .load 33 (.tmp 131), 33, none, true⟩, []),
  (⟨some (133, false), .move (.tmp 1), 71, none, true⟩, []),
  (⟨some (134, false), .nilCheck (.tmp 133), 0, none, true⟩, []),
  (⟨some (135, false), .fieldAddr 35 (.tmp 134) 0, 0, none, true⟩, []),
  (⟨some (136, false), .load 3 (.tmp 135), 3, none, true⟩, []),
  (⟨some (137, false), .load 52 (.tmp 3), 52, none, true⟩, []),
  (⟨some (138, false), .call { callee := .value (.func 36), args := #[.tmp 137, .const (.int .i64 4)], argTypes := #[52, 3] }, 3, none, false⟩, [⟨some (130, false), .nilCheck (.tmp 129), 0, none, true⟩, ⟨some (131, false), .fieldAddr 35 (.tmp 130) 7, 0, none, true⟩, ⟨some (132, false), .load 33 (.tmp 131), 33, none, true⟩, ⟨some (134, false), .nilCheck (.tmp 133), 0, none, true⟩, ⟨some (135, false), .fieldAddr 35 (.tmp 134) 0, 0, none, true⟩, ⟨some (136, false), .load 3 (.tmp 135), 3, none, true⟩]),
  (⟨some (139, false), .binOp .add 3 (.tmp 136) (.tmp 138) 3, 3, none, true⟩, []),
  (⟨some (140, false), .buildSlice 33 1 #[(0, .tmp 139)], 33, none, false⟩, [⟨some (130, false), .nilCheck (.tmp 129), 0, none, true⟩, ⟨some (131, false), .fieldAddr 35 (.tmp 130) 7, 0, none, true⟩, ⟨some (132, false), .load 33 (.tmp 131), 33, none, true⟩]),
  (⟨some (141, false), .call { callee := .builtin .append, args := #[.tmp 132, .tmp 140], argTypes := #[33, 33] }, 33, none, false⟩, []),
  (⟨some (142, false), .nilCheck (.tmp 128), 0, none, true⟩, []),
  (⟨some (143, false), .fieldAddr 35 (.tmp 142) 7, 0, none, true⟩, []),
  (⟨none, .store 33 (.tmp 143) (.tmp 141), 0, none, false⟩, [])] τ ρ h := _root_.id rfl
def dec_choice_r22 : List Sop := [
  ⟨some (91, false), .move (.tmp 8), 3, none, true⟩,
  ⟨some (92, false), .binOp .add 3 (.tmp 91) (.const (.int .i64 1)) 3, 3, none, true⟩,
  ⟨some (8, true), .assign (.tmp 92), 3, none, true⟩]
theorem dec_choice_r22_go {K : Env → Heap → Prop} {τ ρ : Env} {h : Heap} : vcOps Try.prog K dec_choice_r22 τ ρ h = vcOps Try.prog K [
  ⟨some (91, false), .move (.tmp 8), 3, none, true⟩,
  ⟨some (92, false), .binOp .add 3 (.tmp 91) (.const (.int .i64 1)) 3, 3, none, true⟩,
  ⟨some (8, true), .assign (.tmp 92), 3, none, true⟩] τ ρ h := _root_.id rfl
def dec_choice_l0 : Cd := .seq (.seq (.region dec_choice_r1) (.cond (.tmp 20) (.skip) (.exit 0))) (.block 1 (.seq (.region dec_choice_r2) (.cond (.tmp 24) (.draw dec_choice_r3) (.skip))))
theorem dec_choice_l0_go {Q : Ex → Env → Heap → Prop} {ρ : Env} {h : Heap} : Cd.vc Try.prog dec_choice_l0 Q ρ h = Cd.vc Try.prog (.seq (.seq (.region dec_choice_r1) (.cond (.tmp 20) (.skip) (.exit 0))) (.block 1 (.seq (.region dec_choice_r2) (.cond (.tmp 24) (.draw dec_choice_r3) (.skip))))) Q ρ h := _root_.id rfl
def dec_choice_l1 : Cd := .seq (.seq (.region dec_choice_r15) (.cond (.tmp 90) (.skip) (.exit 2))) (.seq (.block 3 (.seq (.seq (.region dec_choice_r16) (.cond (.tmp 94) (.seq (.region dec_choice_r17) (.seq (.seq (.region dec_choice_r18) (.cond (.tmp 110) (.draw dec_choice_r19) (.skip))) (.region dec_choice_r20))) (.skip))) (.draw dec_choice_r21))) (.region dec_choice_r22))
theorem dec_choice_l1_go {Q : Ex → Env → Heap → Prop} {ρ : Env} {h : Heap} : Cd.vc Try.prog dec_choice_l1 Q ρ h = Cd.vc Try.prog (.seq (.seq (.region dec_choice_r15) (.cond (.tmp 90) (.skip) (.exit 2))) (.seq (.block 3 (.seq (.seq (.region dec_choice_r16) (.cond (.tmp 94) (.seq (.region dec_choice_r17) (.seq (.seq (.region dec_choice_r18) (.cond (.tmp 110) (.draw dec_choice_r19) (.skip))) (.region dec_choice_r20))) (.skip))) (.draw dec_choice_r21))) (.region dec_choice_r22))) Q ρ h := _root_.id rfl
def dec_choice : Cd := .seq (.region dec_choice_r0) (.seq (.block 0 (.loop dec_choice_l0)) (.seq (.draw dec_choice_r4) (.seq (.region dec_choice_r5) (.seq (.seq (.region dec_choice_r6) (.cond (.tmp 46) (.seq (.region dec_choice_r7) (.seq (.region dec_choice_r8) (.seq (.seq (.region dec_choice_r9) (.cond (.tmp 58) (.seq (.draw dec_choice_r10) (.ret)) (.skip))) (.region dec_choice_r11)))) (.skip))) (.seq (.seq (.region dec_choice_r12) (.cond (.tmp 74) (.seq (.draw dec_choice_r13) (.ret)) (.skip))) (.seq (.region dec_choice_r14) (.block 2 (.loop dec_choice_l1))))))))
theorem dec_choice_go {Q : Ex → Env → Heap → Prop} {ρ : Env} {h : Heap} : Cd.vc Try.prog dec_choice Q ρ h = Cd.vc Try.prog (.seq (.region dec_choice_r0) (.seq (.block 0 (.loop dec_choice_l0)) (.seq (.draw dec_choice_r4) (.seq (.region dec_choice_r5) (.seq (.seq (.region dec_choice_r6) (.cond (.tmp 46) (.seq (.region dec_choice_r7) (.seq (.region dec_choice_r8) (.seq (.seq (.region dec_choice_r9) (.cond (.tmp 58) (.seq (.draw dec_choice_r10) (.ret)) (.skip))) (.region dec_choice_r11)))) (.skip))) (.seq (.seq (.region dec_choice_r12) (.cond (.tmp 74) (.seq (.draw dec_choice_r13) (.ret)) (.skip))) (.seq (.region dec_choice_r14) (.block 2 (.loop dec_choice_l1))))))))) Q ρ h := _root_.id rfl
theorem dec_choice_calls {args : List Value} {h : Heap} {R : Value → Heap → Prop} (hl : args.length = 3) (hv : Cd.vc Try.prog dec_choice (retQ Try.prog [] R) (initEnv args [0, 1, 2, 3, 6, 7, 8, 9, 20, 24, 46, 58, 74, 90, 94, 110]) h) : HCalls Try.prog 46 args.toArray h R :=
  hcalls_of_vc (by kernel_rfl) Try.func46 (cd := dec_choice) (L := [0, 1, 2, 3, 6, 7, 8, 9, 20, 24, 46, 58, 74, 90, 94, 110]) (by kernel_rfl) (by kernel_rfl) ⟨by rw [hl, Try.ntmps46]; decide, by rw [Try.ntmps46]; decide⟩ hv
def dec_choice_gos := And.intro @dec_choice_go (And.intro @dec_choice_r0_go (And.intro @dec_choice_r1_go (And.intro @dec_choice_r2_go (And.intro @dec_choice_r3_go (And.intro @dec_choice_r4_go (And.intro @dec_choice_r5_go (And.intro @dec_choice_r6_go (And.intro @dec_choice_r7_go (And.intro @dec_choice_r8_go (And.intro @dec_choice_r9_go (And.intro @dec_choice_r10_go (And.intro @dec_choice_r11_go (And.intro @dec_choice_r12_go (And.intro @dec_choice_r13_go (And.intro @dec_choice_r14_go (And.intro @dec_choice_r15_go (And.intro @dec_choice_r16_go (And.intro @dec_choice_r17_go (And.intro @dec_choice_r18_go (And.intro @dec_choice_r19_go (And.intro @dec_choice_r20_go (And.intro @dec_choice_r21_go (And.intro @dec_choice_r22_go (And.intro @dec_choice_l0_go (@dec_choice_l1_go)))))))))))))))))))))))))

/-! (jvmcore/code.decoder).more: function 37: slots [0, 1, 2, 3, 6, 7, 14, 38, 46, 65, 73, 91] -/
def dec_more_r0 : List Sop := [
  ⟨some (3, true), .box 52 (.tmp 0), 0, none, false⟩]
theorem dec_more_r0_go {K : Env → Heap → Prop} {τ ρ : Env} {h : Heap} : vcOps Try.prog K dec_more_r0 τ ρ h = vcOps Try.prog K [
  ⟨some (3, true), .box 52 (.tmp 0), 0, none, false⟩] τ ρ h := _root_.id rfl
def dec_more_r1 : List Sop := [
  ⟨some (6, true), .move (.tmp 2), 3, none, true⟩]
theorem dec_more_r1_go {K : Env → Heap → Prop} {τ ρ : Env} {h : Heap} : vcOps Try.prog K dec_more_r1 τ ρ h = vcOps Try.prog K [
  ⟨some (6, true), .move (.tmp 2), 3, none, true⟩] τ ρ h := _root_.id rfl
def dec_more_r2 : List Sop := [
  ⟨some (8, false), .binOp .eql 3 (.tmp 6) (.const (.int .i64 10)) 3, 4, none, true⟩,
  ⟨some (7, true), .assign (.tmp 8), 4, none, true⟩]
theorem dec_more_r2_go {K : Env → Heap → Prop} {τ ρ : Env} {h : Heap} : vcOps Try.prog K dec_more_r2 τ ρ h = vcOps Try.prog K [
  ⟨some (8, false), .binOp .eql 3 (.tmp 6) (.const (.int .i64 10)) 3, 4, none, true⟩,
  ⟨some (7, true), .assign (.tmp 8), 4, none, true⟩] τ ρ h := _root_.id rfl
def dec_more_r3 : List Sop := [
  ⟨some (9, false), .binOp .eql 3 (.tmp 6) (.const (.int .i64 11)) 3, 4, none, true⟩,
  ⟨some (7, true), .assign (.tmp 9), 4, none, true⟩]
theorem dec_more_r3_go {K : Env → Heap → Prop} {τ ρ : Env} {h : Heap} : vcOps Try.prog K dec_more_r3 τ ρ h = vcOps Try.prog K [
  ⟨some (9, false), .binOp .eql 3 (.tmp 6) (.const (.int .i64 11)) 3, 4, none, true⟩,
  ⟨some (7, true), .assign (.tmp 9), 4, none, true⟩] τ ρ h := _root_.id rfl
def dec_more_r4 : List Sop := [
  ⟨some (10, false), .load 52 (.tmp 3), 52, none, true⟩,
  ⟨some (11, false), .move (.tmp 1), 71, none, true⟩,
  ⟨some (12, false), .move (.tmp 2), 3, none, true⟩,
  ⟨some (13, false), .call { callee := .value (.func 46), args := #[.tmp 10, .tmp 11, .tmp 12], argTypes := #[52, 71, 3] }, 0, none, false⟩]
theorem dec_more_r4_go {K : Env → Heap → Prop} {τ ρ : Env} {h : Heap} : vcOps Try.prog K dec_more_r4 τ ρ h = vcOps Try.prog K [
  ⟨some (10, false), .load 52 (.tmp 3), 52, none, true⟩,
  ⟨some (11, false), .move (.tmp 1), 71, none, true⟩,
  ⟨some (12, false), .move (.tmp 2), 3, none, true⟩,
  ⟨some (13, false), .call { callee := .value (.func 46), args := #[.tmp 10, .tmp 11, .tmp 12], argTypes := #[52, 71, 3] }, 0, none, false⟩] τ ρ h := _root_.id rfl
def dec_more_r5 : List Sop := [
  ⟨some (15, false), .binOp .eql 3 (.tmp 6) (.const (.int .i64 12)) 3, 4, none, true⟩,
  ⟨some (14, true), .assign (.tmp 15), 4, none, true⟩]
theorem dec_more_r5_go {K : Env → Heap → Prop} {τ ρ : Env} {h : Heap} : vcOps Try.prog K dec_more_r5 τ ρ h = vcOps Try.prog K [
  ⟨some (15, false), .binOp .eql 3 (.tmp 6) (.const (.int .i64 12)) 3, 4, none, true⟩,
  ⟨some (14, true), .assign (.tmp 15), 4, none, true⟩] τ ρ h := _root_.id rfl
def dec_more_r6 : List (Sop × List Sop) := [
  (⟨some (16, false), .move (.tmp 1), 71, none, true⟩, []),
  (⟨some (17, false), .move (.tmp 1), 71, none, true⟩, []),
  (⟨some (18, false), .fieldAddr 52 (.tmp 3) 0, 0, none, true⟩, []),
  (⟨some (19, false), .load 49 (.tmp 18), 49, none, true⟩, []),
  (⟨some (21, false), .fieldAddr 52 (.tmp 3) 0, 0, none, true⟩, []),
  (⟨some (22, false), .load 49 (.tmp 21), 49, none, true⟩, []),
  (⟨some (20, false), .call { callee := .value (.func 35), args := #[.tmp 19, .const (.int .i64 2)], argTypes := #[49, 3] }, 3, none, false⟩, [⟨some (21, false), .fieldAddr 52 (.tmp 3) 0, 0, none, true⟩, ⟨some (22, false), .load 49 (.tmp 21), 49, none, true⟩]),
  (⟨some (23, false), .call { callee := .value (.func 35), args := #[.tmp 22, .const (.int .i64 1)], argTypes := #[49, 3] }, 3, none, false⟩, []),
  (⟨some (24, false), .nilCheck (.tmp 16), 0, none, true⟩, []),
  (⟨some (25, false), .fieldAddr 35 (.tmp 24) 3, 0, none, true⟩, []),
  (⟨none, .store 3 (.tmp 25) (.tmp 20), 0, none, false⟩, []),
  (⟨some (26, false), .nilCheck (.tmp 17), 0, none, true⟩, []),
  (⟨some (27, false), .fieldAddr 35 (.tmp 26) 4, 0, none, true⟩, []),
  (⟨none, .store 3 (.tmp 27) (.tmp 23), 0, none, false⟩, [])]
theorem dec_more_r6_go {K : Env → Heap → Prop} {τ ρ : Env} {h : Heap} : vcDraw Try.prog K dec_more_r6 τ ρ h = vcDraw Try.prog K [
  (⟨some (16, false), .move (.tmp 1), 71, none, true⟩, []),
  (⟨some (17, false), .move (.tmp 1), 71, none, true⟩, []),
  (⟨some (18, false), .fieldAddr 52 (.tmp 3) 0, 0, none, true⟩, []),
  (⟨some (19, false), .load 49 (.tmp 18), 49, none, true⟩, []),
  (⟨some (21, false), .fieldAddr 52 (.tmp 3) 0, 0, none, true⟩, []),
  (⟨some (22, false), .load 49 (.tmp 21), 49, none, true⟩, []),
  (⟨some (20, false), .call { callee := .value (.func 35), args := #[.tmp 19, .const (.int .i64 2)], argTypes := #[49, 3] }, 3, none, false⟩, [⟨some (21, false), .fieldAddr 52 (.tmp 3) 0, 0, none, true⟩, ⟨some (22, false), .load 49 (.tmp 21), 49, none, true⟩]),
  (⟨some (23, false), .call { callee := .value (.func 35), args := #[.tmp 22, .const (.int .i64 1)], argTypes := #[49, 3] }, 3, none, false⟩, []),
  (⟨some (24, false), .nilCheck (.tmp 16), 0, none, true⟩, []),
  (⟨some (25, false), .fieldAddr 35 (.tmp 24) 3, 0, none, true⟩, []),
  (⟨none, .store 3 (.tmp 25) (.tmp 20), 0, none, false⟩, []),
  (⟨some (26, false), .nilCheck (.tmp 17), 0, none, true⟩, []),
  (⟨some (27, false), .fieldAddr 35 (.tmp 26) 4, 0, none, true⟩, []),
  (⟨none, .store 3 (.tmp 27) (.tmp 23), 0, none, false⟩, [])] τ ρ h := _root_.id rfl
def dec_more_r7 : List Sop := [
  ⟨some (28, false), .fieldAddr 52 (.tmp 3) 0, 0, none, true⟩,
  ⟨some (29, false), .load 49 (.tmp 28), 49, none, true⟩,
  ⟨some (30, false), .call { callee := .value (.func 35), args := #[.tmp 29, .const (.int .i64 1)], argTypes := #[49, 3] }, 3, none, false⟩,
  ⟨some (31, false), .binOp .neq 3 (.tmp 30) (.const (.int .i64 0)) 3, 4, none, true⟩,
  ⟨some (32, false), .move (.tmp 31), 4, none, true⟩,
  ⟨some (33, false), .move (.tmp 1), 71, some (32, false), true⟩,
  ⟨some (34, false), .nilCheck (.tmp 33), 0, some (32, false), true⟩,
  ⟨some (35, false), .fieldAddr 35 (.tmp 34) 4, 0, some (32, false), true⟩,
  ⟨some (36, false), .load 3 (.tmp 35), 3, some (32, false), true⟩,
  ⟨some (37, false), .binOp .eql 3 (.tmp 36) (.const (.int .i64 0)) 3, 4, some (32, false), true⟩,
  ⟨some (38, true), .pick (.tmp 32) (.const (.bool true)) (.tmp 37), 4, none, true⟩]
theorem dec_more_r7_go {K : Env → Heap → Prop} {τ ρ : Env} {h : Heap} : vcOps Try.prog K dec_more_r7 τ ρ h = vcOps Try.prog K [
  ⟨some (28, false), .fieldAddr 52 (.tmp 3) 0, 0, none, true⟩,
  ⟨some (29, false), .load 49 (.tmp 28), 49, none, true⟩,
  ⟨some (30, false), .call { callee := .value (.func 35), args := #[.tmp 29, .const (.int .i64 1)], argTypes := #[49, 3] }, 3, none, false⟩,
  ⟨some (31, false), .binOp .neq 3 (.tmp 30) (.const (.int .i64 0)) 3, 4, none, true⟩,
  ⟨some (32, false), .move (.tmp 31), 4, none, true⟩,
  ⟨some (33, false), .move (.tmp 1), 71, some (32, false), true⟩,
  ⟨some (34, false), .nilCheck (.tmp 33), 0, some (32, false), true⟩,
  ⟨some (35, false), .fieldAddr 35 (.tmp 34) 4, 0, some (32, false), true⟩,
  ⟨some (36, false), .load 3 (.tmp 35), 3, some (32, false), true⟩,
  ⟨some (37, false), .binOp .eql 3 (.tmp 36) (.const (.int .i64 0)) 3, 4, some (32, false), true⟩,
  ⟨some (38, true), .pick (.tmp 32) (.const (.bool true)) (.tmp 37), 4, none, true⟩] τ ρ h := _root_.id rfl
def dec_more_r8 : List (Sop × List Sop) := [
  (⟨some (39, false), .fieldAddr 52 (.tmp 3) 0, 0, none, true⟩, []),
  (⟨some (40, false), .load 49 (.tmp 39), 49, none, true⟩, []),
  (⟨some (41, false), .move (.tmp 1), 71, none, true⟩, []),
  (⟨some (42, false), .nilCheck (.tmp 41), 0, none, true⟩, []),
  (⟨some (43, false), .fieldAddr 35 (.tmp 42) 0, 0, none, true⟩, []),
  (⟨some (44, false), .load 3 (.tmp 43), 3, none, true⟩, []),
  (⟨some (45, false), .call { callee := .value (.func 24), args := #[.tmp 40, .const (.int .i64 15), .tmp 44], argTypes := #[49, 25, 3] }, 0, none, false⟩, [])]
theorem dec_more_r8_go {K : Env → Heap → Prop} {τ ρ : Env} {h : Heap} : vcDraw Try.prog K dec_more_r8 τ ρ h = vcDraw Try.prog K [
  (⟨some (39, false), .fieldAddr 52 (.tmp 3) 0, 0, none, true⟩, []),
  (⟨some (40, false), .load 49 (.tmp 39), 49, none, true⟩, []),
  (⟨some (41, false), .move (.tmp 1), 71, none, true⟩, []),
  (⟨some (42, false), .nilCheck (.tmp 41), 0, none, true⟩, []),
  (⟨some (43, false), .fieldAddr 35 (.tmp 42) 0, 0, none, true⟩, []),
  (⟨some (44, false), .load 3 (.tmp 43), 3, none, true⟩, []),
  (⟨some (45, false), .call { callee := .value (.func 24), args := #[.tmp 40, .const (.int .i64 15), .tmp 44], argTypes := #[49, 25, 3] }, 0, none, false⟩, [])] τ ρ h := _root_.id rfl
def dec_more_r9 : List Sop := [
  ⟨some (47, false), .binOp .eql 3 (.tmp 6) (.const (.int .i64 13)) 3, 4, none, true⟩,
  ⟨some (46, true), .assign (.tmp 47), 4, none, true⟩]
theorem dec_more_r9_go {K : Env → Heap → Prop} {τ ρ : Env} {h : Heap} : vcOps Try.prog K dec_more_r9 τ ρ h = vcOps Try.prog K [
  ⟨some (47, false), .binOp .eql 3 (.tmp 6) (.const (.int .i64 13)) 3, 4, none, true⟩,
  ⟨some (46, true), .assign (.tmp 47), 4, none, true⟩] τ ρ h := _root_.id rfl
def dec_more_r10 : List Sop := [
  ⟨some (48, false), .move (.tmp 1), 71, none, true⟩,
  ⟨some (49, false), .fieldAddr 52 (.tmp 3) 0, 0, none, true⟩,
  ⟨some (50, false), .load 49 (.tmp 49), 49, none, true⟩,
  ⟨some (51, false), .call { callee := .value (.func 35), args := #[.tmp 50, .const (.int .i64 1)], argTypes := #[49, 3] }, 3, none, false⟩,
  ⟨some (52, false), .nilCheck (.tmp 48), 0, none, true⟩,
  ⟨some (53, false), .fieldAddr 35 (.tmp 52) 3, 0, none, true⟩,
  ⟨none, .store 3 (.tmp 53) (.tmp 51), 0, none, false⟩]
theorem dec_more_r10_go {K : Env → Heap → Prop} {τ ρ : Env} {h : Heap} : vcOps Try.prog K dec_more_r10 τ ρ h = vcOps Try.prog K [
  ⟨some (48, false), .move (.tmp 1), 71, none, true⟩,
  ⟨some (49, false), .fieldAddr 52 (.tmp 3) 0, 0, none, true⟩,
  ⟨some (50, false), .load 49 (.tmp 49), 49, none, true⟩,
  ⟨some (51, false), .call { callee := .value (.func 35), args := #[.tmp 50, .const (.int .i64 1)], argTypes := #[49, 3] }, 3, none, false⟩,
  ⟨some (52, false), .nilCheck (.tmp 48), 0, none, true⟩,
  ⟨some (53, false), .fieldAddr 35 (.tmp 52) 3, 0, none, true⟩,
  ⟨none, .store 3 (.tmp 53) (.tmp 51), 0, none, false⟩] τ ρ h := _root_.id rfl
def dec_more_r11 : List Sop := [
  ⟨some (54, false), .move (.tmp 1), 71, none, true⟩,
  ⟨some (55, false), .nilCheck (.tmp 54), 0, none, true⟩,
  ⟨some (56, false), .fieldAddr 35 (.tmp 55) 3, 0, none, true⟩,
  ⟨some (57, false), .load 3 (.tmp 56), 3, none, true⟩,
  ⟨some (58, false), .binOp .lss 3 (.tmp 57) (.const (.int .i64 4)) 3, 4, none, true⟩,
  ⟨some (59, false), .move (.tmp 58), 4, none, true⟩,
  ⟨some (60, false), .move (.tmp 1), 71, some (59, false), true⟩,
  ⟨some (61, false), .nilCheck (.tmp 60), 0, some (59, false), true⟩,
  ⟨some (62, false), .fieldAddr 35 (.tmp 61) 3, 0, some (59, false), true⟩,
  ⟨some (63, false), .load 3 (.tmp 62), 3, some (59, false), true⟩,
  ⟨some (64, false), .binOp .gtr 3 (.tmp 63) (.const (.int .i64 11)) 3, 4, some (59, false), true⟩,
  ⟨some (65, true), .pick (.tmp 59) (.const (.bool true)) (.tmp 64), 4, none, true⟩]
theorem dec_more_r11_go {K : Env → Heap → Prop} {τ ρ : Env} {h : Heap} : vcOps Try.prog K dec_more_r11 τ ρ h = vcOps Try.prog K [
  ⟨some (54, false), .move (.tmp 1), 71, none, true⟩,
  ⟨some (55, false), .nilCheck (.tmp 54), 0, none, true⟩,
  ⟨some (56, false), .fieldAddr 35 (.tmp 55) 3, 0, none, true⟩,
  ⟨some (57, false), .load 3 (.tmp 56), 3, none, true⟩,
  ⟨some (58, false), .binOp .lss 3 (.tmp 57) (.const (.int .i64 4)) 3, 4, none, true⟩,
  ⟨some (59, false), .move (.tmp 58), 4, none, true⟩,
  ⟨some (60, false), .move (.tmp 1), 71, some (59, false), true⟩,
  ⟨some (61, false), .nilCheck (.tmp 60), 0, some (59, false), true⟩,
  ⟨some (62, false), .fieldAddr 35 (.tmp 61) 3, 0, some (59, false), true⟩,
  ⟨some (63, false), .load 3 (.tmp 62), 3, some (59, false), true⟩,
  ⟨some (64, false), .binOp .gtr 3 (.tmp 63) (.const (.int .i64 11)) 3, 4, some (59, false), true⟩,
  ⟨some (65, true), .pick (.tmp 59) (.const (.bool true)) (.tmp 64), 4, none, true⟩] τ ρ h := _root_.id rfl
def dec_more_r12 : List (Sop × List Sop) := [
  (⟨some (66, false), .fieldAddr 52 (.tmp 3) 0, 0, none, true⟩, []),
  (⟨some (67, false), .load 49 (.tmp 66), 49, none, true⟩, []),
  (⟨some (68, false), .move (.tmp 1), 71, none, true⟩, []),
  (⟨some (69, false), .nilCheck (.tmp 68), 0, none, true⟩, []),
  (⟨some (70, false), .fieldAddr 35 (.tmp 69) 0, 0, none, true⟩, []),
  (⟨some (71, false), .load 3 (.tmp 70), 3, none, true⟩, []),
  (⟨some (72, false), .call { callee := .value (.func 24), args := #[.tmp 67, .const (.int .i64 15), .tmp 71], argTypes := #[49, 25, 3] }, 0, none, false⟩, [])]
theorem dec_more_r12_go {K : Env → Heap → Prop} {τ ρ : Env} {h : Heap} : vcDraw Try.prog K dec_more_r12 τ ρ h = vcDraw Try.prog K [
  (⟨some (66, false), .fieldAddr 52 (.tmp 3) 0, 0, none, true⟩, []),
  (⟨some (67, false), .load 49 (.tmp 66), 49, none, true⟩, []),
  (⟨some (68, false), .move (.tmp 1), 71, none, true⟩, []),
  (⟨some (69, false), .nilCheck (.tmp 68), 0, none, true⟩, []),
  (⟨some (70, false), .fieldAddr 35 (.tmp 69) 0, 0, none, true⟩, []),
  (⟨some (71, false), .load 3 (.tmp 70), 3, none, true⟩, []),
  (⟨some (72, false), .call { callee := .value (.func 24), args := #[.tmp 67, .const (.int .i64 15), .tmp 71], argTypes := #[49, 25, 3] }, 0, none, false⟩, [])] τ ρ h := _root_.id rfl
def dec_more_r13 : List Sop := [
  ⟨some (74, false), .binOp .eql 3 (.tmp 6) (.const (.int .i64 14)) 3, 4, none, true⟩,
  ⟨some (73, true), .assign (.tmp 74), 4, none, true⟩]
theorem dec_more_r13_go {K : Env → Heap → Prop} {τ ρ : Env} {h : Heap} : vcOps Try.prog K dec_more_r13 τ ρ h = vcOps Try.prog K [
  ⟨some (74, false), .binOp .eql 3 (.tmp 6) (.const (.int .i64 14)) 3, 4, none, true⟩,
  ⟨some (73, true), .assign (.tmp 74), 4, none, true⟩] τ ρ h := _root_.id rfl
def dec_more_r14 : List (Sop × List Sop) := [
  (⟨some (75, false), .move (.tmp 1), 71, none, true⟩, []),
  (⟨some (76, false), .move (.tmp 1), 71, none, true⟩, []),
  (⟨some (77, false), .fieldAddr 52 (.tmp 3) 0, 0, none, true⟩, []),
  (⟨some (78, false), .load 49 (.tmp 77), 49, none, true⟩, []),
  (⟨some (80, false), .fieldAddr 52 (.tmp 3) 0, 0, none, true⟩, []),
  (⟨some (81, false), .load 49 (.tmp 80), 49, none, true⟩, []),
  (⟨some (79, false), .call { callee := .value (.func 35), args := #[.tmp 78, .const (.int .i64 2)], argTypes := #[49, 3] }, 3, none, false⟩, [⟨some (80, false), .fieldAddr 52 (.tmp 3) 0, 0, none, true⟩, ⟨some (81, false), .load 49 (.tmp 80), 49, none, true⟩]),
  (⟨some (82, false), .call { callee := .value (.func 35), args := #[.tmp 81, .const (.int .i64 1)], argTypes := #[49, 3] }, 3, none, false⟩, []),
  (⟨some (83, false), .nilCheck (.tmp 75), 0, none, true⟩, []),
  (⟨some (84, false), .fieldAddr 35 (.tmp 83) 3, 0, none, true⟩, []),
  (⟨none, .store 3 (.tmp 84) (.tmp 79), 0, none, false⟩, []),
  (⟨some (85, false), .nilCheck (.tmp 76), 0, none, true⟩, []),
  (⟨some (86, false), .fieldAddr 35 (.tmp 85) 4, 0, none, true⟩, []),
  (⟨none, .store 3 (.tmp 86) (.tmp 82), 0, none, false⟩, [])]
theorem dec_more_r14_go {K : Env → Heap → Prop} {τ ρ : Env} {h : Heap} : vcDraw Try.prog K dec_more_r14 τ ρ h = vcDraw Try.prog K [
  (⟨some (75, false), .move (.tmp 1), 71, none, true⟩, []),
  (⟨some (76, false), .move (.tmp 1), 71, none, true⟩, []),
  (⟨some (77, false), .fieldAddr 52 (.tmp 3) 0, 0, none, true⟩, []),
  (⟨some (78, false), .load 49 (.tmp 77), 49, none, true⟩, []),
  (⟨some (80, false), .fieldAddr 52 (.tmp 3) 0, 0, none, true⟩, []),
  (⟨some (81, false), .load 49 (.tmp 80), 49, none, true⟩, []),
  (⟨some (79, false), .call { callee := .value (.func 35), args := #[.tmp 78, .const (.int .i64 2)], argTypes := #[49, 3] }, 3, none, false⟩, [⟨some (80, false), .fieldAddr 52 (.tmp 3) 0, 0, none, true⟩, ⟨some (81, false), .load 49 (.tmp 80), 49, none, true⟩]),
  (⟨some (82, false), .call { callee := .value (.func 35), args := #[.tmp 81, .const (.int .i64 1)], argTypes := #[49, 3] }, 3, none, false⟩, []),
  (⟨some (83, false), .nilCheck (.tmp 75), 0, none, true⟩, []),
  (⟨some (84, false), .fieldAddr 35 (.tmp 83) 3, 0, none, true⟩, []),
  (⟨none, .store 3 (.tmp 84) (.tmp 79), 0, none, false⟩, []),
  (⟨some (85, false), .nilCheck (.tmp 76), 0, none, true⟩, []),
  (⟨some (86, false), .fieldAddr 35 (.tmp 85) 4, 0, none, true⟩, []),
  (⟨none, .store 3 (.tmp 86) (.tmp 82), 0, none, false⟩, [])] τ ρ h := _root_.id rfl
def dec_more_r15 : List Sop := [
  ⟨some (87, false), .move (.tmp 1), 71, none, true⟩,
  ⟨some (88, false), .nilCheck (.tmp 87), 0, none, true⟩,
  ⟨some (89, false), .fieldAddr 35 (.tmp 88) 4, 0, none, true⟩,
  ⟨some (90, false), .load 3 (.tmp 89), 3, none, true⟩,
  ⟨some (91, true), .binOp .eql 3 (.tmp 90) (.const (.int .i64 0)) 3, 4, none, true⟩]
theorem dec_more_r15_go {K : Env → Heap → Prop} {τ ρ : Env} {h : Heap} : vcOps Try.prog K dec_more_r15 τ ρ h = vcOps Try.prog K [
  ⟨some (87, false), .move (.tmp 1), 71, none, true⟩,
  ⟨some (88, false), .nilCheck (.tmp 87), 0, none, true⟩,
  ⟨some (89, false), .fieldAddr 35 (.tmp 88) 4, 0, none, true⟩,
  ⟨some (90, false), .load 3 (.tmp 89), 3, none, true⟩,
  ⟨some (91, true), .binOp .eql 3 (.tmp 90) (.const (.int .i64 0)) 3, 4, none, true⟩] τ ρ h := _root_.id rfl
def dec_more_r16 : List (Sop × List Sop) := [
  (⟨some (92, false), .fieldAddr 52 (.tmp 3) 0, 0, none, true⟩, []),
  (⟨some (93, false), .load 49 (.tmp 92), 49, none, true⟩, []),
  (⟨some (94, false), .move (.tmp 1), 71, none, true⟩, []),
  (⟨some (95, false), .nilCheck (.tmp 94), 0, none, true⟩, []),
  (⟨some (96, false), .fieldAddr 35 (.tmp 95) 0, 0, none, true⟩, []),
  (⟨some (97, false), .load 3 (.tmp 96), 3, none, true⟩, []),
  (⟨some (98, false), .call { callee := .value (.func 24), args := #[.tmp 93, .const (.int .i64 15), .tmp 97], argTypes := #[49, 25, 3] }, 0, none, false⟩, [])]
theorem dec_more_r16_go {K : Env → Heap → Prop} {τ ρ : Env} {h : Heap} : vcDraw Try.prog K dec_more_r16 τ ρ h = vcDraw Try.prog K [
  (⟨some (92, false), .fieldAddr 52 (.tmp 3) 0, 0, none, true⟩, []),
  (⟨some (93, false), .load 49 (.tmp 92), 49, none, true⟩, []),
  (⟨some (94, false), .move (.tmp 1), 71, none, true⟩, []),
  (⟨some (95, false), .nilCheck (.tmp 94), 0, none, true⟩, []),
  (⟨some (96, false), .fieldAddr 35 (.tmp 95) 0, 0, none, true⟩, []),
  (⟨some (97, false), .load 3 (.tmp 96), 3, none, true⟩, []),
  (⟨some (98, false), .call { callee := .value (.func 24), args := #[.tmp 93, .const (.int .i64 15), .tmp 97], argTypes := #[49, 25, 3] }, 0, none, false⟩, [])] τ ρ h := _root_.id rfl
def dec_more : Cd := .seq (.region dec_more_r0) (.seq (.region dec_more_r1) (.block 0 (.seq (.seq (.region dec_more_r2) (.cond (.tmp 7) (.skip) (.region dec_more_r3))) (.cond (.tmp 7) (.region dec_more_r4) (.seq (.region dec_more_r5) (.cond (.tmp 14) (.seq (.draw dec_more_r6) (.seq (.region dec_more_r7) (.cond (.tmp 38) (.draw dec_more_r8) (.skip)))) (.seq (.region dec_more_r9) (.cond (.tmp 46) (.seq (.region dec_more_r10) (.seq (.region dec_more_r11) (.cond (.tmp 65) (.draw dec_more_r12) (.skip)))) (.seq (.region dec_more_r13) (.cond (.tmp 73) (.seq (.draw dec_more_r14) (.seq (.region dec_more_r15) (.cond (.tmp 91) (.draw dec_more_r16) (.skip)))) (.skip)))))))))))
theorem dec_more_go {Q : Ex → Env → Heap → Prop} {ρ : Env} {h : Heap} : Cd.vc Try.prog dec_more Q ρ h = Cd.vc Try.prog (.seq (.region dec_more_r0) (.seq (.region dec_more_r1) (.block 0 (.seq (.seq (.region dec_more_r2) (.cond (.tmp 7) (.skip) (.region dec_more_r3))) (.cond (.tmp 7) (.region dec_more_r4) (.seq (.region dec_more_r5) (.cond (.tmp 14) (.seq (.draw dec_more_r6) (.seq (.region dec_more_r7) (.cond (.tmp 38) (.draw dec_more_r8) (.skip)))) (.seq (.region dec_more_r9) (.cond (.tmp 46) (.seq (.region dec_more_r10) (.seq (.region dec_more_r11) (.cond (.tmp 65) (.draw dec_more_r12) (.skip)))) (.seq (.region dec_more_r13) (.cond (.tmp 73) (.seq (.draw dec_more_r14) (.seq (.region dec_more_r15) (.cond (.tmp 91) (.draw dec_more_r16) (.skip)))) (.skip)))))))))))) Q ρ h := _root_.id rfl
theorem dec_more_calls {args : List Value} {h : Heap} {R : Value → Heap → Prop} (hl : args.length = 3) (hv : Cd.vc Try.prog dec_more (retQ Try.prog [] R) (initEnv args [0, 1, 2, 3, 6, 7, 14, 38, 46, 65, 73, 91]) h) : HCalls Try.prog 37 args.toArray h R :=
  hcalls_of_vc (by kernel_rfl) Try.func37 (cd := dec_more) (L := [0, 1, 2, 3, 6, 7, 14, 38, 46, 65, 73, 91]) (by kernel_rfl) (by kernel_rfl) ⟨by rw [hl, Try.ntmps37]; decide, by rw [Try.ntmps37]; decide⟩ hv
def dec_more_gos := And.intro @dec_more_go (And.intro @dec_more_r0_go (And.intro @dec_more_r1_go (And.intro @dec_more_r2_go (And.intro @dec_more_r3_go (And.intro @dec_more_r4_go (And.intro @dec_more_r5_go (And.intro @dec_more_r6_go (And.intro @dec_more_r7_go (And.intro @dec_more_r8_go (And.intro @dec_more_r9_go (And.intro @dec_more_r10_go (And.intro @dec_more_r11_go (And.intro @dec_more_r12_go (And.intro @dec_more_r13_go (And.intro @dec_more_r14_go (And.intro @dec_more_r15_go (@dec_more_r16_go)))))))))))))))))

/-! (jvmcore/code.decoder).one: function 23: slots [0, 1, 2, 3, 4, 5, 18, 33, 41, 42, 46, 53, 58, 63, 69, 75, 82, 93, 102] -/
def dec_one_r0 : List Sop := [
  ⟨some (1, true), .box 52 (.tmp 0), 0, none, false⟩,
  ⟨some (2, true), .alloc 35, 0, none, false⟩]
theorem dec_one_r0_go {K : Env → Heap → Prop} {τ ρ : Env} {h : Heap} : vcOps Try.prog K dec_one_r0 τ ρ h = vcOps Try.prog K [
  ⟨some (1, true), .box 52 (.tmp 0), 0, none, false⟩,
  ⟨some (2, true), .alloc 35, 0, none, false⟩] τ ρ h := _root_.id rfl
def dec_one_r1 : Dt :=
  .run ⟨some (6, false), .fieldAddr 52 (.tmp 1) 0, 0, none, true⟩ [] (
  .run ⟨some (7, false), .load 49 (.tmp 6), 49, none, true⟩ [] (
  .run ⟨some (9, false), .fieldAddr 52 (.tmp 1) 0, 0, none, true⟩ [] (
  .run ⟨some (10, false), .load 49 (.tmp 9), 49, none, true⟩ [] (
  .both (.run ⟨some (8, false), .call { callee := .value (.func 22), args := #[.tmp 7], argTypes := #[49] }, 3, none, false⟩ [⟨some (9, false), .fieldAddr 52 (.tmp 1) 0, 0, none, true⟩, ⟨some (10, false), .load 49 (.tmp 9), 49, none, true⟩] (
  .both (.run ⟨some (11, false), .call { callee := .value (.func 35), args := #[.tmp 10, .const (.int .i64 1)], argTypes := #[49, 3] }, 3, none, false⟩ [] (
  .run ⟨some (12, false), .convert 3 5 (.tmp 11), 5, none, true⟩ [] (
  .run ⟨some (13, false), .build 35 #[(0, .tmp 8), (1, .tmp 12)], 35, none, true⟩ [] (
  .run ⟨some (3, true), .alloc 35, 0, none, false⟩ [⟨some (6, false), .fieldAddr 52 (.tmp 1) 0, 0, none, true⟩, ⟨some (7, false), .load 49 (.tmp 6), 49, none, true⟩, ⟨some (9, false), .fieldAddr 52 (.tmp 1) 0, 0, none, true⟩, ⟨some (10, false), .load 49 (.tmp 9), 49, none, true⟩, ⟨some (12, false), .convert 3 5 (.tmp 11), 5, none, true⟩, ⟨some (13, false), .build 35 #[(0, .tmp 8), (1, .tmp 12)], 35, none, true⟩] (
  .run ⟨none, .store 35 (.tmp 3) (.tmp 13), 0, none, false⟩ [] (
  .done)))))) (.run ⟨some (3, true), .alloc 35, 0, none, false⟩ [⟨some (6, false), .fieldAddr 52 (.tmp 1) 0, 0, none, true⟩, ⟨some (7, false), .load 49 (.tmp 6), 49, none, true⟩, ⟨some (9, false), .fieldAddr 52 (.tmp 1) 0, 0, none, true⟩, ⟨some (10, false), .load 49 (.tmp 9), 49, none, true⟩] (
  .run ⟨some (11, false), .call { callee := .value (.func 35), args := #[.tmp 10, .const (.int .i64 1)], argTypes := #[49, 3] }, 3, none, false⟩ [] (
  .run ⟨some (12, false), .convert 3 5 (.tmp 11), 5, none, true⟩ [] (
  .run ⟨some (13, false), .build 35 #[(0, .tmp 8), (1, .tmp 12)], 35, none, true⟩ [] (
  .run ⟨none, .store 35 (.tmp 3) (.tmp 13), 0, none, false⟩ [] (
  .done)))))))) (.run ⟨some (3, true), .alloc 35, 0, none, false⟩ [⟨some (6, false), .fieldAddr 52 (.tmp 1) 0, 0, none, true⟩, ⟨some (7, false), .load 49 (.tmp 6), 49, none, true⟩, ⟨some (9, false), .fieldAddr 52 (.tmp 1) 0, 0, none, true⟩, ⟨some (10, false), .load 49 (.tmp 9), 49, none, true⟩] (
  .run ⟨some (8, false), .call { callee := .value (.func 22), args := #[.tmp 7], argTypes := #[49] }, 3, none, false⟩ [⟨some (9, false), .fieldAddr 52 (.tmp 1) 0, 0, none, true⟩, ⟨some (10, false), .load 49 (.tmp 9), 49, none, true⟩] (
  .run ⟨some (11, false), .call { callee := .value (.func 35), args := #[.tmp 10, .const (.int .i64 1)], argTypes := #[49, 3] }, 3, none, false⟩ [] (
  .run ⟨some (12, false), .convert 3 5 (.tmp 11), 5, none, true⟩ [] (
  .run ⟨some (13, false), .build 35 #[(0, .tmp 8), (1, .tmp 12)], 35, none, true⟩ [] (
  .run ⟨none, .store 35 (.tmp 3) (.tmp 13), 0, none, false⟩ [] (
  .done)))))))))))
theorem dec_one_r1_go {K : Env → Heap → Prop} {τ ρ : Env} {h : Heap} : vcT Try.prog K dec_one_r1 τ ρ h = vcT Try.prog K (
  .run ⟨some (6, false), .fieldAddr 52 (.tmp 1) 0, 0, none, true⟩ [] (
  .run ⟨some (7, false), .load 49 (.tmp 6), 49, none, true⟩ [] (
  .run ⟨some (9, false), .fieldAddr 52 (.tmp 1) 0, 0, none, true⟩ [] (
  .run ⟨some (10, false), .load 49 (.tmp 9), 49, none, true⟩ [] (
  .both (.run ⟨some (8, false), .call { callee := .value (.func 22), args := #[.tmp 7], argTypes := #[49] }, 3, none, false⟩ [⟨some (9, false), .fieldAddr 52 (.tmp 1) 0, 0, none, true⟩, ⟨some (10, false), .load 49 (.tmp 9), 49, none, true⟩] (
  .both (.run ⟨some (11, false), .call { callee := .value (.func 35), args := #[.tmp 10, .const (.int .i64 1)], argTypes := #[49, 3] }, 3, none, false⟩ [] (
  .run ⟨some (12, false), .convert 3 5 (.tmp 11), 5, none, true⟩ [] (
  .run ⟨some (13, false), .build 35 #[(0, .tmp 8), (1, .tmp 12)], 35, none, true⟩ [] (
  .run ⟨some (3, true), .alloc 35, 0, none, false⟩ [⟨some (6, false), .fieldAddr 52 (.tmp 1) 0, 0, none, true⟩, ⟨some (7, false), .load 49 (.tmp 6), 49, none, true⟩, ⟨some (9, false), .fieldAddr 52 (.tmp 1) 0, 0, none, true⟩, ⟨some (10, false), .load 49 (.tmp 9), 49, none, true⟩, ⟨some (12, false), .convert 3 5 (.tmp 11), 5, none, true⟩, ⟨some (13, false), .build 35 #[(0, .tmp 8), (1, .tmp 12)], 35, none, true⟩] (
  .run ⟨none, .store 35 (.tmp 3) (.tmp 13), 0, none, false⟩ [] (
  .done)))))) (.run ⟨some (3, true), .alloc 35, 0, none, false⟩ [⟨some (6, false), .fieldAddr 52 (.tmp 1) 0, 0, none, true⟩, ⟨some (7, false), .load 49 (.tmp 6), 49, none, true⟩, ⟨some (9, false), .fieldAddr 52 (.tmp 1) 0, 0, none, true⟩, ⟨some (10, false), .load 49 (.tmp 9), 49, none, true⟩] (
  .run ⟨some (11, false), .call { callee := .value (.func 35), args := #[.tmp 10, .const (.int .i64 1)], argTypes := #[49, 3] }, 3, none, false⟩ [] (
  .run ⟨some (12, false), .convert 3 5 (.tmp 11), 5, none, true⟩ [] (
  .run ⟨some (13, false), .build 35 #[(0, .tmp 8), (1, .tmp 12)], 35, none, true⟩ [] (
  .run ⟨none, .store 35 (.tmp 3) (.tmp 13), 0, none, false⟩ [] (
  .done)))))))) (.run ⟨some (3, true), .alloc 35, 0, none, false⟩ [⟨some (6, false), .fieldAddr 52 (.tmp 1) 0, 0, none, true⟩, ⟨some (7, false), .load 49 (.tmp 6), 49, none, true⟩, ⟨some (9, false), .fieldAddr 52 (.tmp 1) 0, 0, none, true⟩, ⟨some (10, false), .load 49 (.tmp 9), 49, none, true⟩] (
  .run ⟨some (8, false), .call { callee := .value (.func 22), args := #[.tmp 7], argTypes := #[49] }, 3, none, false⟩ [⟨some (9, false), .fieldAddr 52 (.tmp 1) 0, 0, none, true⟩, ⟨some (10, false), .load 49 (.tmp 9), 49, none, true⟩] (
  .run ⟨some (11, false), .call { callee := .value (.func 35), args := #[.tmp 10, .const (.int .i64 1)], argTypes := #[49, 3] }, 3, none, false⟩ [] (
  .run ⟨some (12, false), .convert 3 5 (.tmp 11), 5, none, true⟩ [] (
  .run ⟨some (13, false), .build 35 #[(0, .tmp 8), (1, .tmp 12)], 35, none, true⟩ [] (
  .run ⟨none, .store 35 (.tmp 3) (.tmp 13), 0, none, false⟩ [] (
  .done)))))))))))) τ ρ h := _root_.id rfl
def dec_one_r2 : List Sop := [
  ⟨some (14, false), .fieldAddr 35 (.tmp 3) 1, 0, none, true⟩,
  ⟨some (15, false), .load 5 (.tmp 14), 5, none, true⟩,
  ⟨some (16, false), .call { callee := .value (.func 14), args := #[.tmp 15], argTypes := #[5] }, 3, none, false⟩,
  ⟨some (4, true), .assign (.tmp 16), 3, none, true⟩]
theorem dec_one_r2_go {K : Env → Heap → Prop} {τ ρ : Env} {h : Heap} : vcOps Try.prog K dec_one_r2 τ ρ h = vcOps Try.prog K [
  ⟨some (14, false), .fieldAddr 35 (.tmp 3) 1, 0, none, true⟩,
  ⟨some (15, false), .load 5 (.tmp 14), 5, none, true⟩,
  ⟨some (16, false), .call { callee := .value (.func 14), args := #[.tmp 15], argTypes := #[5] }, 3, none, false⟩,
  ⟨some (4, true), .assign (.tmp 16), 3, none, true⟩] τ ρ h := _root_.id rfl
def dec_one_r3 : List Sop := [
  ⟨some (17, false), .move (.tmp 4), 3, none, true⟩,
  ⟨some (18, true), .binOp .eql 3 (.tmp 17) (.const (.int .i64 15)) 3, 4, none, true⟩]
theorem dec_one_r3_go {K : Env → Heap → Prop} {τ ρ : Env} {h : Heap} : vcOps Try.prog K dec_one_r3 τ ρ h = vcOps Try.prog K [
  ⟨some (17, false), .move (.tmp 4), 3, none, true⟩,
  ⟨some (18, true), .binOp .eql 3 (.tmp 17) (.const (.int .i64 15)) 3, 4, none, true⟩] τ ρ h := _root_.id rfl
def dec_one_r4 : List Sop := [
  ⟨some (19, false), .fieldAddr 35 (.tmp 3) 2, 0, none, true⟩,
  ⟨none, .store 4 (.tmp 19) (.const (.bool true)), 0, none, false⟩]
theorem dec_one_r4_go {K : Env → Heap → Prop} {τ ρ : Env} {h : Heap} : vcOps Try.prog K dec_one_r4 τ ρ h = vcOps Try.prog K [
  ⟨some (19, false), .fieldAddr 35 (.tmp 3) 2, 0, none, true⟩,
  ⟨none, .store 4 (.tmp 19) (.const (.bool true)), 0, none, false⟩] τ ρ h := _root_.id rfl
def dec_one_r5 : List Sop := [
  ⟨some (20, false), .fieldAddr 52 (.tmp 1) 0, 0, none, true⟩,
  ⟨some (21, false), .load 49 (.tmp 20), 49, none, true⟩,
  ⟨some (22, false), .call { callee := .value (.func 35), args := #[.tmp 21, .const (.int .i64 1)], argTypes := #[49, 3] }, 3, none, false⟩,
  ⟨some (23, false), .convert 3 5 (.tmp 22), 5, none, true⟩,
  ⟨some (24, false), .fieldAddr 35 (.tmp 3) 1, 0, none, true⟩,
  ⟨none, .store 5 (.tmp 24) (.tmp 23), 0, none, false⟩]
theorem dec_one_r5_go {K : Env → Heap → Prop} {τ ρ : Env} {h : Heap} : vcOps Try.prog K dec_one_r5 τ ρ h = vcOps Try.prog K [
  ⟨some (20, false), .fieldAddr 52 (.tmp 1) 0, 0, none, true⟩,
  ⟨some (21, false), .load 49 (.tmp 20), 49, none, true⟩,
  ⟨some (22, false), .call { callee := .value (.func 35), args := #[.tmp 21, .const (.int .i64 1)], argTypes := #[49, 3] }, 3, none, false⟩,
  ⟨some (23, false), .convert 3 5 (.tmp 22), 5, none, true⟩,
  ⟨some (24, false), .fieldAddr 35 (.tmp 3) 1, 0, none, true⟩,
  ⟨none, .store 5 (.tmp 24) (.tmp 23), 0, none, false⟩] τ ρ h := _root_.id rfl
def dec_one_r6 : List Sop := [
  ⟨some (25, false), .fieldAddr 35 (.tmp 3) 1, 0, none, true⟩,
  ⟨some (26, false), .load 5 (.tmp 25), 5, none, true⟩,
  ⟨some (27, false), .call { callee := .value (.func 14), args := #[.tmp 26], argTypes := #[5] }, 3, none, false⟩,
  ⟨some (4, true), .assign (.tmp 27), 3, none, true⟩]
theorem dec_one_r6_go {K : Env → Heap → Prop} {τ ρ : Env} {h : Heap} : vcOps Try.prog K dec_one_r6 τ ρ h = vcOps Try.prog K [
  ⟨some (25, false), .fieldAddr 35 (.tmp 3) 1, 0, none, true⟩,
  ⟨some (26, false), .load 5 (.tmp 25), 5, none, true⟩,
  ⟨some (27, false), .call { callee := .value (.func 14), args := #[.tmp 26], argTypes := #[5] }, 3, none, false⟩,
  ⟨some (4, true), .assign (.tmp 27), 3, none, true⟩] τ ρ h := _root_.id rfl
def dec_one_r7 : List Sop := [
  ⟨some (28, false), .move (.tmp 4), 3, none, true⟩,
  ⟨some (29, false), .binOp .neq 3 (.tmp 28) (.const (.int .i64 6)) 3, 4, none, true⟩,
  ⟨some (30, false), .move (.tmp 29), 4, none, true⟩,
  ⟨some (31, false), .move (.tmp 4), 3, some (30, true), true⟩,
  ⟨some (32, false), .binOp .neq 3 (.tmp 31) (.const (.int .i64 7)) 3, 4, some (30, true), true⟩,
  ⟨some (33, true), .pick (.tmp 30) (.tmp 32) (.const (.bool false)), 4, none, true⟩]
theorem dec_one_r7_go {K : Env → Heap → Prop} {τ ρ : Env} {h : Heap} : vcOps Try.prog K dec_one_r7 τ ρ h = vcOps Try.prog K [
  ⟨some (28, false), .move (.tmp 4), 3, none, true⟩,
  ⟨some (29, false), .binOp .neq 3 (.tmp 28) (.const (.int .i64 6)) 3, 4, none, true⟩,
  ⟨some (30, false), .move (.tmp 29), 4, none, true⟩,
  ⟨some (31, false), .move (.tmp 4), 3, some (30, true), true⟩,
  ⟨some (32, false), .binOp .neq 3 (.tmp 31) (.const (.int .i64 7)) 3, 4, some (30, true), true⟩,
  ⟨some (33, true), .pick (.tmp 30) (.tmp 32) (.const (.bool false)), 4, none, true⟩] τ ρ h := _root_.id rfl
def dec_one_r8 : List Sop := [
  ⟨some (34, false), .fieldAddr 52 (.tmp 1) 0, 0, none, true⟩,
  ⟨some (35, false), .load 49 (.tmp 34), 49, none, true⟩,
  ⟨some (36, false), .fieldAddr 35 (.tmp 3) 0, 0, none, true⟩,
  ⟨some (37, false), .load 3 (.tmp 36), 3, none, true⟩,
  ⟨some (38, false), .call { callee := .value (.func 24), args := #[.tmp 35, .const (.int .i64 14), .tmp 37], argTypes := #[49, 25, 3] }, 0, none, false⟩]
theorem dec_one_r8_go {K : Env → Heap → Prop} {τ ρ : Env} {h : Heap} : vcOps Try.prog K dec_one_r8 τ ρ h = vcOps Try.prog K [
  ⟨some (34, false), .fieldAddr 52 (.tmp 1) 0, 0, none, true⟩,
  ⟨some (35, false), .load 49 (.tmp 34), 49, none, true⟩,
  ⟨some (36, false), .fieldAddr 35 (.tmp 3) 0, 0, none, true⟩,
  ⟨some (37, false), .load 3 (.tmp 36), 3, none, true⟩,
  ⟨some (38, false), .call { callee := .value (.func 24), args := #[.tmp 35, .const (.int .i64 14), .tmp 37], argTypes := #[49, 25, 3] }, 0, none, false⟩] τ ρ h := _root_.id rfl
def dec_one_r9 : List Sop := [
  ⟨some (39, false), .load 35 (.tmp 3), 35, none, true⟩,
  ⟨none, .store 35 (.tmp 2) (.tmp 39), 0, none, false⟩]
theorem dec_one_r9_go {K : Env → Heap → Prop} {τ ρ : Env} {h : Heap} : vcOps Try.prog K dec_one_r9 τ ρ h = vcOps Try.prog K [
  ⟨some (39, false), .load 35 (.tmp 3), 35, none, true⟩,
  ⟨none, .store 35 (.tmp 2) (.tmp 39), 0, none, false⟩] τ ρ h := _root_.id rfl
def dec_one_r10 : List Sop := [
  ⟨some (5, true), .assign (.const (.int .i64 1)), 3, none, true⟩]
theorem dec_one_r10_go {K : Env → Heap → Prop} {τ ρ : Env} {h : Heap} : vcOps Try.prog K dec_one_r10 τ ρ h = vcOps Try.prog K [
  ⟨some (5, true), .assign (.const (.int .i64 1)), 3, none, true⟩] τ ρ h := _root_.id rfl
def dec_one_r11 : List Sop := [
  ⟨some (40, false), .fieldAddr 35 (.tmp 3) 2, 0, none, true⟩,
  ⟨some (41, true), .load 4 (.tmp 40), 4, none, true⟩]
theorem dec_one_r11_go {K : Env → Heap → Prop} {τ ρ : Env} {h : Heap} : vcOps Try.prog K dec_one_r11 τ ρ h = vcOps Try.prog K [
  ⟨some (40, false), .fieldAddr 35 (.tmp 3) 2, 0, none, true⟩,
  ⟨some (41, true), .load 4 (.tmp 40), 4, none, true⟩] τ ρ h := _root_.id rfl
def dec_one_r12 : List Sop := [
  ⟨some (5, true), .assign (.const (.int .i64 2)), 3, none, true⟩]
theorem dec_one_r12_go {K : Env → Heap → Prop} {τ ρ : Env} {h : Heap} : vcOps Try.prog K dec_one_r12 τ ρ h = vcOps Try.prog K [
  ⟨some (5, true), .assign (.const (.int .i64 2)), 3, none, true⟩] τ ρ h := _root_.id rfl
def dec_one_r13 : List Sop := [
  ⟨some (42, true), .move (.tmp 4), 3, none, true⟩]
theorem dec_one_r13_go {K : Env → Heap → Prop} {τ ρ : Env} {h : Heap} : vcOps Try.prog K dec_one_r13 τ ρ h = vcOps Try.prog K [
  ⟨some (42, true), .move (.tmp 4), 3, none, true⟩] τ ρ h := _root_.id rfl
def dec_one_r14 : List Sop := [
  ⟨some (47, false), .binOp .eql 3 (.tmp 42) (.const (.int .i64 1)) 3, 4, none, true⟩,
  ⟨some (46, true), .assign (.tmp 47), 4, none, true⟩]
theorem dec_one_r14_go {K : Env → Heap → Prop} {τ ρ : Env} {h : Heap} : vcOps Try.prog K dec_one_r14 τ ρ h = vcOps Try.prog K [
  ⟨some (47, false), .binOp .eql 3 (.tmp 42) (.const (.int .i64 1)) 3, 4, none, true⟩,
  ⟨some (46, true), .assign (.tmp 47), 4, none, true⟩] τ ρ h := _root_.id rfl
def dec_one_r15 : List Sop := [
  ⟨some (48, false), .fieldAddr 52 (.tmp 1) 0, 0, none, true⟩,
  ⟨some (49, false), .load 49 (.tmp 48), 49, none, true⟩,
  ⟨some (50, false), .fieldAddr 35 (.tmp 3) 0, 0, none, true⟩,
  ⟨some (51, false), .load 3 (.tmp 50), 3, none, true⟩,
  ⟨some (52, false), .call { callee := .value (.func 24), args := #[.tmp 49, .const (.int .i64 14), .tmp 51], argTypes := #[49, 25, 3] }, 0, none, false⟩]
theorem dec_one_r15_go {K : Env → Heap → Prop} {τ ρ : Env} {h : Heap} : vcOps Try.prog K dec_one_r15 τ ρ h = vcOps Try.prog K [
  ⟨some (48, false), .fieldAddr 52 (.tmp 1) 0, 0, none, true⟩,
  ⟨some (49, false), .load 49 (.tmp 48), 49, none, true⟩,
  ⟨some (50, false), .fieldAddr 35 (.tmp 3) 0, 0, none, true⟩,
  ⟨some (51, false), .load 3 (.tmp 50), 3, none, true⟩,
  ⟨some (52, false), .call { callee := .value (.func 24), args := #[.tmp 49, .const (.int .i64 14), .tmp 51], argTypes := #[49, 25, 3] }, 0, none, false⟩] τ ρ h := _root_.id rfl
def dec_one_r16 : List Sop := [
  ⟨some (54, false), .binOp .eql 3 (.tmp 42) (.const (.int .i64 2)) 3, 4, none, true⟩,
  ⟨some (53, true), .assign (.tmp 54), 4, none, true⟩]
theorem dec_one_r16_go {K : Env → Heap → Prop} {τ ρ : Env} {h : Heap} : vcOps Try.prog K dec_one_r16 τ ρ h = vcOps Try.prog K [
  ⟨some (54, false), .binOp .eql 3 (.tmp 42) (.const (.int .i64 2)) 3, 4, none, true⟩,
  ⟨some (53, true), .assign (.tmp 54), 4, none, true⟩] τ ρ h := _root_.id rfl
def dec_one_r17 : List Sop := [
  ⟨some (55, false), .load 52 (.tmp 1), 52, none, true⟩,
  ⟨some (56, false), .call { callee := .value (.func 36), args := #[.tmp 55, .const (.int .i64 1)], argTypes := #[52, 3] }, 3, none, false⟩,
  ⟨some (57, false), .fieldAddr 35 (.tmp 3) 3, 0, none, true⟩,
  ⟨none, .store 3 (.tmp 57) (.tmp 56), 0, none, false⟩]
theorem dec_one_r17_go {K : Env → Heap → Prop} {τ ρ : Env} {h : Heap} : vcOps Try.prog K dec_one_r17 τ ρ h = vcOps Try.prog K [
  ⟨some (55, false), .load 52 (.tmp 1), 52, none, true⟩,
  ⟨some (56, false), .call { callee := .value (.func 36), args := #[.tmp 55, .const (.int .i64 1)], argTypes := #[52, 3] }, 3, none, false⟩,
  ⟨some (57, false), .fieldAddr 35 (.tmp 3) 3, 0, none, true⟩,
  ⟨none, .store 3 (.tmp 57) (.tmp 56), 0, none, false⟩] τ ρ h := _root_.id rfl
def dec_one_r18 : List Sop := [
  ⟨some (59, false), .binOp .eql 3 (.tmp 42) (.const (.int .i64 3)) 3, 4, none, true⟩,
  ⟨some (58, true), .assign (.tmp 59), 4, none, true⟩]
theorem dec_one_r18_go {K : Env → Heap → Prop} {τ ρ : Env} {h : Heap} : vcOps Try.prog K dec_one_r18 τ ρ h = vcOps Try.prog K [
  ⟨some (59, false), .binOp .eql 3 (.tmp 42) (.const (.int .i64 3)) 3, 4, none, true⟩,
  ⟨some (58, true), .assign (.tmp 59), 4, none, true⟩] τ ρ h := _root_.id rfl
def dec_one_r19 : List Sop := [
  ⟨some (60, false), .load 52 (.tmp 1), 52, none, true⟩,
  ⟨some (61, false), .call { callee := .value (.func 36), args := #[.tmp 60, .const (.int .i64 2)], argTypes := #[52, 3] }, 3, none, false⟩,
  ⟨some (62, false), .fieldAddr 35 (.tmp 3) 3, 0, none, true⟩,
  ⟨none, .store 3 (.tmp 62) (.tmp 61), 0, none, false⟩]
theorem dec_one_r19_go {K : Env → Heap → Prop} {τ ρ : Env} {h : Heap} : vcOps Try.prog K dec_one_r19 τ ρ h = vcOps Try.prog K [
  ⟨some (60, false), .load 52 (.tmp 1), 52, none, true⟩,
  ⟨some (61, false), .call { callee := .value (.func 36), args := #[.tmp 60, .const (.int .i64 2)], argTypes := #[52, 3] }, 3, none, false⟩,
  ⟨some (62, false), .fieldAddr 35 (.tmp 3) 3, 0, none, true⟩,
  ⟨none, .store 3 (.tmp 62) (.tmp 61), 0, none, false⟩] τ ρ h := _root_.id rfl
def dec_one_r20 : List Sop := [
  ⟨some (64, false), .binOp .eql 3 (.tmp 42) (.const (.int .i64 4)) 3, 4, none, true⟩,
  ⟨some (63, true), .assign (.tmp 64), 4, none, true⟩]
theorem dec_one_r20_go {K : Env → Heap → Prop} {τ ρ : Env} {h : Heap} : vcOps Try.prog K dec_one_r20 τ ρ h = vcOps Try.prog K [
  ⟨some (64, false), .binOp .eql 3 (.tmp 42) (.const (.int .i64 4)) 3, 4, none, true⟩,
  ⟨some (63, true), .assign (.tmp 64), 4, none, true⟩] τ ρ h := _root_.id rfl
def dec_one_r21 : List Sop := [
  ⟨some (65, false), .fieldAddr 52 (.tmp 1) 0, 0, none, true⟩,
  ⟨some (66, false), .load 49 (.tmp 65), 49, none, true⟩,
  ⟨some (67, false), .call { callee := .value (.func 35), args := #[.tmp 66, .const (.int .i64 1)], argTypes := #[49, 3] }, 3, none, false⟩,
  ⟨some (68, false), .fieldAddr 35 (.tmp 3) 3, 0, none, true⟩,
  ⟨none, .store 3 (.tmp 68) (.tmp 67), 0, none, false⟩]
theorem dec_one_r21_go {K : Env → Heap → Prop} {τ ρ : Env} {h : Heap} : vcOps Try.prog K dec_one_r21 τ ρ h = vcOps Try.prog K [
  ⟨some (65, false), .fieldAddr 52 (.tmp 1) 0, 0, none, true⟩,
  ⟨some (66, false), .load 49 (.tmp 65), 49, none, true⟩,
  ⟨some (67, false), .call { callee := .value (.func 35), args := #[.tmp 66, .const (.int .i64 1)], argTypes := #[49, 3] }, 3, none, false⟩,
  ⟨some (68, false), .fieldAddr 35 (.tmp 3) 3, 0, none, true⟩,
  ⟨none, .store 3 (.tmp 68) (.tmp 67), 0, none, false⟩] τ ρ h := _root_.id rfl
def dec_one_r22 : List Sop := [
  ⟨some (70, false), .binOp .eql 3 (.tmp 42) (.const (.int .i64 5)) 3, 4, none, true⟩,
  ⟨some (69, true), .assign (.tmp 70), 4, none, true⟩]
theorem dec_one_r22_go {K : Env → Heap → Prop} {τ ρ : Env} {h : Heap} : vcOps Try.prog K dec_one_r22 τ ρ h = vcOps Try.prog K [
  ⟨some (70, false), .binOp .eql 3 (.tmp 42) (.const (.int .i64 5)) 3, 4, none, true⟩,
  ⟨some (69, true), .assign (.tmp 70), 4, none, true⟩] τ ρ h := _root_.id rfl
def dec_one_r23 : List Sop := [
  ⟨some (71, false), .fieldAddr 52 (.tmp 1) 0, 0, none, true⟩,
  ⟨some (72, false), .load 49 (.tmp 71), 49, none, true⟩,
  ⟨some (73, false), .call { callee := .value (.func 35), args := #[.tmp 72, .const (.int .i64 2)], argTypes := #[49, 3] }, 3, none, false⟩,
  ⟨some (74, false), .fieldAddr 35 (.tmp 3) 3, 0, none, true⟩,
  ⟨none, .store 3 (.tmp 74) (.tmp 73), 0, none, false⟩]
theorem dec_one_r23_go {K : Env → Heap → Prop} {τ ρ : Env} {h : Heap} : vcOps Try.prog K dec_one_r23 τ ρ h = vcOps Try.prog K [
  ⟨some (71, false), .fieldAddr 52 (.tmp 1) 0, 0, none, true⟩,
  ⟨some (72, false), .load 49 (.tmp 71), 49, none, true⟩,
  ⟨some (73, false), .call { callee := .value (.func 35), args := #[.tmp 72, .const (.int .i64 2)], argTypes := #[49, 3] }, 3, none, false⟩,
  ⟨some (74, false), .fieldAddr 35 (.tmp 3) 3, 0, none, true⟩,
  ⟨none, .store 3 (.tmp 74) (.tmp 73), 0, none, false⟩] τ ρ h := _root_.id rfl
def dec_one_r24 : List Sop := [
  ⟨some (76, false), .binOp .eql 3 (.tmp 42) (.const (.int .i64 6)) 3, 4, none, true⟩,
  ⟨some (75, true), .assign (.tmp 76), 4, none, true⟩]
theorem dec_one_r24_go {K : Env → Heap → Prop} {τ ρ : Env} {h : Heap} : vcOps Try.prog K dec_one_r24 τ ρ h = vcOps Try.prog K [
  ⟨some (76, false), .binOp .eql 3 (.tmp 42) (.const (.int .i64 6)) 3, 4, none, true⟩,
  ⟨some (75, true), .assign (.tmp 76), 4, none, true⟩] τ ρ h := _root_.id rfl
def dec_one_r25 : List Sop := [
  ⟨some (77, false), .fieldAddr 52 (.tmp 1) 0, 0, none, true⟩,
  ⟨some (78, false), .load 49 (.tmp 77), 49, none, true⟩,
  ⟨some (79, false), .move (.tmp 5), 3, none, true⟩,
  ⟨some (80, false), .call { callee := .value (.func 35), args := #[.tmp 78, .tmp 79], argTypes := #[49, 3] }, 3, none, false⟩,
  ⟨some (81, false), .fieldAddr 35 (.tmp 3) 3, 0, none, true⟩,
  ⟨none, .store 3 (.tmp 81) (.tmp 80), 0, none, false⟩]
theorem dec_one_r25_go {K : Env → Heap → Prop} {τ ρ : Env} {h : Heap} : vcOps Try.prog K dec_one_r25 τ ρ h = vcOps Try.prog K [
  ⟨some (77, false), .fieldAddr 52 (.tmp 1) 0, 0, none, true⟩,
  ⟨some (78, false), .load 49 (.tmp 77), 49, none, true⟩,
  ⟨some (79, false), .move (.tmp 5), 3, none, true⟩,
  ⟨some (80, false), .call { callee := .value (.func 35), args := #[.tmp 78, .tmp 79], argTypes := #[49, 3] }, 3, none, false⟩,
  ⟨some (81, false), .fieldAddr 35 (.tmp 3) 3, 0, none, true⟩,
  ⟨none, .store 3 (.tmp 81) (.tmp 80), 0, none, false⟩] τ ρ h := _root_.id rfl
def dec_one_r26 : List Sop := [
  ⟨some (83, false), .binOp .eql 3 (.tmp 42) (.const (.int .i64 7)) 3, 4, none, true⟩,
  ⟨some (82, true), .assign (.tmp 83), 4, none, true⟩]
theorem dec_one_r26_go {K : Env → Heap → Prop} {τ ρ : Env} {h : Heap} : vcOps Try.prog K dec_one_r26 τ ρ h = vcOps Try.prog K [
  ⟨some (83, false), .binOp .eql 3 (.tmp 42) (.const (.int .i64 7)) 3, 4, none, true⟩,
  ⟨some (82, true), .assign (.tmp 83), 4, none, true⟩] τ ρ h := _root_.id rfl
def dec_one_r27 : List Sop := [
  ⟨some (84, false), .fieldAddr 52 (.tmp 1) 0, 0, none, true⟩,
  ⟨some (85, false), .load 49 (.tmp 84), 49, none, true⟩,
  ⟨some (86, false), .move (.tmp 5), 3, none, true⟩,
  ⟨some (87, false), .call { callee := .value (.func 35), args := #[.tmp 85, .tmp 86], argTypes := #[49, 3] }, 3, none, false⟩,
  ⟨some (88, false), .fieldAddr 35 (.tmp 3) 3, 0, none, true⟩,
  ⟨none, .store 3 (.tmp 88) (.tmp 87), 0, none, false⟩]
theorem dec_one_r27_go {K : Env → Heap → Prop} {τ ρ : Env} {h : Heap} : vcOps Try.prog K dec_one_r27 τ ρ h = vcOps Try.prog K [
  ⟨some (84, false), .fieldAddr 52 (.tmp 1) 0, 0, none, true⟩,
  ⟨some (85, false), .load 49 (.tmp 84), 49, none, true⟩,
  ⟨some (86, false), .move (.tmp 5), 3, none, true⟩,
  ⟨some (87, false), .call { callee := .value (.func 35), args := #[.tmp 85, .tmp 86], argTypes := #[49, 3] }, 3, none, false⟩,
  ⟨some (88, false), .fieldAddr 35 (.tmp 3) 3, 0, none, true⟩,
  ⟨none, .store 3 (.tmp 88) (.tmp 87), 0, none, false⟩] τ ρ h := _root_.id rfl
def dec_one_r28 : List Sop := [
  ⟨some (89, false), .load 52 (.tmp 1), 52, none, true⟩,
  ⟨some (90, false), .move (.tmp 5), 3, none, true⟩,
  ⟨some (91, false), .call { callee := .value (.func 36), args := #[.tmp 89, .tmp 90], argTypes := #[52, 3] }, 3, none, false⟩,
  ⟨some (92, false), .fieldAddr 35 (.tmp 3) 4, 0, none, true⟩,
  ⟨none, .store 3 (.tmp 92) (.tmp 91), 0, none, false⟩]
theorem dec_one_r28_go {K : Env → Heap → Prop} {τ ρ : Env} {h : Heap} : vcOps Try.prog K dec_one_r28 τ ρ h = vcOps Try.prog K [
  ⟨some (89, false), .load 52 (.tmp 1), 52, none, true⟩,
  ⟨some (90, false), .move (.tmp 5), 3, none, true⟩,
  ⟨some (91, false), .call { callee := .value (.func 36), args := #[.tmp 89, .tmp 90], argTypes := #[52, 3] }, 3, none, false⟩,
  ⟨some (92, false), .fieldAddr 35 (.tmp 3) 4, 0, none, true⟩,
  ⟨none, .store 3 (.tmp 92) (.tmp 91), 0, none, false⟩] τ ρ h := _root_.id rfl
def dec_one_r29 : List Sop := [
  ⟨some (94, false), .binOp .eql 3 (.tmp 42) (.const (.int .i64 8)) 3, 4, none, true⟩,
  ⟨some (93, true), .assign (.tmp 94), 4, none, true⟩]
theorem dec_one_r29_go {K : Env → Heap → Prop} {τ ρ : Env} {h : Heap} : vcOps Try.prog K dec_one_r29 τ ρ h = vcOps Try.prog K [
  ⟨some (94, false), .binOp .eql 3 (.tmp 42) (.const (.int .i64 8)) 3, 4, none, true⟩,
  ⟨some (93, true), .assign (.tmp 94), 4, none, true⟩] τ ρ h := _root_.id rfl
def dec_one_r30 : List (Sop × List Sop) := [
  (⟨some (95, false), .fieldAddr 35 (.tmp 3) 0, 0, none, true⟩, []),
  (⟨some (96, false), .load 3 (.tmp 95), 3, none, true⟩, []),
  (⟨some (97, false), .load 52 (.tmp 1), 52, none, true⟩, []),
  (⟨some (98, false), .call { callee := .value (.func 36), args := #[.tmp 97, .const (.int .i64 2)], argTypes := #[52, 3] }, 3, none, false⟩, [⟨some (95, false), .fieldAddr 35 (.tmp 3) 0, 0, none, true⟩, ⟨some (96, false), .load 3 (.tmp 95), 3, none, true⟩]),
  (⟨some (99, false), .binOp .add 3 (.tmp 96) (.tmp 98) 3, 3, none, true⟩, []),
  (⟨some (100, false), .buildSlice 33 1 #[(0, .tmp 99)], 33, none, false⟩, []),
  (⟨some (101, false), .fieldAddr 35 (.tmp 3) 7, 0, none, true⟩, []),
  (⟨none, .store 33 (.tmp 101) (.tmp 100), 0, none, false⟩, [])]
theorem dec_one_r30_go {K : Env → Heap → Prop} {τ ρ : Env} {h : Heap} : vcDraw Try.prog K dec_one_r30 τ ρ h = vcDraw Try.prog K [
  (⟨some (95, false), .fieldAddr 35 (.tmp 3) 0, 0, none, true⟩, []),
  (⟨some (96, false), .load 3 (.tmp 95), 3, none, true⟩, []),
  (⟨some (97, false), .load 52 (.tmp 1), 52, none, true⟩, []),
  (⟨some (98, false), .call { callee := .value (.func 36), args := #[.tmp 97, .const (.int .i64 2)], argTypes := #[52, 3] }, 3, none, false⟩, [⟨some (95, false), .fieldAddr 35 (.tmp 3) 0, 0, none, true⟩, ⟨some (96, false), .load 3 (.tmp 95), 3, none, true⟩]),
  (⟨some (99, false), .binOp .add 3 (.tmp 96) (.tmp 98) 3, 3, none, true⟩, []),
  (⟨some (100, false), .buildSlice 33 1 #[(0, .tmp 99)], 33, none, false⟩, []),
  (⟨some (101, false), .fieldAddr 35 (.tmp 3) 7, 0, none, true⟩, []),
  (⟨none, .store 33 (.tmp 101) (.tmp 100), 0, none, false⟩, [])] τ ρ h := _root_.id rfl
def dec_one_r31 : List Sop := [
  ⟨some (103, false), .binOp .eql 3 (.tmp 42) (.const (.int .i64 9)) 3, 4, none, true⟩,
  ⟨some (102, true), .assign (.tmp 103), 4, none, true⟩]
theorem dec_one_r31_go {K : Env → Heap → Prop} {τ ρ : Env} {h : Heap} : vcOps Try.prog K dec_one_r31 τ ρ h = vcOps Try.prog K [
  ⟨some (103, false), .binOp .eql 3 (.tmp 42) (.const (.int .i64 9)) 3, 4, none, true⟩,
  ⟨some (102, true), .assign (.tmp 103), 4, none, true⟩] τ ρ h := _root_.id rfl
def dec_one_r32 : List (Sop × List Sop) := [
  (⟨some (104, false), .fieldAddr 35 (.tmp 3) 0, 0, none, true⟩, []),
  (⟨some (105, false), .load 3 (.tmp 104), 3, none, true⟩, []),
  (⟨some (106, false), .load 52 (.tmp 1), 52, none, true⟩, []),
  (⟨some (107, false), .call { callee := .value (.func 36), args := #[.tmp 106, .const (.int .i64 4)], argTypes := #[52, 3] }, 3, none, false⟩, [⟨some (104, false), .fieldAddr 35 (.tmp 3) 0, 0, none, true⟩, ⟨some (105, false), .load 3 (.tmp 104), 3, none, true⟩]),
  (⟨some (108, false), .binOp .add 3 (.tmp 105) (.tmp 107) 3, 3, none, true⟩, []),
  (⟨some (109, false), .buildSlice 33 1 #[(0, .tmp 108)], 33, none, false⟩, []),
  (⟨some (110, false), .fieldAddr 35 (.tmp 3) 7, 0, none, true⟩, []),
  (⟨none, .store 33 (.tmp 110) (.tmp 109), 0, none, false⟩, [])]
theorem dec_one_r32_go {K : Env → Heap → Prop} {τ ρ : Env} {h : Heap} : vcDraw Try.prog K dec_one_r32 τ ρ h = vcDraw Try.prog K [
  (⟨some (104, false), .fieldAddr 35 (.tmp 3) 0, 0, none, true⟩, []),
  (⟨some (105, false), .load 3 (.tmp 104), 3, none, true⟩, []),
  (⟨some (106, false), .load 52 (.tmp 1), 52, none, true⟩, []),
  (⟨some (107, false), .call { callee := .value (.func 36), args := #[.tmp 106, .const (.int .i64 4)], argTypes := #[52, 3] }, 3, none, false⟩, [⟨some (104, false), .fieldAddr 35 (.tmp 3) 0, 0, none, true⟩, ⟨some (105, false), .load 3 (.tmp 104), 3, none, true⟩]),
  (⟨some (108, false), .binOp .add 3 (.tmp 105) (.tmp 107) 3, 3, none, true⟩, []),
  (⟨some (109, false), .buildSlice 33 1 #[(0, .tmp 108)], 33, none, false⟩, []),
  (⟨some (110, false), .fieldAddr 35 (.tmp 3) 7, 0, none, true⟩, []),
  (⟨none, .store 33 (.tmp 110) (.tmp 109), 0, none, false⟩, [])] τ ρ h := _root_.id rfl
def dec_one_r33 : List Sop := [
  ⟨some (43, false), .load 52 (.tmp 1), 52, none, true⟩,
  ⟨some (44, false), .move (.tmp 4), 3, none, true⟩,
  ⟨some (45, false), .call { callee := .value (.func 37), args := #[.tmp 43, .tmp 3, .tmp 44], argTypes := #[52, 71, 3] }, 0, none, false⟩]
theorem dec_one_r33_go {K : Env → Heap → Prop} {τ ρ : Env} {h : Heap} : vcOps Try.prog K dec_one_r33 τ ρ h = vcOps Try.prog K [
  ⟨some (43, false), .load 52 (.tmp 1), 52, none, true⟩,
  ⟨some (44, false), .move (.tmp 4), 3, none, true⟩,
  ⟨some (45, false), .call { callee := .value (.func 37), args := #[.tmp 43, .tmp 3, .tmp 44], argTypes := #[52, 71, 3] }, 0, none, false⟩] τ ρ h := _root_.id rfl
def dec_one_r34 : List Sop := [
  ⟨some (111, false), .load 35 (.tmp 3), 35, none, true⟩,
  ⟨none, .store 35 (.tmp 2) (.tmp 111), 0, none, false⟩]
theorem dec_one_r34_go {K : Env → Heap → Prop} {τ ρ : Env} {h : Heap} : vcOps Try.prog K dec_one_r34 τ ρ h = vcOps Try.prog K [
  ⟨some (111, false), .load 35 (.tmp 3), 35, none, true⟩,
  ⟨none, .store 35 (.tmp 2) (.tmp 111), 0, none, false⟩] τ ρ h := _root_.id rfl
def dec_one_t0 : Cd := .seq (.region dec_one_r10) (.seq (.seq (.region dec_one_r11) (.cond (.tmp 41) (.region dec_one_r12) (.skip))) (.seq (.seq (.region dec_one_r13) (.block 0 (.seq (.region dec_one_r14) (.cond (.tmp 46) (.region dec_one_r15) (.seq (.region dec_one_r16) (.cond (.tmp 53) (.region dec_one_r17) (.seq (.region dec_one_r18) (.cond (.tmp 58) (.region dec_one_r19) (.seq (.region dec_one_r20) (.cond (.tmp 63) (.region dec_one_r21) (.seq (.region dec_one_r22) (.cond (.tmp 69) (.region dec_one_r23) (.seq (.region dec_one_r24) (.cond (.tmp 75) (.region dec_one_r25) (.seq (.region dec_one_r26) (.cond (.tmp 82) (.seq (.region dec_one_r27) (.region dec_one_r28)) (.seq (.region dec_one_r29) (.cond (.tmp 93) (.draw dec_one_r30) (.seq (.region dec_one_r31) (.cond (.tmp 102) (.draw dec_one_r32) (.region dec_one_r33))))))))))))))))))))) (.seq (.region dec_one_r34) (.ret))))
theorem dec_one_t0_go {Q : Ex → Env → Heap → Prop} {ρ : Env} {h : Heap} : Cd.vc Try.prog dec_one_t0 Q ρ h = Cd.vc Try.prog (.seq (.region dec_one_r10) (.seq (.seq (.region dec_one_r11) (.cond (.tmp 41) (.region dec_one_r12) (.skip))) (.seq (.seq (.region dec_one_r13) (.block 0 (.seq (.region dec_one_r14) (.cond (.tmp 46) (.region dec_one_r15) (.seq (.region dec_one_r16) (.cond (.tmp 53) (.region dec_one_r17) (.seq (.region dec_one_r18) (.cond (.tmp 58) (.region dec_one_r19) (.seq (.region dec_one_r20) (.cond (.tmp 63) (.region dec_one_r21) (.seq (.region dec_one_r22) (.cond (.tmp 69) (.region dec_one_r23) (.seq (.region dec_one_r24) (.cond (.tmp 75) (.region dec_one_r25) (.seq (.region dec_one_r26) (.cond (.tmp 82) (.seq (.region dec_one_r27) (.region dec_one_r28)) (.seq (.region dec_one_r29) (.cond (.tmp 93) (.draw dec_one_r30) (.seq (.region dec_one_r31) (.cond (.tmp 102) (.draw dec_one_r32) (.region dec_one_r33))))))))))))))))))))) (.seq (.region dec_one_r34) (.ret))))) Q ρ h := _root_.id rfl
def dec_one_t1 : Cd := .seq (.region dec_one_r2) (.seq (.seq (.region dec_one_r3) (.cond (.tmp 18) (.seq (.region dec_one_r4) (.seq (.region dec_one_r5) (.seq (.region dec_one_r6) (.seq (.region dec_one_r7) (.cond (.tmp 33) (.seq (.region dec_one_r8) (.seq (.region dec_one_r9) (.ret))) (.skip)))))) (.skip))) (dec_one_t0))
theorem dec_one_t1_go {Q : Ex → Env → Heap → Prop} {ρ : Env} {h : Heap} : Cd.vc Try.prog dec_one_t1 Q ρ h = Cd.vc Try.prog (.seq (.region dec_one_r2) (.seq (.seq (.region dec_one_r3) (.cond (.tmp 18) (.seq (.region dec_one_r4) (.seq (.region dec_one_r5) (.seq (.region dec_one_r6) (.seq (.region dec_one_r7) (.cond (.tmp 33) (.seq (.region dec_one_r8) (.seq (.region dec_one_r9) (.ret))) (.skip)))))) (.skip))) (dec_one_t0))) Q ρ h := _root_.id rfl
def dec_one : Cd := .seq (.region dec_one_r0) (.seq (.tree dec_one_r1) (dec_one_t1))
theorem dec_one_go {Q : Ex → Env → Heap → Prop} {ρ : Env} {h : Heap} : Cd.vc Try.prog dec_one Q ρ h = Cd.vc Try.prog (.seq (.region dec_one_r0) (.seq (.tree dec_one_r1) (dec_one_t1))) Q ρ h := _root_.id rfl
theorem dec_one_calls {args : List Value} {h : Heap} {R : Value → Heap → Prop} (hl : args.length = 1) (hv : Cd.vc Try.prog dec_one (retQ Try.prog [(2, some 35)] R) (initEnv args [0, 1, 2, 3, 4, 5, 18, 33, 41, 42, 46, 53, 58, 63, 69, 75, 82, 93, 102]) h) : HCalls Try.prog 23 args.toArray h R :=
  hcalls_of_vc (by kernel_rfl) Try.func23 (cd := dec_one) (L := [0, 1, 2, 3, 4, 5, 18, 33, 41, 42, 46, 53, 58, 63, 69, 75, 82, 93, 102]) (by kernel_rfl) (by kernel_rfl) ⟨by rw [hl, Try.ntmps23]; decide, by rw [Try.ntmps23]; decide⟩ hv
def dec_one_gos := And.intro @dec_one_go (And.intro @dec_one_r0_go (And.intro @dec_one_r1_go (And.intro @dec_one_r2_go (And.intro @dec_one_r3_go (And.intro @dec_one_r4_go (And.intro @dec_one_r5_go (And.intro @dec_one_r6_go (And.intro @dec_one_r7_go (And.intro @dec_one_r8_go (And.intro @dec_one_r9_go (And.intro @dec_one_r10_go (And.intro @dec_one_r11_go (And.intro @dec_one_r12_go (And.intro @dec_one_r13_go (And.intro @dec_one_r14_go (And.intro @dec_one_r15_go (And.intro @dec_one_r16_go (And.intro @dec_one_r17_go (And.intro @dec_one_r18_go (And.intro @dec_one_r19_go (And.intro @dec_one_r20_go (And.intro @dec_one_r21_go (And.intro @dec_one_r22_go (And.intro @dec_one_r23_go (And.intro @dec_one_r24_go (And.intro @dec_one_r25_go (And.intro @dec_one_r26_go (And.intro @dec_one_r27_go (And.intro @dec_one_r28_go (And.intro @dec_one_r29_go (And.intro @dec_one_r30_go (And.intro @dec_one_r31_go (And.intro @dec_one_r32_go (And.intro @dec_one_r33_go (@dec_one_r34_go)))))))))))))))))))))))))))))))))))

/-! jvmcore/code.Decode: function 11: slots [0, 2, 3, 4, 5, 6, 7, 9, 11, 12, 13, 20, 36, 47, 48, 49, 50, 54, 55, 56, 57, 74, 89] -/
def code_Decode_r0 : List Sop := [
  ⟨some (2, true), .assign (.const (.slice none 0 0)), 22, none, true⟩,
  ⟨some (3, true), .assign (.const (.int .i64 0)), 25, none, true⟩,
  ⟨some (4, true), .assign (.const (.int .i64 0)), 3, none, true⟩]
theorem code_Decode_r0_go {K : Env → Heap → Prop} {τ ρ : Env} {h : Heap} : vcOps Try.prog K code_Decode_r0 τ ρ h = vcOps Try.prog K [
  ⟨some (2, true), .assign (.const (.slice none 0 0)), 22, none, true⟩,
  ⟨some (3, true), .assign (.const (.int .i64 0)), 25, none, true⟩,
  ⟨some (4, true), .assign (.const (.int .i64 0)), 3, none, true⟩] τ ρ h := _root_.id rfl
def code_Decode_r1 : List Sop := [
  ⟨some (14, false), .move (.tmp 0), 9, none, true⟩,
  ⟨some (15, false), .binOp .eql 9 (.tmp 14) (.const (.string { data := #[] })) 9, 4, none, true⟩,
  ⟨some (16, false), .move (.tmp 15), 4, none, true⟩,
  ⟨some (17, false), .move (.tmp 0), 9, some (16, false), true⟩,
  ⟨some (18, false), .call { callee := .builtin .len, args := #[.tmp 17], argTypes := #[9] }, 3, some (16, false), true⟩,
  ⟨some (19, false), .binOp .gtr 3 (.tmp 18) (.const (.int .i64 65535)) 3, 4, some (16, false), true⟩,
  ⟨some (20, true), .pick (.tmp 16) (.const (.bool true)) (.tmp 19), 4, none, true⟩]
theorem code_Decode_r1_go {K : Env → Heap → Prop} {τ ρ : Env} {h : Heap} : vcOps Try.prog K code_Decode_r1 τ ρ h = vcOps Try.prog K [
  ⟨some (14, false), .move (.tmp 0), 9, none, true⟩,
  ⟨some (15, false), .binOp .eql 9 (.tmp 14) (.const (.string { data := #[] })) 9, 4, none, true⟩,
  ⟨some (16, false), .move (.tmp 15), 4, none, true⟩,
  ⟨some (17, false), .move (.tmp 0), 9, some (16, false), true⟩,
  ⟨some (18, false), .call { callee := .builtin .len, args := #[.tmp 17], argTypes := #[9] }, 3, some (16, false), true⟩,
  ⟨some (19, false), .binOp .gtr 3 (.tmp 18) (.const (.int .i64 65535)) 3, 4, some (16, false), true⟩,
  ⟨some (20, true), .pick (.tmp 16) (.const (.bool true)) (.tmp 19), 4, none, true⟩] τ ρ h := _root_.id rfl
def code_Decode_r2 : List Sop := [
  ⟨some (2, true), .assign (.const (.slice none 0 0)), 22, none, true⟩,
  ⟨some (3, true), .assign (.const (.int .i64 12)), 25, none, true⟩,
  ⟨some (4, true), .assign (.const (.int .i64 0)), 3, none, true⟩]
theorem code_Decode_r2_go {K : Env → Heap → Prop} {τ ρ : Env} {h : Heap} : vcOps Try.prog K code_Decode_r2 τ ρ h = vcOps Try.prog K [
  ⟨some (2, true), .assign (.const (.slice none 0 0)), 22, none, true⟩,
  ⟨some (3, true), .assign (.const (.int .i64 12)), 25, none, true⟩,
  ⟨some (4, true), .assign (.const (.int .i64 0)), 3, none, true⟩] τ ρ h := _root_.id rfl
def code_Decode_r3 : List Sop := [
  ⟨some (21, false), .move (.tmp 0), 9, none, true⟩,
  ⟨some (22, false), .call { callee := .value (.func 19), args := #[.tmp 21], argTypes := #[9] }, 49, none, false⟩,
  ⟨some (23, false), .build 52 #[(0, .tmp 22)], 52, none, true⟩,
  ⟨some (5, true), .alloc 52, 0, none, false⟩,
  ⟨none, .store 52 (.tmp 5) (.tmp 23), 0, none, false⟩]
theorem code_Decode_r3_go {K : Env → Heap → Prop} {τ ρ : Env} {h : Heap} : vcOps Try.prog K code_Decode_r3 τ ρ h = vcOps Try.prog K [
  ⟨some (21, false), .move (.tmp 0), 9, none, true⟩,
  ⟨some (22, false), .call { callee := .value (.func 19), args := #[.tmp 21], argTypes := #[9] }, 49, none, false⟩,
  ⟨some (23, false), .build 52 #[(0, .tmp 22)], 52, none, true⟩,
  ⟨some (5, true), .alloc 52, 0, none, false⟩,
  ⟨none, .store 52 (.tmp 5) (.tmp 23), 0, none, false⟩] τ ρ h := _root_.id rfl
def code_Decode_r4 : List Sop := [
  ⟨some (24, false), .move (.tmp 0), 9, none, true⟩,
  ⟨some (25, false), .call { callee := .builtin .len, args := #[.tmp 24], argTypes := #[9] }, 3, none, true⟩,
  ⟨some (26, false), .makeSlice 47 (.tmp 25) (.tmp 25), 47, none, false⟩,
  ⟨some (6, true), .assign (.tmp 26), 47, none, true⟩]
theorem code_Decode_r4_go {K : Env → Heap → Prop} {τ ρ : Env} {h : Heap} : vcOps Try.prog K code_Decode_r4 τ ρ h = vcOps Try.prog K [
  ⟨some (24, false), .move (.tmp 0), 9, none, true⟩,
  ⟨some (25, false), .call { callee := .builtin .len, args := #[.tmp 24], argTypes := #[9] }, 3, none, true⟩,
  ⟨some (26, false), .makeSlice 47 (.tmp 25) (.tmp 25), 47, none, false⟩,
  ⟨some (6, true), .assign (.tmp 26), 47, none, true⟩] τ ρ h := _root_.id rfl
def code_Decode_r5 : List Sop := [
  ⟨some (7, true), .assign (.const (.slice none 0 0)), 22, none, true⟩]
theorem code_Decode_r5_go {K : Env → Heap → Prop} {τ ρ : Env} {h : Heap} : vcOps Try.prog K code_Decode_r5 τ ρ h = vcOps Try.prog K [
  ⟨some (7, true), .assign (.const (.slice none 0 0)), 22, none, true⟩] τ ρ h := _root_.id rfl
def code_Decode_r6 : List Sop := [
  ⟨some (27, false), .fieldAddr 52 (.tmp 5) 0, 0, none, true⟩,
  ⟨some (28, false), .load 49 (.tmp 27), 49, none, true⟩,
  ⟨some (29, false), .call { callee := .value (.func 20), args := #[.tmp 28], argTypes := #[49] }, 3, none, false⟩,
  ⟨some (30, false), .binOp .gtr 3 (.tmp 29) (.const (.int .i64 0)) 3, 4, none, true⟩,
  ⟨some (31, false), .move (.tmp 30), 4, none, true⟩,
  ⟨some (32, false), .fieldAddr 52 (.tmp 5) 0, 0, some (31, true), true⟩,
  ⟨some (33, false), .load 49 (.tmp 32), 49, some (31, true), true⟩,
  ⟨some (34, false), .call { callee := .value (.func 21), args := #[.tmp 33], argTypes := #[49] }, 4, some (31, true), false⟩,
  ⟨some (35, false), .unOp .not 4 (.tmp 34), 4, some (31, true), true⟩,
  ⟨some (36, true), .pick (.tmp 31) (.tmp 35) (.const (.bool false)), 4, none, true⟩]
theorem code_Decode_r6_go {K : Env → Heap → Prop} {τ ρ : Env} {h : Heap} : vcOps Try.prog K code_Decode_r6 τ ρ h = vcOps Try.prog K [
  ⟨some (27, false), .fieldAddr 52 (.tmp 5) 0, 0, none, true⟩,
  ⟨some (28, false), .load 49 (.tmp 27), 49, none, true⟩,
  ⟨some (29, false), .call { callee := .value (.func 20), args := #[.tmp 28], argTypes := #[49] }, 3, none, false⟩,
  ⟨some (30, false), .binOp .gtr 3 (.tmp 29) (.const (.int .i64 0)) 3, 4, none, true⟩,
  ⟨some (31, false), .move (.tmp 30), 4, none, true⟩,
  ⟨some (32, false), .fieldAddr 52 (.tmp 5) 0, 0, some (31, true), true⟩,
  ⟨some (33, false), .load 49 (.tmp 32), 49, some (31, true), true⟩,
  ⟨some (34, false), .call { callee := .value (.func 21), args := #[.tmp 33], argTypes := #[49] }, 4, some (31, true), false⟩,
  ⟨some (35, false), .unOp .not 4 (.tmp 34), 4, some (31, true), true⟩,
  ⟨some (36, true), .pick (.tmp 31) (.tmp 35) (.const (.bool false)), 4, none, true⟩] τ ρ h := _root_.id rfl
def code_Decode_r7 : List Sop := [
  ⟨some (37, false), .move (.tmp 6), 47, none, true⟩,
  ⟨some (38, false), .fieldAddr 52 (.tmp 5) 0, 0, none, true⟩,
  ⟨some (39, false), .load 49 (.tmp 38), 49, none, true⟩,
  ⟨some (40, false), .call { callee := .value (.func 22), args := #[.tmp 39], argTypes := #[49] }, 3, none, false⟩,
  ⟨some (41, false), .indexAddr 47 (.tmp 37) (.tmp 40), 0, none, true⟩,
  ⟨none, .store 4 (.tmp 41) (.const (.bool true)), 0, none, false⟩]
theorem code_Decode_r7_go {K : Env → Heap → Prop} {τ ρ : Env} {h : Heap} : vcOps Try.prog K code_Decode_r7 τ ρ h = vcOps Try.prog K [
  ⟨some (37, false), .move (.tmp 6), 47, none, true⟩,
  ⟨some (38, false), .fieldAddr 52 (.tmp 5) 0, 0, none, true⟩,
  ⟨some (39, false), .load 49 (.tmp 38), 49, none, true⟩,
  ⟨some (40, false), .call { callee := .value (.func 22), args := #[.tmp 39], argTypes := #[49] }, 3, none, false⟩,
  ⟨some (41, false), .indexAddr 47 (.tmp 37) (.tmp 40), 0, none, true⟩,
  ⟨none, .store 4 (.tmp 41) (.const (.bool true)), 0, none, false⟩] τ ρ h := _root_.id rfl
def code_Decode_r8 : List Sop := [
  ⟨some (42, false), .move (.tmp 7), 22, none, true⟩,
  ⟨some (43, false), .load 52 (.tmp 5), 52, none, true⟩,
  ⟨some (44, false), .call { callee := .value (.func 23), args := #[.tmp 43], argTypes := #[52] }, 35, none, false⟩,
  ⟨some (45, false), .buildSlice 22 1 #[(0, .tmp 44)], 22, none, false⟩,
  ⟨some (46, false), .call { callee := .builtin .append, args := #[.tmp 42, .tmp 45], argTypes := #[22, 22] }, 22, none, false⟩,
  ⟨some (7, true), .assign (.tmp 46), 22, none, true⟩]
theorem code_Decode_r8_go {K : Env → Heap → Prop} {τ ρ : Env} {h : Heap} : vcOps Try.prog K code_Decode_r8 τ ρ h = vcOps Try.prog K [
  ⟨some (42, false), .move (.tmp 7), 22, none, true⟩,
  ⟨some (43, false), .load 52 (.tmp 5), 52, none, true⟩,
  ⟨some (44, false), .call { callee := .value (.func 23), args := #[.tmp 43], argTypes := #[52] }, 35, none, false⟩,
  ⟨some (45, false), .buildSlice 22 1 #[(0, .tmp 44)], 22, none, false⟩,
  ⟨some (46, false), .call { callee := .builtin .append, args := #[.tmp 42, .tmp 45], argTypes := #[22, 22] }, 22, none, false⟩,
  ⟨some (7, true), .assign (.tmp 46), 22, none, true⟩] τ ρ h := _root_.id rfl
def code_Decode_r9 : List Sop := [
  ⟨some (47, true), .move (.tmp 7), 22, none, true⟩,
  ⟨some (48, true), .call { callee := .builtin .len, args := #[.tmp 47], argTypes := #[22] }, 3, none, true⟩,
  ⟨some (49, true), .move (.const (.int .i64 0)), 3, none, true⟩]
theorem code_Decode_r9_go {K : Env → Heap → Prop} {τ ρ : Env} {h : Heap} : vcOps Try.prog K code_Decode_r9 τ ρ h = vcOps Try.prog K [
  ⟨some (47, true), .move (.tmp 7), 22, none, true⟩,
  ⟨some (48, true), .call { callee := .builtin .len, args := #[.tmp 47], argTypes := #[22] }, 3, none, true⟩,
  ⟨some (49, true), .move (.const (.int .i64 0)), 3, none, true⟩] τ ρ h := _root_.id rfl
def code_Decode_r10 : List Sop := [
  ⟨some (50, true), .binOp .lss 3 (.tmp 49) (.tmp 48) 3, 0, none, true⟩]
theorem code_Decode_r10_go {K : Env → Heap → Prop} {τ ρ : Env} {h : Heap} : vcOps Try.prog K code_Decode_r10 τ ρ h = vcOps Try.prog K [
  ⟨some (50, true), .binOp .lss 3 (.tmp 49) (.tmp 48) 3, 0, none, true⟩] τ ρ h := _root_.id rfl
def code_Decode_r11 : List Sop := [
  ⟨some (51, false), .indexAddr 22 (.tmp 47) (.tmp 49), 0, none, true⟩,
  ⟨some (52, false), .load 35 (.tmp 51), 35, none, true⟩,
  ⟨some (9, true), .alloc 35, 0, none, false⟩,
  ⟨none, .store 35 (.tmp 9) (.tmp 52), 0, none, false⟩]
theorem code_Decode_r11_go {K : Env → Heap → Prop} {τ ρ : Env} {h : Heap} : vcOps Try.prog K code_Decode_r11 τ ρ h = vcOps Try.prog K [
  ⟨some (51, false), .indexAddr 22 (.tmp 47) (.tmp 49), 0, none, true⟩,
  ⟨some (52, false), .load 35 (.tmp 51), 35, none, true⟩,
  ⟨some (9, true), .alloc 35, 0, none, false⟩,
  ⟨none, .store 35 (.tmp 9) (.tmp 52), 0, none, false⟩] τ ρ h := _root_.id rfl
def code_Decode_r12 : List Sop := [
  ⟨some (53, false), .fieldAddr 35 (.tmp 9) 7, 0, none, true⟩,
  ⟨some (54, true), .load 33 (.tmp 53), 33, none, true⟩,
  ⟨some (55, true), .call { callee := .builtin .len, args := #[.tmp 54], argTypes := #[33] }, 3, none, true⟩,
  ⟨some (56, true), .move (.const (.int .i64 0)), 3, none, true⟩]
theorem code_Decode_r12_go {K : Env → Heap → Prop} {τ ρ : Env} {h : Heap} : vcOps Try.prog K code_Decode_r12 τ ρ h = vcOps Try.prog K [
  ⟨some (53, false), .fieldAddr 35 (.tmp 9) 7, 0, none, true⟩,
  ⟨some (54, true), .load 33 (.tmp 53), 33, none, true⟩,
  ⟨some (55, true), .call { callee := .builtin .len, args := #[.tmp 54], argTypes := #[33] }, 3, none, true⟩,
  ⟨some (56, true), .move (.const (.int .i64 0)), 3, none, true⟩] τ ρ h := _root_.id rfl
def code_Decode_r13 : List Sop := [
  ⟨some (57, true), .binOp .lss 3 (.tmp 56) (.tmp 55) 3, 0, none, true⟩]
theorem code_Decode_r13_go {K : Env → Heap → Prop} {τ ρ : Env} {h : Heap} : vcOps Try.prog K code_Decode_r13 τ ρ h = vcOps Try.prog K [
  ⟨some (57, true), .binOp .lss 3 (.tmp 56) (.tmp 55) 3, 0, none, true⟩] τ ρ h := _root_.id rfl
def code_Decode_r14 : List Sop := [
  ⟨some (58, false), .indexAddr 33 (.tmp 54) (.tmp 56), 0, none, true⟩,
  ⟨some (59, false), .load 3 (.tmp 58), 3, none, true⟩,
  ⟨some (11, true), .assign (.tmp 59), 3, none, true⟩]
theorem code_Decode_r14_go {K : Env → Heap → Prop} {τ ρ : Env} {h : Heap} : vcOps Try.prog K code_Decode_r14 τ ρ h = vcOps Try.prog K [
  ⟨some (58, false), .indexAddr 33 (.tmp 54) (.tmp 56), 0, none, true⟩,
  ⟨some (59, false), .load 3 (.tmp 58), 3, none, true⟩,
  ⟨some (11, true), .assign (.tmp 59), 3, none, true⟩] τ ρ h := _root_.id rfl
def code_Decode_r15 : List Sop := [
  ⟨some (60, false), .move (.tmp 11), 3, none, true⟩,
  ⟨some (61, false), .binOp .lss 3 (.tmp 60) (.const (.int .i64 0)) 3, 4, none, true⟩,
  ⟨some (62, false), .move (.tmp 61), 4, none, true⟩,
  ⟨some (63, false), .move (.tmp 11), 3, some (62, false), true⟩,
  ⟨some (64, false), .move (.tmp 0), 9, some (62, false), true⟩,
  ⟨some (65, false), .call { callee := .builtin .len, args := #[.tmp 64], argTypes := #[9] }, 3, some (62, false), true⟩,
  ⟨some (66, false), .binOp .geq 3 (.tmp 63) (.tmp 65) 3, 4, some (62, false), true⟩,
  ⟨some (67, false), .pick (.tmp 62) (.const (.bool true)) (.tmp 66), 4, none, true⟩,
  ⟨some (68, false), .move (.tmp 67), 4, none, true⟩,
  ⟨some (69, false), .move (.tmp 6), 47, some (68, false), true⟩,
  ⟨some (70, false), .move (.tmp 11), 3, some (68, false), true⟩,
  ⟨some (71, false), .indexAddr 47 (.tmp 69) (.tmp 70), 0, some (68, false), true⟩,
  ⟨some (72, false), .load 4 (.tmp 71), 4, some (68, false), true⟩,
  ⟨some (73, false), .unOp .not 4 (.tmp 72), 4, some (68, false), true⟩,
  ⟨some (74, true), .pick (.tmp 68) (.const (.bool true)) (.tmp 73), 4, none, true⟩]
theorem code_Decode_r15_go {K : Env → Heap → Prop} {τ ρ : Env} {h : Heap} : vcOps Try.prog K code_Decode_r15 τ ρ h = vcOps Try.prog K [
  ⟨some (60, false), .move (.tmp 11), 3, none, true⟩,
  ⟨some (61, false), .binOp .lss 3 (.tmp 60) (.const (.int .i64 0)) 3, 4, none, true⟩,
  ⟨some (62, false), .move (.tmp 61), 4, none, true⟩,
  ⟨some (63, false), .move (.tmp 11), 3, some (62, false), true⟩,
  ⟨some (64, false), .move (.tmp 0), 9, some (62, false), true⟩,
  ⟨some (65, false), .call { callee := .builtin .len, args := #[.tmp 64], argTypes := #[9] }, 3, some (62, false), true⟩,
  ⟨some (66, false), .binOp .geq 3 (.tmp 63) (.tmp 65) 3, 4, some (62, false), true⟩,
  ⟨some (67, false), .pick (.tmp 62) (.const (.bool true)) (.tmp 66), 4, none, true⟩,
  ⟨some (68, false), .move (.tmp 67), 4, none, true⟩,
  ⟨some (69, false), .move (.tmp 6), 47, some (68, false), true⟩,
  ⟨some (70, false), .move (.tmp 11), 3, some (68, false), true⟩,
  ⟨some (71, false), .indexAddr 47 (.tmp 69) (.tmp 70), 0, some (68, false), true⟩,
  ⟨some (72, false), .load 4 (.tmp 71), 4, some (68, false), true⟩,
  ⟨some (73, false), .unOp .not 4 (.tmp 72), 4, some (68, false), true⟩,
  ⟨some (74, true), .pick (.tmp 68) (.const (.bool true)) (.tmp 73), 4, none, true⟩] τ ρ h := _root_.id rfl
def code_Decode_r16 : List Sop := [
  ⟨some (75, false), .fieldAddr 52 (.tmp 5) 0, 0, none, true⟩,
  ⟨some (76, false), .load 49 (.tmp 75), 49, none, true⟩,
  ⟨some (77, false), .fieldAddr 35 (.tmp 9) 0, 0, none, true⟩,
  ⟨some (78, false), .load 3 (.tmp 77), 3, none, true⟩,
  ⟨some (79, false), .call { callee := .value (.func 24), args := #[.tmp 76, .const (.int .i64 16), .tmp 78], argTypes := #[49, 25, 3] }, 0, none, false⟩]
theorem code_Decode_r16_go {K : Env → Heap → Prop} {τ ρ : Env} {h : Heap} : vcOps Try.prog K code_Decode_r16 τ ρ h = vcOps Try.prog K [
  ⟨some (75, false), .fieldAddr 52 (.tmp 5) 0, 0, none, true⟩,
  ⟨some (76, false), .load 49 (.tmp 75), 49, none, true⟩,
  ⟨some (77, false), .fieldAddr 35 (.tmp 9) 0, 0, none, true⟩,
  ⟨some (78, false), .load 3 (.tmp 77), 3, none, true⟩,
  ⟨some (79, false), .call { callee := .value (.func 24), args := #[.tmp 76, .const (.int .i64 16), .tmp 78], argTypes := #[49, 25, 3] }, 0, none, false⟩] τ ρ h := _root_.id rfl
def code_Decode_r17 : List Sop := [
  ⟨some (80, false), .binOp .add 3 (.tmp 56) (.const (.int .i64 1)) 3, 3, none, true⟩,
  ⟨some (56, true), .move (.tmp 80), 3, none, true⟩]
theorem code_Decode_r17_go {K : Env → Heap → Prop} {τ ρ : Env} {h : Heap} : vcOps Try.prog K code_Decode_r17 τ ρ h = vcOps Try.prog K [
  ⟨some (80, false), .binOp .add 3 (.tmp 56) (.const (.int .i64 1)) 3, 3, none, true⟩,
  ⟨some (56, true), .move (.tmp 80), 3, none, true⟩] τ ρ h := _root_.id rfl
def code_Decode_r18 : List Sop := [
  ⟨some (81, false), .binOp .add 3 (.tmp 49) (.const (.int .i64 1)) 3, 3, none, true⟩,
  ⟨some (49, true), .move (.tmp 81), 3, none, true⟩]
theorem code_Decode_r18_go {K : Env → Heap → Prop} {τ ρ : Env} {h : Heap} : vcOps Try.prog K code_Decode_r18 τ ρ h = vcOps Try.prog K [
  ⟨some (81, false), .binOp .add 3 (.tmp 49) (.const (.int .i64 1)) 3, 3, none, true⟩,
  ⟨some (49, true), .move (.tmp 81), 3, none, true⟩] τ ρ h := _root_.id rfl
def code_Decode_r19 : List Sop := [
  ⟨some (83, false), .fieldAddr 52 (.tmp 5) 0, 0, none, true⟩,
  ⟨some (84, false), .load 49 (.tmp 83), 49, none, true⟩,
  ⟨some (85, false), .call { callee := .value (.func 25), args := #[.tmp 84], argTypes := #[49] }, 57, none, false⟩,
  ⟨some (82, false), .move (.tmp 85), 57, none, true⟩,
  ⟨some (86, false), .extract (.tmp 82) 0, 25, none, true⟩,
  ⟨some (87, false), .extract (.tmp 82) 1, 3, none, true⟩,
  ⟨some (12, true), .assign (.tmp 86), 25, none, true⟩,
  ⟨some (13, true), .assign (.tmp 87), 3, none, true⟩]
theorem code_Decode_r19_go {K : Env → Heap → Prop} {τ ρ : Env} {h : Heap} : vcOps Try.prog K code_Decode_r19 τ ρ h = vcOps Try.prog K [
  ⟨some (83, false), .fieldAddr 52 (.tmp 5) 0, 0, none, true⟩,
  ⟨some (84, false), .load 49 (.tmp 83), 49, none, true⟩,
  ⟨some (85, false), .call { callee := .value (.func 25), args := #[.tmp 84], argTypes := #[49] }, 57, none, false⟩,
  ⟨some (82, false), .move (.tmp 85), 57, none, true⟩,
  ⟨some (86, false), .extract (.tmp 82) 0, 25, none, true⟩,
  ⟨some (87, false), .extract (.tmp 82) 1, 3, none, true⟩,
  ⟨some (12, true), .assign (.tmp 86), 25, none, true⟩,
  ⟨some (13, true), .assign (.tmp 87), 3, none, true⟩] τ ρ h := _root_.id rfl
def code_Decode_r20 : List Sop := [
  ⟨some (88, false), .move (.tmp 12), 25, none, true⟩,
  ⟨some (89, true), .binOp .neq 25 (.tmp 88) (.const (.int .i64 0)) 25, 4, none, true⟩]
theorem code_Decode_r20_go {K : Env → Heap → Prop} {τ ρ : Env} {h : Heap} : vcOps Try.prog K code_Decode_r20 τ ρ h = vcOps Try.prog K [
  ⟨some (88, false), .move (.tmp 12), 25, none, true⟩,
  ⟨some (89, true), .binOp .neq 25 (.tmp 88) (.const (.int .i64 0)) 25, 4, none, true⟩] τ ρ h := _root_.id rfl
def code_Decode_r21 : List Sop := [
  ⟨some (90, false), .move (.tmp 12), 25, none, true⟩,
  ⟨some (91, false), .move (.tmp 13), 3, none, true⟩,
  ⟨some (2, true), .assign (.const (.slice none 0 0)), 22, none, true⟩,
  ⟨some (3, true), .assign (.tmp 90), 25, none, true⟩,
  ⟨some (4, true), .assign (.tmp 91), 3, none, true⟩]
theorem code_Decode_r21_go {K : Env → Heap → Prop} {τ ρ : Env} {h : Heap} : vcOps Try.prog K code_Decode_r21 τ ρ h = vcOps Try.prog K [
  ⟨some (90, false), .move (.tmp 12), 25, none, true⟩,
  ⟨some (91, false), .move (.tmp 13), 3, none, true⟩,
  ⟨some (2, true), .assign (.const (.slice none 0 0)), 22, none, true⟩,
  ⟨some (3, true), .assign (.tmp 90), 25, none, true⟩,
  ⟨some (4, true), .assign (.tmp 91), 3, none, true⟩] τ ρ h := _root_.id rfl
def code_Decode_r22 : List Sop := [
  ⟨some (92, false), .move (.tmp 7), 22, none, true⟩,
  ⟨some (2, true), .assign (.tmp 92), 22, none, true⟩,
  ⟨some (3, true), .assign (.const (.int .i64 0)), 25, none, true⟩,
  ⟨some (4, true), .assign (.const (.int .i64 0)), 3, none, true⟩]
theorem code_Decode_r22_go {K : Env → Heap → Prop} {τ ρ : Env} {h : Heap} : vcOps Try.prog K code_Decode_r22 τ ρ h = vcOps Try.prog K [
  ⟨some (92, false), .move (.tmp 7), 22, none, true⟩,
  ⟨some (2, true), .assign (.tmp 92), 22, none, true⟩,
  ⟨some (3, true), .assign (.const (.int .i64 0)), 25, none, true⟩,
  ⟨some (4, true), .assign (.const (.int .i64 0)), 3, none, true⟩] τ ρ h := _root_.id rfl
def code_Decode_l0 : Cd := .seq (.seq (.region code_Decode_r6) (.cond (.tmp 36) (.skip) (.exit 0))) (.block 1 (.seq (.region code_Decode_r7) (.region code_Decode_r8)))
theorem code_Decode_l0_go {Q : Ex → Env → Heap → Prop} {ρ : Env} {h : Heap} : Cd.vc Try.prog code_Decode_l0 Q ρ h = Cd.vc Try.prog (.seq (.seq (.region code_Decode_r6) (.cond (.tmp 36) (.skip) (.exit 0))) (.block 1 (.seq (.region code_Decode_r7) (.region code_Decode_r8)))) Q ρ h := _root_.id rfl
def code_Decode_l1 : Cd := .seq (.region code_Decode_r13) (.seq (.cond (.tmp 57) (.skip) (.exit 4)) (.seq (.block 5 (.seq (.region code_Decode_r14) (.seq (.region code_Decode_r15) (.cond (.tmp 74) (.region code_Decode_r16) (.skip))))) (.region code_Decode_r17)))
theorem code_Decode_l1_go {Q : Ex → Env → Heap → Prop} {ρ : Env} {h : Heap} : Cd.vc Try.prog code_Decode_l1 Q ρ h = Cd.vc Try.prog (.seq (.region code_Decode_r13) (.seq (.cond (.tmp 57) (.skip) (.exit 4)) (.seq (.block 5 (.seq (.region code_Decode_r14) (.seq (.region code_Decode_r15) (.cond (.tmp 74) (.region code_Decode_r16) (.skip))))) (.region code_Decode_r17)))) Q ρ h := _root_.id rfl
def code_Decode_l2 : Cd := .seq (.region code_Decode_r10) (.seq (.cond (.tmp 50) (.skip) (.exit 2)) (.seq (.block 3 (.seq (.region code_Decode_r11) (.seq (.region code_Decode_r12) (.block 4 (.loop code_Decode_l1))))) (.region code_Decode_r18)))
theorem code_Decode_l2_go {Q : Ex → Env → Heap → Prop} {ρ : Env} {h : Heap} : Cd.vc Try.prog code_Decode_l2 Q ρ h = Cd.vc Try.prog (.seq (.region code_Decode_r10) (.seq (.cond (.tmp 50) (.skip) (.exit 2)) (.seq (.block 3 (.seq (.region code_Decode_r11) (.seq (.region code_Decode_r12) (.block 4 (.loop code_Decode_l1))))) (.region code_Decode_r18)))) Q ρ h := _root_.id rfl
def code_Decode : Cd := .seq (.region code_Decode_r0) (.seq (.seq (.region code_Decode_r1) (.cond (.tmp 20) (.seq (.region code_Decode_r2) (.ret)) (.skip))) (.seq (.region code_Decode_r3) (.seq (.region code_Decode_r4) (.seq (.region code_Decode_r5) (.seq (.block 0 (.loop code_Decode_l0)) (.seq (.seq (.region code_Decode_r9) (.block 2 (.loop code_Decode_l2))) (.seq (.seq (.region code_Decode_r19) (.seq (.region code_Decode_r20) (.cond (.tmp 89) (.seq (.region code_Decode_r21) (.ret)) (.skip)))) (.seq (.region code_Decode_r22) (.ret)))))))))
theorem code_Decode_go {Q : Ex → Env → Heap → Prop} {ρ : Env} {h : Heap} : Cd.vc Try.prog code_Decode Q ρ h = Cd.vc Try.prog (.seq (.region code_Decode_r0) (.seq (.seq (.region code_Decode_r1) (.cond (.tmp 20) (.seq (.region code_Decode_r2) (.ret)) (.skip))) (.seq (.region code_Decode_r3) (.seq (.region code_Decode_r4) (.seq (.region code_Decode_r5) (.seq (.block 0 (.loop code_Decode_l0)) (.seq (.seq (.region code_Decode_r9) (.block 2 (.loop code_Decode_l2))) (.seq (.seq (.region code_Decode_r19) (.seq (.region code_Decode_r20) (.cond (.tmp 89) (.seq (.region code_Decode_r21) (.ret)) (.skip)))) (.seq (.region code_Decode_r22) (.ret)))))))))) Q ρ h := _root_.id rfl
theorem code_Decode_calls {args : List Value} {h : Heap} {R : Value → Heap → Prop} (hl : args.length = 1) (hv : Cd.vc Try.prog code_Decode (retQ Try.prog [(2, none), (3, none), (4, none)] R) (initEnv args [0, 2, 3, 4, 5, 6, 7, 9, 11, 12, 13, 20, 36, 47, 48, 49, 50, 54, 55, 56, 57, 74, 89]) h) : HCalls Try.prog 11 args.toArray h R :=
  hcalls_of_vc (by kernel_rfl) Try.func11 (cd := code_Decode) (L := [0, 2, 3, 4, 5, 6, 7, 9, 11, 12, 13, 20, 36, 47, 48, 49, 50, 54, 55, 56, 57, 74, 89]) (by kernel_rfl) (by kernel_rfl) ⟨by rw [hl, Try.ntmps11]; decide, by rw [Try.ntmps11]; decide⟩ hv
def code_Decode_gos := And.intro @code_Decode_go (And.intro @code_Decode_r0_go (And.intro @code_Decode_r1_go (And.intro @code_Decode_r2_go (And.intro @code_Decode_r3_go (And.intro @code_Decode_r4_go (And.intro @code_Decode_r5_go (And.intro @code_Decode_r6_go (And.intro @code_Decode_r7_go (And.intro @code_Decode_r8_go (And.intro @code_Decode_r9_go (And.intro @code_Decode_r10_go (And.intro @code_Decode_r11_go (And.intro @code_Decode_r12_go (And.intro @code_Decode_r13_go (And.intro @code_Decode_r14_go (And.intro @code_Decode_r15_go (And.intro @code_Decode_r16_go (And.intro @code_Decode_r17_go (And.intro @code_Decode_r18_go (And.intro @code_Decode_r19_go (And.intro @code_Decode_r20_go (And.intro @code_Decode_r21_go (And.intro @code_Decode_r22_go (And.intro @code_Decode_l0_go (And.intro @code_Decode_l1_go (@code_Decode_l2_go))))))))))))))))))))))))))

end Go.Proofs.Ytjpcpkhegjndeaa.C
