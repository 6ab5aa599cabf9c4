/- The stripped code of some functions of this seat's program, printed by a program; that it is that code is proved by the kernel. No condition. -/

import Derived.Test.YtjpcpkhegjndeaaProg

import Derived.Test.YtjpcpkhegjndeaaVcH

set_option maxRecDepth 100000

set_option linter.defProp false

namespace Go.Proofs.Ytjpcpkhegjndeaa.C

open Go.Vc

/-! jvmcore/jvmcoreref2.form: function 16: slots [0, 2, 4] -/
def ref2_form_r0 : List Sop := [
  ⟨some (2, true), .assign (.const (.string { data := #[] })), 9, none, true⟩]
theorem ref2_form_r0_go {K : Env → Heap → Prop} {τ ρ : Env} {h : Heap} : vcOps Try.prog K ref2_form_r0 τ ρ h = vcOps Try.prog K [
  ⟨some (2, true), .assign (.const (.string { data := #[] })), 9, none, true⟩] τ ρ h := _root_.id rfl
def ref2_form_r1 : List Sop := [
  ⟨some (3, false), .move (.tmp 0), 3, none, true⟩,
  ⟨some (4, true), .binOp .geq 3 (.tmp 3) (.const (.int .i64 201)) 3, 4, none, true⟩]
theorem ref2_form_r1_go {K : Env → Heap → Prop} {τ ρ : Env} {h : Heap} : vcOps Try.prog K ref2_form_r1 τ ρ h = vcOps Try.prog K [
  ⟨some (3, false), .move (.tmp 0), 3, none, true⟩,
  ⟨some (4, true), .binOp .geq 3 (.tmp 3) (.const (.int .i64 201)) 3, 4, none, true⟩] τ ρ h := _root_.id rfl
def ref2_form_r2 : List Sop := [
  ⟨some (2, true), .assign (.const (.string { data := #[120] })), 9, none, true⟩]
theorem ref2_form_r2_go {K : Env → Heap → Prop} {τ ρ : Env} {h : Heap} : vcOps Try.prog K ref2_form_r2 τ ρ h = vcOps Try.prog K [
  ⟨some (2, true), .assign (.const (.string { data := #[120] })), 9, none, true⟩] τ ρ h := _root_.id rfl
def ref2_form_r3 : List Sop := [
  ⟨some (5, false), .move (.tmp 0), 3, none, true⟩,
  ⟨some (6, false), .move (.tmp 0), 3, none, true⟩,
  ⟨some (7, false), .binOp .add 3 (.tmp 6) (.const (.int .i64 1)) 3, 3, none, true⟩,
  ⟨some (8, false), .slice 9 (.const (.string { data := List.toArray (List.append (List.append [46, 46, 46, 46, 46, 46, 46, 46, 46, 46, 46, 46, 46, 46, 46, 46, 98, 115, 99, 105, 105, 108, 108, 108, 108, 108, 46, 46, 46, 46, 46, 46, 46, 46, 46, 46, 46, 46, 46, 46, 46, 46, 46, 46, 46, 46, 46, 46, 46, 46] [46, 46, 46, 46, 108, 108, 108, 108, 108, 46, 46, 46, 46, 46, 46, 46, 46, 46, 46, 46, 46, 46, 46, 46, 46, 46, 46, 46, 46, 46, 46, 46, 46, 46, 46, 46, 46, 46, 46, 46, 46, 46, 46, 46, 46, 46, 46, 46, 46, 46]) (List.append [46, 46, 46, 46, 46, 46, 46, 46, 46, 46, 46, 46, 46, 46, 46, 46, 46, 46, 46, 46, 46, 46, 46, 46, 46, 46, 46, 46, 46, 46, 46, 46, 110, 46, 46, 46, 46, 46, 46, 46, 46, 46, 46, 46, 46, 46, 46, 46, 46, 46] [46, 46, 46, 106, 106, 106, 106, 106, 106, 106, 106, 106, 106, 106, 106, 106, 106, 106, 120, 120, 116, 107, 46, 46, 46, 46, 46, 46, 105, 105, 105, 105, 105, 105, 105, 102, 120, 105, 97, 105, 46, 46, 105, 105, 46, 46, 119, 109, 106, 106, 74])) })) (some (.tmp 5)) (some (.tmp 7)) none, 9, none, true⟩,
  ⟨some (2, true), .assign (.tmp 8), 9, none, true⟩]
theorem ref2_form_r3_go {K : Env → Heap → Prop} {τ ρ : Env} {h : Heap} : vcOps Try.prog K ref2_form_r3 τ ρ h = vcOps Try.prog K [
  ⟨some (5, false), .move (.tmp 0), 3, none, true⟩,
  ⟨some (6, false), .move (.tmp 0), 3, none, true⟩,
  ⟨some (7, false), .binOp .add 3 (.tmp 6) (.const (.int .i64 1)) 3, 3, none, true⟩,
  ⟨some (8, false), .slice 9 (.const (.string { data := List.toArray (List.append (List.append [46, 46, 46, 46, 46, 46, 46, 46, 46, 46, 46, 46, 46, 46, 46, 46, 98, 115, 99, 105, 105, 108, 108, 108, 108, 108, 46, 46, 46, 46, 46, 46, 46, 46, 46, 46, 46, 46, 46, 46, 46, 46, 46, 46, 46, 46, 46, 46, 46, 46] [46, 46, 46, 46, 108, 108, 108, 108, 108, 46, 46, 46, 46, 46, 46, 46, 46, 46, 46, 46, 46, 46, 46, 46, 46, 46, 46, 46, 46, 46, 46, 46, 46, 46, 46, 46, 46, 46, 46, 46, 46, 46, 46, 46, 46, 46, 46, 46, 46, 46]) (List.append [46, 46, 46, 46, 46, 46, 46, 46, 46, 46, 46, 46, 46, 46, 46, 46, 46, 46, 46, 46, 46, 46, 46, 46, 46, 46, 46, 46, 46, 46, 46, 46, 110, 46, 46, 46, 46, 46, 46, 46, 46, 46, 46, 46, 46, 46, 46, 46, 46, 46] [46, 46, 46, 106, 106, 106, 106, 106, 106, 106, 106, 106, 106, 106, 106, 106, 106, 106, 120, 120, 116, 107, 46, 46, 46, 46, 46, 46, 105, 105, 105, 105, 105, 105, 105, 102, 120, 105, 97, 105, 46, 46, 105, 105, 46, 46, 119, 109, 106, 106, 74])) })) (some (.tmp 5)) (some (.tmp 7)) none, 9, none, true⟩,
  ⟨some (2, true), .assign (.tmp 8), 9, none, true⟩] τ ρ h := _root_.id rfl
def ref2_form : Cd := .seq (.region ref2_form_r0) (.seq (.seq (.region ref2_form_r1) (.cond (.tmp 4) (.seq (.region ref2_form_r2) (.ret)) (.skip))) (.seq (.region ref2_form_r3) (.ret)))
theorem ref2_form_go {Q : Ex → Env → Heap → Prop} {ρ : Env} {h : Heap} : Cd.vc Try.prog ref2_form Q ρ h = Cd.vc Try.prog (.seq (.region ref2_form_r0) (.seq (.seq (.region ref2_form_r1) (.cond (.tmp 4) (.seq (.region ref2_form_r2) (.ret)) (.skip))) (.seq (.region ref2_form_r3) (.ret)))) Q ρ h := _root_.id rfl
theorem ref2_form_calls {args : List Value} {h : Heap} {R : Value → Heap → Prop} (hl : args.length = 1) (hv : Cd.vc Try.prog ref2_form (retQ Try.prog [(2, none)] R) (initEnv args [0, 2, 4]) h) : HCalls Try.prog 16 args.toArray h R :=
  hcalls_of_vc (by kernel_rfl) Try.func16 (cd := ref2_form) (L := [0, 2, 4]) (by kernel_rfl) (by kernel_rfl) ⟨by rw [hl, Try.ntmps16]; decide, by rw [Try.ntmps16]; decide⟩ hv
def ref2_form_gos := And.intro @ref2_form_go (And.intro @ref2_form_r0_go (And.intro @ref2_form_r1_go (And.intro @ref2_form_r2_go (@ref2_form_r3_go))))

/-! jvmcore/jvmcoreref2.in: function 43: slots [0, 1, 2, 6, 7] -/
def ref2_in_r0 : List Sop := [
  ⟨some (6, true), .assign (.const (.bool false)), 4, none, true⟩]
theorem ref2_in_r0_go {K : Env → Heap → Prop} {τ ρ : Env} {h : Heap} : vcOps Try.prog K ref2_in_r0 τ ρ h = vcOps Try.prog K [
  ⟨some (6, true), .assign (.const (.bool false)), 4, none, true⟩] τ ρ h := _root_.id rfl
def ref2_in_r1 : List Sop := [
  ⟨some (7, true), .move (.tmp 2), 4, none, true⟩]
theorem ref2_in_r1_go {K : Env → Heap → Prop} {τ ρ : Env} {h : Heap} : vcOps Try.prog K ref2_in_r1 τ ρ h = vcOps Try.prog K [
  ⟨some (7, true), .move (.tmp 2), 4, none, true⟩] τ ρ h := _root_.id rfl
def ref2_in_r2 : List Sop := [
  ⟨some (8, false), .move (.tmp 0), 3, none, true⟩,
  ⟨some (9, false), .move (.tmp 1), 3, none, true⟩,
  ⟨some (10, false), .binOp .mul 3 (.const (.int .i64 8)) (.tmp 9) 3, 3, none, true⟩,
  ⟨some (11, false), .binOp .sub 3 (.tmp 10) (.const (.int .i64 1)) 3, 3, none, true⟩,
  ⟨some (12, false), .binOp .shl 3 (.const (.int .i64 (-1))) (.tmp 11) 3, 3, none, true⟩,
  ⟨some (13, false), .binOp .geq 3 (.tmp 8) (.tmp 12) 3, 4, none, true⟩,
  ⟨some (14, false), .move (.tmp 13), 4, none, true⟩,
  ⟨some (15, false), .move (.tmp 0), 3, some (14, true), true⟩,
  ⟨some (16, false), .move (.tmp 1), 3, some (14, true), true⟩,
  ⟨some (17, false), .binOp .mul 3 (.const (.int .i64 8)) (.tmp 16) 3, 3, some (14, true), true⟩,
  ⟨some (18, false), .binOp .sub 3 (.tmp 17) (.const (.int .i64 1)) 3, 3, some (14, true), true⟩,
  ⟨some (19, false), .binOp .shl 3 (.const (.int .i64 1)) (.tmp 18) 3, 3, some (14, true), true⟩,
  ⟨some (20, false), .binOp .lss 3 (.tmp 15) (.tmp 19) 3, 4, some (14, true), true⟩,
  ⟨some (21, false), .pick (.tmp 14) (.tmp 20) (.const (.bool false)), 4, none, true⟩,
  ⟨some (6, true), .assign (.tmp 21), 4, none, true⟩]
theorem ref2_in_r2_go {K : Env → Heap → Prop} {τ ρ : Env} {h : Heap} : vcOps Try.prog K ref2_in_r2 τ ρ h = vcOps Try.prog K [
  ⟨some (8, false), .move (.tmp 0), 3, none, true⟩,
  ⟨some (9, false), .move (.tmp 1), 3, none, true⟩,
  ⟨some (10, false), .binOp .mul 3 (.const (.int .i64 8)) (.tmp 9) 3, 3, none, true⟩,
  ⟨some (11, false), .binOp .sub 3 (.tmp 10) (.const (.int .i64 1)) 3, 3, none, true⟩,
  ⟨some (12, false), .binOp .shl 3 (.const (.int .i64 (-1))) (.tmp 11) 3, 3, none, true⟩,
  ⟨some (13, false), .binOp .geq 3 (.tmp 8) (.tmp 12) 3, 4, none, true⟩,
  ⟨some (14, false), .move (.tmp 13), 4, none, true⟩,
  ⟨some (15, false), .move (.tmp 0), 3, some (14, true), true⟩,
  ⟨some (16, false), .move (.tmp 1), 3, some (14, true), true⟩,
  ⟨some (17, false), .binOp .mul 3 (.const (.int .i64 8)) (.tmp 16) 3, 3, some (14, true), true⟩,
  ⟨some (18, false), .binOp .sub 3 (.tmp 17) (.const (.int .i64 1)) 3, 3, some (14, true), true⟩,
  ⟨some (19, false), .binOp .shl 3 (.const (.int .i64 1)) (.tmp 18) 3, 3, some (14, true), true⟩,
  ⟨some (20, false), .binOp .lss 3 (.tmp 15) (.tmp 19) 3, 4, some (14, true), true⟩,
  ⟨some (21, false), .pick (.tmp 14) (.tmp 20) (.const (.bool false)), 4, none, true⟩,
  ⟨some (6, true), .assign (.tmp 21), 4, none, true⟩] τ ρ h := _root_.id rfl
def ref2_in_r3 : List Sop := [
  ⟨some (22, false), .move (.tmp 0), 3, none, true⟩,
  ⟨some (23, false), .binOp .geq 3 (.tmp 22) (.const (.int .i64 0)) 3, 4, none, true⟩,
  ⟨some (24, false), .move (.tmp 23), 4, none, true⟩,
  ⟨some (25, false), .move (.tmp 0), 3, some (24, true), true⟩,
  ⟨some (26, false), .move (.tmp 1), 3, some (24, true), true⟩,
  ⟨some (27, false), .binOp .mul 3 (.const (.int .i64 8)) (.tmp 26) 3, 3, some (24, true), true⟩,
  ⟨some (28, false), .binOp .shl 3 (.const (.int .i64 1)) (.tmp 27) 3, 3, some (24, true), true⟩,
  ⟨some (29, false), .binOp .lss 3 (.tmp 25) (.tmp 28) 3, 4, some (24, true), true⟩,
  ⟨some (30, false), .pick (.tmp 24) (.tmp 29) (.const (.bool false)), 4, none, true⟩,
  ⟨some (6, true), .assign (.tmp 30), 4, none, true⟩]
theorem ref2_in_r3_go {K : Env → Heap → Prop} {τ ρ : Env} {h : Heap} : vcOps Try.prog K ref2_in_r3 τ ρ h = vcOps Try.prog K [
  ⟨some (22, false), .move (.tmp 0), 3, none, true⟩,
  ⟨some (23, false), .binOp .geq 3 (.tmp 22) (.const (.int .i64 0)) 3, 4, none, true⟩,
  ⟨some (24, false), .move (.tmp 23), 4, none, true⟩,
  ⟨some (25, false), .move (.tmp 0), 3, some (24, true), true⟩,
  ⟨some (26, false), .move (.tmp 1), 3, some (24, true), true⟩,
  ⟨some (27, false), .binOp .mul 3 (.const (.int .i64 8)) (.tmp 26) 3, 3, some (24, true), true⟩,
  ⟨some (28, false), .binOp .shl 3 (.const (.int .i64 1)) (.tmp 27) 3, 3, some (24, true), true⟩,
  ⟨some (29, false), .binOp .lss 3 (.tmp 25) (.tmp 28) 3, 4, some (24, true), true⟩,
  ⟨some (30, false), .pick (.tmp 24) (.tmp 29) (.const (.bool false)), 4, none, true⟩,
  ⟨some (6, true), .assign (.tmp 30), 4, none, true⟩] τ ρ h := _root_.id rfl
def ref2_in : Cd := .seq (.region ref2_in_r0) (.seq (.seq (.region ref2_in_r1) (.cond (.tmp 7) (.seq (.region ref2_in_r2) (.ret)) (.skip))) (.seq (.region ref2_in_r3) (.ret)))
theorem ref2_in_go {Q : Ex → Env → Heap → Prop} {ρ : Env} {h : Heap} : Cd.vc Try.prog ref2_in Q ρ h = Cd.vc Try.prog (.seq (.region ref2_in_r0) (.seq (.seq (.region ref2_in_r1) (.cond (.tmp 7) (.seq (.region ref2_in_r2) (.ret)) (.skip))) (.seq (.region ref2_in_r3) (.ret)))) Q ρ h := _root_.id rfl
theorem ref2_in_calls {args : List Value} {h : Heap} {R : Value → Heap → Prop} (hl : args.length = 3) (hv : Cd.vc Try.prog ref2_in (retQ Try.prog [(6, none)] R) (initEnv args [0, 1, 2, 6, 7]) h) : HCalls Try.prog 43 args.toArray h R :=
  hcalls_of_vc (by kernel_rfl) Try.func43 (cd := ref2_in) (L := [0, 1, 2, 6, 7]) (by kernel_rfl) (by kernel_rfl) ⟨by rw [hl, Try.ntmps43]; decide, by rw [Try.ntmps43]; decide⟩ hv
def ref2_in_gos := And.intro @ref2_in_go (And.intro @ref2_in_r0_go (And.intro @ref2_in_r1_go (And.intro @ref2_in_r2_go (@ref2_in_r3_go))))

/-! jvmcore/jvmcoreref2.bytes: function 34: slots [0, 1, 2, 6, 7] -/
def ref2_bytes_r0 : List Sop := [
  ⟨some (6, true), .assign (.const (.string { data := #[] })), 9, none, true⟩,
  ⟨some (7, true), .assign (.const (.bool false)), 4, none, true⟩]
theorem ref2_bytes_r0_go {K : Env → Heap → Prop} {τ ρ : Env} {h : Heap} : vcOps Try.prog K ref2_bytes_r0 τ ρ h = vcOps Try.prog K [
  ⟨some (6, true), .assign (.const (.string { data := #[] })), 9, none, true⟩,
  ⟨some (7, true), .assign (.const (.bool false)), 4, none, true⟩] τ ρ h := _root_.id rfl
def ref2_bytes_r1 : List Sop := [
  ⟨some (8, false), .move (.tmp 0), 3, none, true⟩,
  ⟨some (9, false), .convert 3 74 (.tmp 8), 74, none, true⟩,
  ⟨some (10, false), .move (.tmp 1), 3, none, true⟩,
  ⟨some (11, false), .call { callee := .value (.func 42), args := #[.tmp 9, .tmp 10], argTypes := #[74, 3] }, 9, none, false⟩,
  ⟨some (12, false), .move (.tmp 0), 3, none, true⟩,
  ⟨some (13, false), .move (.tmp 1), 3, none, true⟩,
  ⟨some (14, false), .move (.tmp 2), 4, none, true⟩,
  ⟨some (15, false), .call { callee := .value (.func 43), args := #[.tmp 12, .tmp 13, .tmp 14], argTypes := #[3, 3, 4] }, 4, none, false⟩,
  ⟨some (6, true), .assign (.tmp 11), 9, none, true⟩,
  ⟨some (7, true), .assign (.tmp 15), 4, none, true⟩]
theorem ref2_bytes_r1_go {K : Env → Heap → Prop} {τ ρ : Env} {h : Heap} : vcOps Try.prog K ref2_bytes_r1 τ ρ h = vcOps Try.prog K [
  ⟨some (8, false), .move (.tmp 0), 3, none, true⟩,
  ⟨some (9, false), .convert 3 74 (.tmp 8), 74, none, true⟩,
  ⟨some (10, false), .move (.tmp 1), 3, none, true⟩,
  ⟨some (11, false), .call { callee := .value (.func 42), args := #[.tmp 9, .tmp 10], argTypes := #[74, 3] }, 9, none, false⟩,
  ⟨some (12, false), .move (.tmp 0), 3, none, true⟩,
  ⟨some (13, false), .move (.tmp 1), 3, none, true⟩,
  ⟨some (14, false), .move (.tmp 2), 4, none, true⟩,
  ⟨some (15, false), .call { callee := .value (.func 43), args := #[.tmp 12, .tmp 13, .tmp 14], argTypes := #[3, 3, 4] }, 4, none, false⟩,
  ⟨some (6, true), .assign (.tmp 11), 9, none, true⟩,
  ⟨some (7, true), .assign (.tmp 15), 4, none, true⟩] τ ρ h := _root_.id rfl
def ref2_bytes : Cd := .seq (.region ref2_bytes_r0) (.seq (.region ref2_bytes_r1) (.ret))
theorem ref2_bytes_go {Q : Ex → Env → Heap → Prop} {ρ : Env} {h : Heap} : Cd.vc Try.prog ref2_bytes Q ρ h = Cd.vc Try.prog (.seq (.region ref2_bytes_r0) (.seq (.region ref2_bytes_r1) (.ret))) Q ρ h := _root_.id rfl
theorem ref2_bytes_calls {args : List Value} {h : Heap} {R : Value → Heap → Prop} (hl : args.length = 3) (hv : Cd.vc Try.prog ref2_bytes (retQ Try.prog [(6, none), (7, none)] R) (initEnv args [0, 1, 2, 6, 7]) h) : HCalls Try.prog 34 args.toArray h R :=
  hcalls_of_vc (by kernel_rfl) Try.func34 (cd := ref2_bytes) (L := [0, 1, 2, 6, 7]) (by kernel_rfl) (by kernel_rfl) ⟨by rw [hl, Try.ntmps34]; decide, by rw [Try.ntmps34]; decide⟩ hv
def ref2_bytes_gos := And.intro @ref2_bytes_go (And.intro @ref2_bytes_r0_go (@ref2_bytes_r1_go))

/-! jvmcore/jvmcoreref2.choice: function 33: slots [0, 1, 2, 4, 5, 6, 7, 8, 9, 10, 11, 12, 13, 14, 15, 16, 17, 18, 19, 30, 56, 71, 108, 111] -/
def ref2_choice_r0 : List Sop := [
  ⟨some (2, true), .box 35 (.tmp 0), 0, none, false⟩,
  ⟨some (4, true), .assign (.const (.string { data := #[] })), 9, none, true⟩,
  ⟨some (5, true), .assign (.const (.bool false)), 4, none, true⟩]
theorem ref2_choice_r0_go {K : Env → Heap → Prop} {τ ρ : Env} {h : Heap} : vcOps Try.prog K ref2_choice_r0 τ ρ h = vcOps Try.prog K [
  ⟨some (2, true), .box 35 (.tmp 0), 0, none, false⟩,
  ⟨some (4, true), .assign (.const (.string { data := #[] })), 9, none, true⟩,
  ⟨some (5, true), .assign (.const (.bool false)), 4, none, true⟩] τ ρ h := _root_.id rfl
def ref2_choice_r1 : List Sop := [
  ⟨some (20, false), .fieldAddr 35 (.tmp 2) 1, 0, none, true⟩,
  ⟨some (21, false), .load 5 (.tmp 20), 5, none, true⟩,
  ⟨some (22, false), .buildSlice 37 1 #[(0, .tmp 21)], 37, none, false⟩,
  ⟨some (23, false), .convert 37 9 (.tmp 22), 9, none, true⟩,
  ⟨some (6, true), .assign (.tmp 23), 9, none, true⟩]
theorem ref2_choice_r1_go {K : Env → Heap → Prop} {τ ρ : Env} {h : Heap} : vcOps Try.prog K ref2_choice_r1 τ ρ h = vcOps Try.prog K [
  ⟨some (20, false), .fieldAddr 35 (.tmp 2) 1, 0, none, true⟩,
  ⟨some (21, false), .load 5 (.tmp 20), 5, none, true⟩,
  ⟨some (22, false), .buildSlice 37 1 #[(0, .tmp 21)], 37, none, false⟩,
  ⟨some (23, false), .convert 37 9 (.tmp 22), 9, none, true⟩,
  ⟨some (6, true), .assign (.tmp 23), 9, none, true⟩] τ ρ h := _root_.id rfl
def ref2_choice_r2 : List Sop := [
  ⟨some (24, false), .fieldAddr 35 (.tmp 2) 0, 0, none, true⟩,
  ⟨some (25, false), .load 3 (.tmp 24), 3, none, true⟩,
  ⟨some (26, false), .move (.tmp 6), 9, none, true⟩,
  ⟨some (27, false), .call { callee := .builtin .len, args := #[.tmp 26], argTypes := #[9] }, 3, none, true⟩,
  ⟨some (28, false), .binOp .add 3 (.tmp 25) (.tmp 27) 3, 3, none, true⟩,
  ⟨some (29, false), .binOp .rem 3 (.tmp 28) (.const (.int .i64 4)) 3, 3, none, true⟩,
  ⟨some (30, true), .binOp .neq 3 (.tmp 29) (.const (.int .i64 0)) 3, 4, none, true⟩]
theorem ref2_choice_r2_go {K : Env → Heap → Prop} {τ ρ : Env} {h : Heap} : vcOps Try.prog K ref2_choice_r2 τ ρ h = vcOps Try.prog K [
  ⟨some (24, false), .fieldAddr 35 (.tmp 2) 0, 0, none, true⟩,
  ⟨some (25, false), .load 3 (.tmp 24), 3, none, true⟩,
  ⟨some (26, false), .move (.tmp 6), 9, none, true⟩,
  ⟨some (27, false), .call { callee := .builtin .len, args := #[.tmp 26], argTypes := #[9] }, 3, none, true⟩,
  ⟨some (28, false), .binOp .add 3 (.tmp 25) (.tmp 27) 3, 3, none, true⟩,
  ⟨some (29, false), .binOp .rem 3 (.tmp 28) (.const (.int .i64 4)) 3, 3, none, true⟩,
  ⟨some (30, true), .binOp .neq 3 (.tmp 29) (.const (.int .i64 0)) 3, 4, none, true⟩] τ ρ h := _root_.id rfl
def ref2_choice_r3 : List Sop := [
  ⟨some (31, false), .move (.tmp 6), 9, none, true⟩,
  ⟨some (32, false), .binOp .add 9 (.tmp 31) (.const (.string { data := #[0] })) 9, 9, none, true⟩,
  ⟨some (6, true), .assign (.tmp 32), 9, none, true⟩]
theorem ref2_choice_r3_go {K : Env → Heap → Prop} {τ ρ : Env} {h : Heap} : vcOps Try.prog K ref2_choice_r3 τ ρ h = vcOps Try.prog K [
  ⟨some (31, false), .move (.tmp 6), 9, none, true⟩,
  ⟨some (32, false), .binOp .add 9 (.tmp 31) (.const (.string { data := #[0] })) 9, 9, none, true⟩,
  ⟨some (6, true), .assign (.tmp 32), 9, none, true⟩] τ ρ h := _root_.id rfl
def ref2_choice_r4 : List Sop := [
  ⟨some (33, false), .fieldAddr 35 (.tmp 2) 7, 0, none, true⟩,
  ⟨some (34, false), .load 33 (.tmp 33), 33, none, true⟩,
  ⟨some (35, false), .call { callee := .builtin .len, args := #[.tmp 34], argTypes := #[33] }, 3, none, true⟩,
  ⟨some (36, false), .binOp .sub 3 (.tmp 35) (.const (.int .i64 1)) 3, 3, none, true⟩,
  ⟨some (7, true), .assign (.tmp 36), 3, none, true⟩]
theorem ref2_choice_r4_go {K : Env → Heap → Prop} {τ ρ : Env} {h : Heap} : vcOps Try.prog K ref2_choice_r4 τ ρ h = vcOps Try.prog K [
  ⟨some (33, false), .fieldAddr 35 (.tmp 2) 7, 0, none, true⟩,
  ⟨some (34, false), .load 33 (.tmp 33), 33, none, true⟩,
  ⟨some (35, false), .call { callee := .builtin .len, args := #[.tmp 34], argTypes := #[33] }, 3, none, true⟩,
  ⟨some (36, false), .binOp .sub 3 (.tmp 35) (.const (.int .i64 1)) 3, 3, none, true⟩,
  ⟨some (7, true), .assign (.tmp 36), 3, none, true⟩] τ ρ h := _root_.id rfl
def ref2_choice_r5 : List Sop := [
  ⟨some (37, false), .move (.tmp 7), 3, none, true⟩,
  ⟨some (38, false), .binOp .lss 3 (.tmp 37) (.const (.int .i64 0)) 3, 4, none, true⟩,
  ⟨some (39, false), .move (.tmp 38), 4, none, true⟩,
  ⟨some (40, false), .move (.tmp 1), 4, some (39, false), true⟩,
  ⟨some (41, false), .move (.tmp 40), 4, some (39, false), true⟩,
  ⟨some (42, false), .move (.tmp 7), 3, some (41, true), true⟩,
  ⟨some (43, false), .fieldAddr 35 (.tmp 2) 6, 0, some (41, true), true⟩,
  ⟨some (44, false), .load 33 (.tmp 43), 33, some (41, true), true⟩,
  ⟨some (45, false), .call { callee := .builtin .len, args := #[.tmp 44], argTypes := #[33] }, 3, some (41, true), true⟩,
  ⟨some (46, false), .binOp .neq 3 (.tmp 42) (.tmp 45) 3, 4, some (41, true), true⟩,
  ⟨some (47, false), .pick (.tmp 41) (.tmp 46) (.const (.bool false)), 4, some (39, false), true⟩,
  ⟨some (48, false), .pick (.tmp 39) (.const (.bool true)) (.tmp 47), 4, none, true⟩,
  ⟨some (49, false), .move (.tmp 48), 4, none, true⟩,
  ⟨some (50, false), .move (.tmp 1), 4, some (49, false), true⟩,
  ⟨some (51, false), .unOp .not 4 (.tmp 50), 4, some (49, false), true⟩,
  ⟨some (52, false), .move (.tmp 51), 4, some (49, false), true⟩,
  ⟨some (53, false), .move (.tmp 7), 3, some (52, true), true⟩,
  ⟨some (54, false), .binOp .lss 3 (.tmp 53) (.const (.int .i64 1)) 3, 4, some (52, true), true⟩,
  ⟨some (55, false), .pick (.tmp 52) (.tmp 54) (.const (.bool false)), 4, some (49, false), true⟩,
  ⟨some (56, true), .pick (.tmp 49) (.const (.bool true)) (.tmp 55), 4, none, true⟩]
theorem ref2_choice_r5_go {K : Env → Heap → Prop} {τ ρ : Env} {h : Heap} : vcOps Try.prog K ref2_choice_r5 τ ρ h = vcOps Try.prog K [
  ⟨some (37, false), .move (.tmp 7), 3, none, true⟩,
  ⟨some (38, false), .binOp .lss 3 (.tmp 37) (.const (.int .i64 0)) 3, 4, none, true⟩,
  ⟨some (39, false), .move (.tmp 38), 4, none, true⟩,
  ⟨some (40, false), .move (.tmp 1), 4, some (39, false), true⟩,
  ⟨some (41, false), .move (.tmp 40), 4, some (39, false), true⟩,
  ⟨some (42, false), .move (.tmp 7), 3, some (41, true), true⟩,
  ⟨some (43, false), .fieldAddr 35 (.tmp 2) 6, 0, some (41, true), true⟩,
  ⟨some (44, false), .load 33 (.tmp 43), 33, some (41, true), true⟩,
  ⟨some (45, false), .call { callee := .builtin .len, args := #[.tmp 44], argTypes := #[33] }, 3, some (41, true), true⟩,
  ⟨some (46, false), .binOp .neq 3 (.tmp 42) (.tmp 45) 3, 4, some (41, true), true⟩,
  ⟨some (47, false), .pick (.tmp 41) (.tmp 46) (.const (.bool false)), 4, some (39, false), true⟩,
  ⟨some (48, false), .pick (.tmp 39) (.const (.bool true)) (.tmp 47), 4, none, true⟩,
  ⟨some (49, false), .move (.tmp 48), 4, none, true⟩,
  ⟨some (50, false), .move (.tmp 1), 4, some (49, false), true⟩,
  ⟨some (51, false), .unOp .not 4 (.tmp 50), 4, some (49, false), true⟩,
  ⟨some (52, false), .move (.tmp 51), 4, some (49, false), true⟩,
  ⟨some (53, false), .move (.tmp 7), 3, some (52, true), true⟩,
  ⟨some (54, false), .binOp .lss 3 (.tmp 53) (.const (.int .i64 1)) 3, 4, some (52, true), true⟩,
  ⟨some (55, false), .pick (.tmp 52) (.tmp 54) (.const (.bool false)), 4, some (49, false), true⟩,
  ⟨some (56, true), .pick (.tmp 49) (.const (.bool true)) (.tmp 55), 4, none, true⟩] τ ρ h := _root_.id rfl
def ref2_choice_r6 : List Sop := [
  ⟨some (4, true), .assign (.const (.string { data := #[] })), 9, none, true⟩,
  ⟨some (5, true), .assign (.const (.bool false)), 4, none, true⟩]
theorem ref2_choice_r6_go {K : Env → Heap → Prop} {τ ρ : Env} {h : Heap} : vcOps Try.prog K ref2_choice_r6 τ ρ h = vcOps Try.prog K [
  ⟨some (4, true), .assign (.const (.string { data := #[] })), 9, none, true⟩,
  ⟨some (5, true), .assign (.const (.bool false)), 4, none, true⟩] τ ρ h := _root_.id rfl
def ref2_choice_r7 : List (Sop × List Sop) := [
  (⟨some (58, false), .fieldAddr 35 (.tmp 2) 7, 0, none, true⟩, []),
  (⟨some (59, false), .load 33 (.tmp 58), 33, none, true⟩, []),
  (⟨some (60, false), .indexAddr 33 (.tmp 59) (.const (.int .i64 0)), 0, none, true⟩, []),
  (⟨some (61, false), .load 3 (.tmp 60), 3, none, true⟩, []),
  (⟨some (62, false), .fieldAddr 35 (.tmp 2) 0, 0, none, true⟩, []),
  (⟨some (63, false), .load 3 (.tmp 62), 3, none, true⟩, []),
  (⟨some (64, false), .binOp .sub 3 (.tmp 61) (.tmp 63) 3, 3, none, true⟩, []),
  (⟨some (65, false), .call { callee := .value (.func 34), args := #[.tmp 64, .const (.int .i64 4), .const (.bool true)], argTypes := #[3, 3, 4] }, 45, none, false⟩, []),
  (⟨some (57, false), .move (.tmp 65), 45, none, true⟩, []),
  (⟨some (66, false), .extract (.tmp 57) 0, 9, none, true⟩, []),
  (⟨some (67, false), .extract (.tmp 57) 1, 4, none, true⟩, []),
  (⟨some (8, true), .assign (.tmp 66), 9, none, true⟩, []),
  (⟨some (9, true), .assign (.tmp 67), 4, none, true⟩, [])]
theorem ref2_choice_r7_go {K : Env → Heap → Prop} {τ ρ : Env} {h : Heap} : vcDraw Try.prog K ref2_choice_r7 τ ρ h = vcDraw Try.prog K [
  (⟨some (58, false), .fieldAddr 35 (.tmp 2) 7, 0, none, true⟩, []),
  (⟨some (59, false), .load 33 (.tmp 58), 33, none, true⟩, []),
  (⟨some (60, false), .indexAddr 33 (.tmp 59) (.const (.int .i64 0)), 0, none, true⟩, []),
  (⟨some (61, false), .load 3 (.tmp 60), 3, none, true⟩, []),
  (⟨some (62, false), .fieldAddr 35 (.tmp 2) 0, 0, none, true⟩, []),
  (⟨some (63, false), .load 3 (.tmp 62), 3, none, true⟩, []),
  (⟨some (64, false), .binOp .sub 3 (.tmp 61) (.tmp 63) 3, 3, none, true⟩, []),
  (⟨some (65, false), .call { callee := .value (.func 34), args := #[.tmp 64, .const (.int .i64 4), .const (.bool true)], argTypes := #[3, 3, 4] }, 45, none, false⟩, []),
  (⟨some (57, false), .move (.tmp 65), 45, none, true⟩, []),
  (⟨some (66, false), .extract (.tmp 57) 0, 9, none, true⟩, []),
  (⟨some (67, false), .extract (.tmp 57) 1, 4, none, true⟩, []),
  (⟨some (8, true), .assign (.tmp 66), 9, none, true⟩, []),
  (⟨some (9, true), .assign (.tmp 67), 4, none, true⟩, [])] τ ρ h := _root_.id rfl
def ref2_choice_r8 : List Sop := [
  ⟨some (68, false), .move (.tmp 6), 9, none, true⟩,
  ⟨some (69, false), .move (.tmp 8), 9, none, true⟩,
  ⟨some (70, false), .binOp .add 9 (.tmp 68) (.tmp 69) 9, 9, none, true⟩,
  ⟨some (6, true), .assign (.tmp 70), 9, none, true⟩]
theorem ref2_choice_r8_go {K : Env → Heap → Prop} {τ ρ : Env} {h : Heap} : vcOps Try.prog K ref2_choice_r8 τ ρ h = vcOps Try.prog K [
  ⟨some (68, false), .move (.tmp 6), 9, none, true⟩,
  ⟨some (69, false), .move (.tmp 8), 9, none, true⟩,
  ⟨some (70, false), .binOp .add 9 (.tmp 68) (.tmp 69) 9, 9, none, true⟩,
  ⟨some (6, true), .assign (.tmp 70), 9, none, true⟩] τ ρ h := _root_.id rfl
def ref2_choice_r9 : List Sop := [
  ⟨some (71, true), .move (.tmp 1), 4, none, true⟩]
theorem ref2_choice_r9_go {K : Env → Heap → Prop} {τ ρ : Env} {h : Heap} : vcOps Try.prog K ref2_choice_r9 τ ρ h = vcOps Try.prog K [
  ⟨some (71, true), .move (.tmp 1), 4, none, true⟩] τ ρ h := _root_.id rfl
def ref2_choice_r10 : List Sop := [
  ⟨some (72, false), .move (.tmp 6), 9, none, true⟩,
  ⟨some (73, false), .move (.tmp 7), 3, none, true⟩,
  ⟨some (74, false), .convert 3 74 (.tmp 73), 74, none, true⟩,
  ⟨some (75, false), .call { callee := .value (.func 42), args := #[.tmp 74, .const (.int .i64 4)], argTypes := #[74, 3] }, 9, none, false⟩,
  ⟨some (76, false), .binOp .add 9 (.tmp 72) (.tmp 75) 9, 9, none, true⟩,
  ⟨some (6, true), .assign (.tmp 76), 9, none, true⟩]
theorem ref2_choice_r10_go {K : Env → Heap → Prop} {τ ρ : Env} {h : Heap} : vcOps Try.prog K ref2_choice_r10 τ ρ h = vcOps Try.prog K [
  ⟨some (72, false), .move (.tmp 6), 9, none, true⟩,
  ⟨some (73, false), .move (.tmp 7), 3, none, true⟩,
  ⟨some (74, false), .convert 3 74 (.tmp 73), 74, none, true⟩,
  ⟨some (75, false), .call { callee := .value (.func 42), args := #[.tmp 74, .const (.int .i64 4)], argTypes := #[74, 3] }, 9, none, false⟩,
  ⟨some (76, false), .binOp .add 9 (.tmp 72) (.tmp 75) 9, 9, none, true⟩,
  ⟨some (6, true), .assign (.tmp 76), 9, none, true⟩] τ ρ h := _root_.id rfl
def ref2_choice_r11 : List Sop := [
  ⟨some (78, false), .fieldAddr 35 (.tmp 2) 5, 0, none, true⟩,
  ⟨some (79, false), .load 3 (.tmp 78), 3, none, true⟩,
  ⟨some (80, false), .call { callee := .value (.func 34), args := #[.tmp 79, .const (.int .i64 4), .const (.bool true)], argTypes := #[3, 3, 4] }, 45, none, false⟩,
  ⟨some (77, false), .move (.tmp 80), 45, none, true⟩,
  ⟨some (81, false), .extract (.tmp 77) 0, 9, none, true⟩,
  ⟨some (82, false), .extract (.tmp 77) 1, 4, none, true⟩,
  ⟨some (10, true), .assign (.tmp 81), 9, none, true⟩,
  ⟨some (11, true), .assign (.tmp 82), 4, none, true⟩]
theorem ref2_choice_r11_go {K : Env → Heap → Prop} {τ ρ : Env} {h : Heap} : vcOps Try.prog K ref2_choice_r11 τ ρ h = vcOps Try.prog K [
  ⟨some (78, false), .fieldAddr 35 (.tmp 2) 5, 0, none, true⟩,
  ⟨some (79, false), .load 3 (.tmp 78), 3, none, true⟩,
  ⟨some (80, false), .call { callee := .value (.func 34), args := #[.tmp 79, .const (.int .i64 4), .const (.bool true)], argTypes := #[3, 3, 4] }, 45, none, false⟩,
  ⟨some (77, false), .move (.tmp 80), 45, none, true⟩,
  ⟨some (81, false), .extract (.tmp 77) 0, 9, none, true⟩,
  ⟨some (82, false), .extract (.tmp 77) 1, 4, none, true⟩,
  ⟨some (10, true), .assign (.tmp 81), 9, none, true⟩,
  ⟨some (11, true), .assign (.tmp 82), 4, none, true⟩] τ ρ h := _root_.id rfl
def ref2_choice_r12 : List Sop := [
  ⟨some (84, false), .fieldAddr 35 (.tmp 2) 5, 0, none, true⟩,
  ⟨some (85, false), .load 3 (.tmp 84), 3, none, true⟩,
  ⟨some (86, false), .move (.tmp 7), 3, none, true⟩,
  ⟨some (87, false), .binOp .add 3 (.tmp 85) (.tmp 86) 3, 3, none, true⟩,
  ⟨some (88, false), .binOp .sub 3 (.tmp 87) (.const (.int .i64 1)) 3, 3, none, true⟩,
  ⟨some (89, false), .call { callee := .value (.func 34), args := #[.tmp 88, .const (.int .i64 4), .const (.bool true)], argTypes := #[3, 3, 4] }, 45, none, false⟩,
  ⟨some (83, false), .move (.tmp 89), 45, none, true⟩,
  ⟨some (90, false), .extract (.tmp 83) 0, 9, none, true⟩,
  ⟨some (91, false), .extract (.tmp 83) 1, 4, none, true⟩,
  ⟨some (12, true), .assign (.tmp 90), 9, none, true⟩,
  ⟨some (13, true), .assign (.tmp 91), 4, none, true⟩]
theorem ref2_choice_r12_go {K : Env → Heap → Prop} {τ ρ : Env} {h : Heap} : vcOps Try.prog K ref2_choice_r12 τ ρ h = vcOps Try.prog K [
  ⟨some (84, false), .fieldAddr 35 (.tmp 2) 5, 0, none, true⟩,
  ⟨some (85, false), .load 3 (.tmp 84), 3, none, true⟩,
  ⟨some (86, false), .move (.tmp 7), 3, none, true⟩,
  ⟨some (87, false), .binOp .add 3 (.tmp 85) (.tmp 86) 3, 3, none, true⟩,
  ⟨some (88, false), .binOp .sub 3 (.tmp 87) (.const (.int .i64 1)) 3, 3, none, true⟩,
  ⟨some (89, false), .call { callee := .value (.func 34), args := #[.tmp 88, .const (.int .i64 4), .const (.bool true)], argTypes := #[3, 3, 4] }, 45, none, false⟩,
  ⟨some (83, false), .move (.tmp 89), 45, none, true⟩,
  ⟨some (90, false), .extract (.tmp 83) 0, 9, none, true⟩,
  ⟨some (91, false), .extract (.tmp 83) 1, 4, none, true⟩,
  ⟨some (12, true), .assign (.tmp 90), 9, none, true⟩,
  ⟨some (13, true), .assign (.tmp 91), 4, none, true⟩] τ ρ h := _root_.id rfl
def ref2_choice_r13 : List Sop := [
  ⟨some (92, false), .move (.tmp 6), 9, none, true⟩,
  ⟨some (93, false), .move (.tmp 10), 9, none, true⟩,
  ⟨some (94, false), .move (.tmp 12), 9, none, true⟩,
  ⟨some (95, false), .binOp .add 9 (.tmp 93) (.tmp 94) 9, 9, none, true⟩,
  ⟨some (96, false), .binOp .add 9 (.tmp 92) (.tmp 95) 9, 9, none, true⟩,
  ⟨some (6, true), .assign (.tmp 96), 9, none, true⟩]
theorem ref2_choice_r13_go {K : Env → Heap → Prop} {τ ρ : Env} {h : Heap} : vcOps Try.prog K ref2_choice_r13 τ ρ h = vcOps Try.prog K [
  ⟨some (92, false), .move (.tmp 6), 9, none, true⟩,
  ⟨some (93, false), .move (.tmp 10), 9, none, true⟩,
  ⟨some (94, false), .move (.tmp 12), 9, none, true⟩,
  ⟨some (95, false), .binOp .add 9 (.tmp 93) (.tmp 94) 9, 9, none, true⟩,
  ⟨some (96, false), .binOp .add 9 (.tmp 92) (.tmp 95) 9, 9, none, true⟩,
  ⟨some (6, true), .assign (.tmp 96), 9, none, true⟩] τ ρ h := _root_.id rfl
def ref2_choice_r14 : List Sop := [
  ⟨some (97, false), .move (.tmp 9), 4, none, true⟩,
  ⟨some (98, false), .move (.tmp 97), 4, none, true⟩,
  ⟨some (99, false), .move (.tmp 11), 4, some (98, true), true⟩,
  ⟨some (100, false), .pick (.tmp 98) (.tmp 99) (.const (.bool false)), 4, none, true⟩,
  ⟨some (101, false), .move (.tmp 100), 4, none, true⟩,
  ⟨some (102, false), .move (.tmp 13), 4, some (101, true), true⟩,
  ⟨some (103, false), .pick (.tmp 101) (.tmp 102) (.const (.bool false)), 4, none, true⟩,
  ⟨some (9, true), .assign (.tmp 103), 4, none, true⟩]
theorem ref2_choice_r14_go {K : Env → Heap → Prop} {τ ρ : Env} {h : Heap} : vcOps Try.prog K ref2_choice_r14 τ ρ h = vcOps Try.prog K [
  ⟨some (97, false), .move (.tmp 9), 4, none, true⟩,
  ⟨some (98, false), .move (.tmp 97), 4, none, true⟩,
  ⟨some (99, false), .move (.tmp 11), 4, some (98, true), true⟩,
  ⟨some (100, false), .pick (.tmp 98) (.tmp 99) (.const (.bool false)), 4, none, true⟩,
  ⟨some (101, false), .move (.tmp 100), 4, none, true⟩,
  ⟨some (102, false), .move (.tmp 13), 4, some (101, true), true⟩,
  ⟨some (103, false), .pick (.tmp 101) (.tmp 102) (.const (.bool false)), 4, none, true⟩,
  ⟨some (9, true), .assign (.tmp 103), 4, none, true⟩] τ ρ h := _root_.id rfl
def ref2_choice_r15 : List Sop := [
  ⟨some (104, false), .move (.tmp 6), 9, none, true⟩,
  ⟨some (105, false), .convert 9 37 (.tmp 104), 37, none, false⟩,
  ⟨some (14, true), .assign (.tmp 105), 37, none, true⟩]
theorem ref2_choice_r15_go {K : Env → Heap → Prop} {τ ρ : Env} {h : Heap} : vcOps Try.prog K ref2_choice_r15 τ ρ h = vcOps Try.prog K [
  ⟨some (104, false), .move (.tmp 6), 9, none, true⟩,
  ⟨some (105, false), .convert 9 37 (.tmp 104), 37, none, false⟩,
  ⟨some (14, true), .assign (.tmp 105), 37, none, true⟩] τ ρ h := _root_.id rfl
def ref2_choice_r16 : List Sop := [
  ⟨some (15, true), .assign (.const (.int .i64 1)), 3, none, true⟩]
theorem ref2_choice_r16_go {K : Env → Heap → Prop} {τ ρ : Env} {h : Heap} : vcOps Try.prog K ref2_choice_r16 τ ρ h = vcOps Try.prog K [
  ⟨some (15, true), .assign (.const (.int .i64 1)), 3, none, true⟩] τ ρ h := _root_.id rfl
def ref2_choice_r17 : List Sop := [
  ⟨some (106, false), .move (.tmp 15), 3, none, true⟩,
  ⟨some (107, false), .move (.tmp 7), 3, none, true⟩,
  ⟨some (108, true), .binOp .leq 3 (.tmp 106) (.tmp 107) 3, 4, none, true⟩]
theorem ref2_choice_r17_go {K : Env → Heap → Prop} {τ ρ : Env} {h : Heap} : vcOps Try.prog K ref2_choice_r17 τ ρ h = vcOps Try.prog K [
  ⟨some (106, false), .move (.tmp 15), 3, none, true⟩,
  ⟨some (107, false), .move (.tmp 7), 3, none, true⟩,
  ⟨some (108, true), .binOp .leq 3 (.tmp 106) (.tmp 107) 3, 4, none, true⟩] τ ρ h := _root_.id rfl
def ref2_choice_r18 : List Sop := [
  ⟨some (111, true), .move (.tmp 1), 4, none, true⟩]
theorem ref2_choice_r18_go {K : Env → Heap → Prop} {τ ρ : Env} {h : Heap} : vcOps Try.prog K ref2_choice_r18 τ ρ h = vcOps Try.prog K [
  ⟨some (111, true), .move (.tmp 1), 4, none, true⟩] τ ρ h := _root_.id rfl
def ref2_choice_r19 : List Sop := [
  ⟨some (113, false), .fieldAddr 35 (.tmp 2) 6, 0, none, true⟩,
  ⟨some (114, false), .load 33 (.tmp 113), 33, none, true⟩,
  ⟨some (115, false), .move (.tmp 15), 3, none, true⟩,
  ⟨some (116, false), .binOp .sub 3 (.tmp 115) (.const (.int .i64 1)) 3, 3, none, true⟩,
  ⟨some (117, false), .indexAddr 33 (.tmp 114) (.tmp 116), 0, none, true⟩,
  ⟨some (118, false), .load 3 (.tmp 117), 3, none, true⟩,
  ⟨some (119, false), .call { callee := .value (.func 34), args := #[.tmp 118, .const (.int .i64 4), .const (.bool true)], argTypes := #[3, 3, 4] }, 45, none, false⟩,
  ⟨some (112, false), .move (.tmp 119), 45, none, true⟩,
  ⟨some (120, false), .extract (.tmp 112) 0, 9, none, true⟩,
  ⟨some (121, false), .extract (.tmp 112) 1, 4, none, true⟩,
  ⟨some (16, true), .assign (.tmp 120), 9, none, true⟩,
  ⟨some (17, true), .assign (.tmp 121), 4, none, true⟩]
theorem ref2_choice_r19_go {K : Env → Heap → Prop} {τ ρ : Env} {h : Heap} : vcOps Try.prog K ref2_choice_r19 τ ρ h = vcOps Try.prog K [
  ⟨some (113, false), .fieldAddr 35 (.tmp 2) 6, 0, none, true⟩,
  ⟨some (114, false), .load 33 (.tmp 113), 33, none, true⟩,
  ⟨some (115, false), .move (.tmp 15), 3, none, true⟩,
  ⟨some (116, false), .binOp .sub 3 (.tmp 115) (.const (.int .i64 1)) 3, 3, none, true⟩,
  ⟨some (117, false), .indexAddr 33 (.tmp 114) (.tmp 116), 0, none, true⟩,
  ⟨some (118, false), .load 3 (.tmp 117), 3, none, true⟩,
  ⟨some (119, false), .call { callee := .value (.func 34), args := #[.tmp 118, .const (.int .i64 4), .const (.bool true)], argTypes := #[3, 3, 4] }, 45, none, false⟩,
  ⟨some (112, false), .move (.tmp 119), 45, none, true⟩,
  ⟨some (120, false), .extract (.tmp 112) 0, 9, none, true⟩,
  ⟨some (121, false), .extract (.tmp 112) 1, 4, none, true⟩,
  ⟨some (16, true), .assign (.tmp 120), 9, none, true⟩,
  ⟨some (17, true), .assign (.tmp 121), 4, none, true⟩] τ ρ h := _root_.id rfl
def ref2_choice_r20 : List Sop := [
  ⟨some (122, false), .move (.tmp 14), 37, none, true⟩,
  ⟨some (123, false), .move (.tmp 16), 9, none, true⟩,
  ⟨some (124, false), .call { callee := .builtin .append, args := #[.tmp 122, .tmp 123], argTypes := #[37, 9] }, 37, none, false⟩,
  ⟨some (14, true), .assign (.tmp 124), 37, none, true⟩]
theorem ref2_choice_r20_go {K : Env → Heap → Prop} {τ ρ : Env} {h : Heap} : vcOps Try.prog K ref2_choice_r20 τ ρ h = vcOps Try.prog K [
  ⟨some (122, false), .move (.tmp 14), 37, none, true⟩,
  ⟨some (123, false), .move (.tmp 16), 9, none, true⟩,
  ⟨some (124, false), .call { callee := .builtin .append, args := #[.tmp 122, .tmp 123], argTypes := #[37, 9] }, 37, none, false⟩,
  ⟨some (14, true), .assign (.tmp 124), 37, none, true⟩] τ ρ h := _root_.id rfl
def ref2_choice_r21 : List (Sop × List Sop) := [
  (⟨some (125, false), .move (.tmp 9), 4, none, true⟩, []),
  (⟨some (126, false), .move (.tmp 125), 4, none, true⟩, []),
  (⟨some (127, false), .move (.tmp 17), 4, some (126, true), true⟩, []),
  (⟨some (128, false), .pick (.tmp 126) (.tmp 127) (.const (.bool false)), 4, none, true⟩, []),
  (⟨some (129, false), .move (.tmp 128), 4, none, true⟩, []),
  (⟨some (130, false), .move (.tmp 15), 3, some (129, true), true⟩, []),
  (⟨some (131, false), .binOp .eql 3 (.tmp 130) (.const (.int .i64 1)) 3, 4, some (129, true), true⟩, []),
  (⟨some (132, false), .move (.tmp 131), 4, some (129, true), true⟩, []),
  (⟨some (133, false), .fieldAddr 35 (.tmp 2) 6, 0, some (132, false), true⟩, []),
  (⟨some (134, false), .load 33 (.tmp 133), 33, some (132, false), true⟩, []),
  (⟨some (135, false), .move (.tmp 15), 3, some (132, false), true⟩, []),
  (⟨some (136, false), .binOp .sub 3 (.tmp 135) (.const (.int .i64 2)) 3, 3, some (132, false), true⟩, []),
  (⟨some (137, false), .indexAddr 33 (.tmp 134) (.tmp 136), 0, some (132, false), true⟩, []),
  (⟨some (138, false), .load 3 (.tmp 137), 3, some (132, false), true⟩, []),
  (⟨some (139, false), .fieldAddr 35 (.tmp 2) 6, 0, some (132, false), true⟩, []),
  (⟨some (140, false), .load 33 (.tmp 139), 33, some (132, false), true⟩, []),
  (⟨some (141, false), .move (.tmp 15), 3, some (132, false), true⟩, []),
  (⟨some (142, false), .binOp .sub 3 (.tmp 141) (.const (.int .i64 1)) 3, 3, some (132, false), true⟩, []),
  (⟨some (143, false), .indexAddr 33 (.tmp 140) (.tmp 142), 0, some (132, false), true⟩, []),
  (⟨some (144, false), .load 3 (.tmp 143), 3, some (132, false), true⟩, []),
  (⟨some (145, false), .binOp .lss 3 (.tmp 138) (.tmp 144) 3, 4, some (132, false), true⟩, []),
  (⟨some (146, false), .pick (.tmp 132) (.const (.bool true)) (.tmp 145), 4, some (129, true), true⟩, []),
  (⟨some (147, false), .pick (.tmp 129) (.tmp 146) (.const (.bool false)), 4, none, true⟩, []),
  (⟨some (9, true), .assign (.tmp 147), 4, none, true⟩, [])]
theorem ref2_choice_r21_go {K : Env → Heap → Prop} {τ ρ : Env} {h : Heap} : vcDraw Try.prog K ref2_choice_r21 τ ρ h = vcDraw Try.prog K [
  (⟨some (125, false), .move (.tmp 9), 4, none, true⟩, []),
  (⟨some (126, false), .move (.tmp 125), 4, none, true⟩, []),
  (⟨some (127, false), .move (.tmp 17), 4, some (126, true), true⟩, []),
  (⟨some (128, false), .pick (.tmp 126) (.tmp 127) (.const (.bool false)), 4, none, true⟩, []),
  (⟨some (129, false), .move (.tmp 128), 4, none, true⟩, []),
  (⟨some (130, false), .move (.tmp 15), 3, some (129, true), true⟩, []),
  (⟨some (131, false), .binOp .eql 3 (.tmp 130) (.const (.int .i64 1)) 3, 4, some (129, true), true⟩, []),
  (⟨some (132, false), .move (.tmp 131), 4, some (129, true), true⟩, []),
  (⟨some (133, false), .fieldAddr 35 (.tmp 2) 6, 0, some (132, false), true⟩, []),
  (⟨some (134, false), .load 33 (.tmp 133), 33, some (132, false), true⟩, []),
  (⟨some (135, false), .move (.tmp 15), 3, some (132, false), true⟩, []),
  (⟨some (136, false), .binOp .sub 3 (.tmp 135) (.const (.int .i64 2)) 3, 3, some (132, false), true⟩, []),
  (⟨some (137, false), .indexAddr 33 (.tmp 134) (.tmp 136), 0, some (132, false), true⟩, []),
  (⟨some (138, false), .load 3 (.tmp 137), 3, some (132, false), true⟩, []),
  (⟨some (139, false), .fieldAddr 35 (.tmp 2) 6, 0, some (132, false), true⟩, []),
  (⟨some (140, false), .load 33 (.tmp 139), 33, some (132, false), true⟩, []),
  (⟨some (141, false), .move (.tmp 15), 3, some (132, false), true⟩, []),
  (⟨some (142, false), .binOp .sub 3 (.tmp 141) (.const (.int .i64 1)) 3, 3, some (132, false), true⟩, []),
  (⟨some (143, false), .indexAddr 33 (.tmp 140) (.tmp 142), 0, some (132, false), true⟩, []),
  (⟨some (144, false), .load 3 (.tmp 143), 3, some (132, false), true⟩, []),
  (⟨some (145, false), .binOp .lss 3 (.tmp 138) (.tmp 144) 3, 4, some (132, false), true⟩, []),
  (⟨some (146, false), .pick (.tmp 132) (.const (.bool true)) (.tmp 145), 4, some (129, true), true⟩, []),
  (⟨some (147, false), .pick (.tmp 129) (.tmp 146) (.const (.bool false)), 4, none, true⟩, []),
  (⟨some (9, true), .assign (.tmp 147), 4, none, true⟩, [])] τ ρ h := _root_.id rfl
def ref2_choice_r22 : List (Sop × List Sop) := [
  (⟨some (149, false), .fieldAddr 35 (.tmp 2) 7, 0, none, true⟩, []),
  (⟨some (150, false), .load 33 (.tmp 149), 33, none, true⟩, []),
  (⟨some (151, false), .move (.tmp 15), 3, none, true⟩, []),
  (⟨some (152, false), .indexAddr 33 (.tmp 150) (.tmp 151), 0, none, true⟩, []),
  (⟨some (153, false), .load 3 (.tmp 152), 3, none, true⟩, []),
  (⟨some (154, false), .fieldAddr 35 (.tmp 2) 0, 0, none, true⟩, []),
  (⟨some (155, false), .load 3 (.tmp 154), 3, none, true⟩, []),
  (⟨some (156, false), .binOp .sub 3 (.tmp 153) (.tmp 155) 3, 3, none, true⟩, []),
  (⟨some (157, false), .call { callee := .value (.func 34), args := #[.tmp 156, .const (.int .i64 4), .const (.bool true)], argTypes := #[3, 3, 4] }, 45, none, false⟩, []),
  (⟨some (148, false), .move (.tmp 157), 45, none, true⟩, []),
  (⟨some (158, false), .extract (.tmp 148) 0, 9, none, true⟩, []),
  (⟨some (159, false), .extract (.tmp 148) 1, 4, none, true⟩, []),
  (⟨some (18, true), .assign (.tmp 158), 9, none, true⟩, []),
  (⟨some (19, true), .assign (.tmp 159), 4, none, true⟩, [])]
theorem ref2_choice_r22_go {K : Env → Heap → Prop} {τ ρ : Env} {h : Heap} : vcDraw Try.prog K ref2_choice_r22 τ ρ h = vcDraw Try.prog K [
  (⟨some (149, false), .fieldAddr 35 (.tmp 2) 7, 0, none, true⟩, []),
  (⟨some (150, false), .load 33 (.tmp 149), 33, none, true⟩, []),
  (⟨some (151, false), .move (.tmp 15), 3, none, true⟩, []),
  (⟨some (152, false), .indexAddr 33 (.tmp 150) (.tmp 151), 0, none, true⟩, []),
  (⟨some (153, false), .load 3 (.tmp 152), 3, none, true⟩, []),
  (⟨some (154, false), .fieldAddr 35 (.tmp 2) 0, 0, none, true⟩, []),
  (⟨some (155, false), .load 3 (.tmp 154), 3, none, true⟩, []),
  (⟨some (156, false), .binOp .sub 3 (.tmp 153) (.tmp 155) 3, 3, none, true⟩, []),
  (⟨some (157, false), .call { callee := .value (.func 34), args := #[.tmp 156, .const (.int .i64 4), .const (.bool true)], argTypes := #[3, 3, 4] }, 45, none, false⟩, []),
  (⟨some (148, false), .move (.tmp 157), 45, none, true⟩, []),
  (⟨some (158, false), .extract (.tmp 148) 0, 9, none, true⟩, []),
  (⟨some (159, false), .extract (.tmp 148) 1, 4, none, true⟩, []),
  (⟨some (18, true), .assign (.tmp 158), 9, none, true⟩, []),
  (⟨some (19, true), .assign (.tmp 159), 4, none, true⟩, [])] τ ρ h := _root_.id rfl
def ref2_choice_r23 : List Sop := [
  ⟨some (160, false), .move (.tmp 14), 37, none, true⟩,
  ⟨some (161, false), .move (.tmp 18), 9, none, true⟩,
  ⟨some (162, false), .call { callee := .builtin .append, args := #[.tmp 160, .tmp 161], argTypes := #[37, 9] }, 37, none, false⟩,
  ⟨some (14, true), .assign (.tmp 162), 37, none, true⟩]
theorem ref2_choice_r23_go {K : Env → Heap → Prop} {τ ρ : Env} {h : Heap} : vcOps Try.prog K ref2_choice_r23 τ ρ h = vcOps Try.prog K [
  ⟨some (160, false), .move (.tmp 14), 37, none, true⟩,
  ⟨some (161, false), .move (.tmp 18), 9, none, true⟩,
  ⟨some (162, false), .call { callee := .builtin .append, args := #[.tmp 160, .tmp 161], argTypes := #[37, 9] }, 37, none, false⟩,
  ⟨some (14, true), .assign (.tmp 162), 37, none, true⟩] τ ρ h := _root_.id rfl
def ref2_choice_r24 : List Sop := [
  ⟨some (163, false), .move (.tmp 9), 4, none, true⟩,
  ⟨some (164, false), .move (.tmp 163), 4, none, true⟩,
  ⟨some (165, false), .move (.tmp 19), 4, some (164, true), true⟩,
  ⟨some (166, false), .pick (.tmp 164) (.tmp 165) (.const (.bool false)), 4, none, true⟩,
  ⟨some (9, true), .assign (.tmp 166), 4, none, true⟩]
theorem ref2_choice_r24_go {K : Env → Heap → Prop} {τ ρ : Env} {h : Heap} : vcOps Try.prog K ref2_choice_r24 τ ρ h = vcOps Try.prog K [
  ⟨some (163, false), .move (.tmp 9), 4, none, true⟩,
  ⟨some (164, false), .move (.tmp 163), 4, none, true⟩,
  ⟨some (165, false), .move (.tmp 19), 4, some (164, true), true⟩,
  ⟨some (166, false), .pick (.tmp 164) (.tmp 165) (.const (.bool false)), 4, none, true⟩,
  ⟨some (9, true), .assign (.tmp 166), 4, none, true⟩] τ ρ h := _root_.id rfl
def ref2_choice_r25 : List Sop := [
  ⟨some (109, false), .move (.tmp 15), 3, none, true⟩,
  ⟨some (110, false), .binOp .add 3 (.tmp 109) (.const (.int .i64 1)) 3, 3, none, true⟩,
  ⟨some (15, true), .assign (.tmp 110), 3, none, true⟩]
theorem ref2_choice_r25_go {K : Env → Heap → Prop} {τ ρ : Env} {h : Heap} : vcOps Try.prog K ref2_choice_r25 τ ρ h = vcOps Try.prog K [
  ⟨some (109, false), .move (.tmp 15), 3, none, true⟩,
  ⟨some (110, false), .binOp .add 3 (.tmp 109) (.const (.int .i64 1)) 3, 3, none, true⟩,
  ⟨some (15, true), .assign (.tmp 110), 3, none, true⟩] τ ρ h := _root_.id rfl
def ref2_choice_r26 : List Sop := [
  ⟨some (167, false), .move (.tmp 14), 37, none, true⟩,
  ⟨some (168, false), .convert 37 9 (.tmp 167), 9, none, true⟩,
  ⟨some (169, false), .move (.tmp 9), 4, none, true⟩,
  ⟨some (4, true), .assign (.tmp 168), 9, none, true⟩,
  ⟨some (5, true), .assign (.tmp 169), 4, none, true⟩]
theorem ref2_choice_r26_go {K : Env → Heap → Prop} {τ ρ : Env} {h : Heap} : vcOps Try.prog K ref2_choice_r26 τ ρ h = vcOps Try.prog K [
  ⟨some (167, false), .move (.tmp 14), 37, none, true⟩,
  ⟨some (168, false), .convert 37 9 (.tmp 167), 9, none, true⟩,
  ⟨some (169, false), .move (.tmp 9), 4, none, true⟩,
  ⟨some (4, true), .assign (.tmp 168), 9, none, true⟩,
  ⟨some (5, true), .assign (.tmp 169), 4, none, true⟩] τ ρ h := _root_.id rfl
def ref2_choice_l0 : Cd := .seq (.seq (.region ref2_choice_r2) (.cond (.tmp 30) (.skip) (.exit 0))) (.block 1 (.region ref2_choice_r3))
theorem ref2_choice_l0_go {Q : Ex → Env → Heap → Prop} {ρ : Env} {h : Heap} : Cd.vc Try.prog ref2_choice_l0 Q ρ h = Cd.vc Try.prog (.seq (.seq (.region ref2_choice_r2) (.cond (.tmp 30) (.skip) (.exit 0))) (.block 1 (.region ref2_choice_r3))) Q ρ h := _root_.id rfl
def ref2_choice_l1 : Cd := .seq (.seq (.region ref2_choice_r17) (.cond (.tmp 108) (.skip) (.exit 2))) (.seq (.block 3 (.seq (.seq (.region ref2_choice_r18) (.cond (.tmp 111) (.seq (.region ref2_choice_r19) (.seq (.region ref2_choice_r20) (.draw ref2_choice_r21))) (.skip))) (.seq (.draw ref2_choice_r22) (.seq (.region ref2_choice_r23) (.region ref2_choice_r24))))) (.region ref2_choice_r25))
theorem ref2_choice_l1_go {Q : Ex → Env → Heap → Prop} {ρ : Env} {h : Heap} : Cd.vc Try.prog ref2_choice_l1 Q ρ h = Cd.vc Try.prog (.seq (.seq (.region ref2_choice_r17) (.cond (.tmp 108) (.skip) (.exit 2))) (.seq (.block 3 (.seq (.seq (.region ref2_choice_r18) (.cond (.tmp 111) (.seq (.region ref2_choice_r19) (.seq (.region ref2_choice_r20) (.draw ref2_choice_r21))) (.skip))) (.seq (.draw ref2_choice_r22) (.seq (.region ref2_choice_r23) (.region ref2_choice_r24))))) (.region ref2_choice_r25))) Q ρ h := _root_.id rfl
def ref2_choice : Cd := .seq (.region ref2_choice_r0) (.seq (.region ref2_choice_r1) (.seq (.block 0 (.loop ref2_choice_l0)) (.seq (.region ref2_choice_r4) (.seq (.seq (.region ref2_choice_r5) (.cond (.tmp 56) (.seq (.region ref2_choice_r6) (.ret)) (.skip))) (.seq (.draw ref2_choice_r7) (.seq (.region ref2_choice_r8) (.seq (.seq (.region ref2_choice_r9) (.cond (.tmp 71) (.region ref2_choice_r10) (.seq (.region ref2_choice_r11) (.seq (.region ref2_choice_r12) (.seq (.region ref2_choice_r13) (.region ref2_choice_r14)))))) (.seq (.region ref2_choice_r15) (.seq (.seq (.region ref2_choice_r16) (.block 2 (.loop ref2_choice_l1))) (.seq (.region ref2_choice_r26) (.ret)))))))))))
theorem ref2_choice_go {Q : Ex → Env → Heap → Prop} {ρ : Env} {h : Heap} : Cd.vc Try.prog ref2_choice Q ρ h = Cd.vc Try.prog (.seq (.region ref2_choice_r0) (.seq (.region ref2_choice_r1) (.seq (.block 0 (.loop ref2_choice_l0)) (.seq (.region ref2_choice_r4) (.seq (.seq (.region ref2_choice_r5) (.cond (.tmp 56) (.seq (.region ref2_choice_r6) (.ret)) (.skip))) (.seq (.draw ref2_choice_r7) (.seq (.region ref2_choice_r8) (.seq (.seq (.region ref2_choice_r9) (.cond (.tmp 71) (.region ref2_choice_r10) (.seq (.region ref2_choice_r11) (.seq (.region ref2_choice_r12) (.seq (.region ref2_choice_r13) (.region ref2_choice_r14)))))) (.seq (.region ref2_choice_r15) (.seq (.seq (.region ref2_choice_r16) (.block 2 (.loop ref2_choice_l1))) (.seq (.region ref2_choice_r26) (.ret)))))))))))) Q ρ h := _root_.id rfl
theorem ref2_choice_calls {args : List Value} {h : Heap} {R : Value → Heap → Prop} (hl : args.length = 2) (hv : Cd.vc Try.prog ref2_choice (retQ Try.prog [(4, none), (5, none)] R) (initEnv args [0, 1, 2, 4, 5, 6, 7, 8, 9, 10, 11, 12, 13, 14, 15, 16, 17, 18, 19, 30, 56, 71, 108, 111]) h) : HCalls Try.prog 33 args.toArray h R :=
  hcalls_of_vc (by kernel_rfl) Try.func33 (cd := ref2_choice) (L := [0, 1, 2, 4, 5, 6, 7, 8, 9, 10, 11, 12, 13, 14, 15, 16, 17, 18, 19, 30, 56, 71, 108, 111]) (by kernel_rfl) (by kernel_rfl) ⟨by rw [hl, Try.ntmps33]; decide, by rw [Try.ntmps33]; decide⟩ hv
def ref2_choice_gos := And.intro @ref2_choice_go (And.intro @ref2_choice_r0_go (And.intro @ref2_choice_r1_go (And.intro @ref2_choice_r2_go (And.intro @ref2_choice_r3_go (And.intro @ref2_choice_r4_go (And.intro @ref2_choice_r5_go (And.intro @ref2_choice_r6_go (And.intro @ref2_choice_r7_go (And.intro @ref2_choice_r8_go (And.intro @ref2_choice_r9_go (And.intro @ref2_choice_r10_go (And.intro @ref2_choice_r11_go (And.intro @ref2_choice_r12_go (And.intro @ref2_choice_r13_go (And.intro @ref2_choice_r14_go (And.intro @ref2_choice_r15_go (And.intro @ref2_choice_r16_go (And.intro @ref2_choice_r17_go (And.intro @ref2_choice_r18_go (And.intro @ref2_choice_r19_go (And.intro @ref2_choice_r20_go (And.intro @ref2_choice_r21_go (And.intro @ref2_choice_r22_go (And.intro @ref2_choice_r23_go (And.intro @ref2_choice_r24_go (And.intro @ref2_choice_r25_go (And.intro @ref2_choice_r26_go (And.intro @ref2_choice_l0_go (@ref2_choice_l1_go)))))))))))))))))))))))))))))

/-! jvmcore/jvmcoreref2.encode: function 17: slots [0, 1, 2, 4, 5, 6, 7, 8, 9, 10, 11, 12, 18, 26, 38, 43, 44, 45, 53, 61, 69, 85, 93, 102, 118, 131, 144, 166] -/
def ref2_encode_r0 : List Sop := [
  ⟨some (2, true), .box 35 (.tmp 0), 0, none, false⟩,
  ⟨some (4, true), .assign (.const (.string { data := #[] })), 9, none, true⟩,
  ⟨some (5, true), .assign (.const (.bool false)), 4, none, true⟩]
theorem ref2_encode_r0_go {K : Env → Heap → Prop} {τ ρ : Env} {h : Heap} : vcOps Try.prog K ref2_encode_r0 τ ρ h = vcOps Try.prog K [
  ⟨some (2, true), .box 35 (.tmp 0), 0, none, false⟩,
  ⟨some (4, true), .assign (.const (.string { data := #[] })), 9, none, true⟩,
  ⟨some (5, true), .assign (.const (.bool false)), 4, none, true⟩] τ ρ h := _root_.id rfl
def ref2_encode_r1 : List Sop := [
  ⟨some (13, false), .fieldAddr 35 (.tmp 2) 1, 0, none, true⟩,
  ⟨some (14, false), .load 5 (.tmp 13), 5, none, true⟩,
  ⟨some (15, false), .buildSlice 37 1 #[(0, .tmp 14)], 37, none, false⟩,
  ⟨some (16, false), .convert 37 9 (.tmp 15), 9, none, true⟩,
  ⟨some (6, true), .assign (.tmp 16), 9, none, true⟩]
theorem ref2_encode_r1_go {K : Env → Heap → Prop} {τ ρ : Env} {h : Heap} : vcOps Try.prog K ref2_encode_r1 τ ρ h = vcOps Try.prog K [
  ⟨some (13, false), .fieldAddr 35 (.tmp 2) 1, 0, none, true⟩,
  ⟨some (14, false), .load 5 (.tmp 13), 5, none, true⟩,
  ⟨some (15, false), .buildSlice 37 1 #[(0, .tmp 14)], 37, none, false⟩,
  ⟨some (16, false), .convert 37 9 (.tmp 15), 9, none, true⟩,
  ⟨some (6, true), .assign (.tmp 16), 9, none, true⟩] τ ρ h := _root_.id rfl
def ref2_encode_r2 : List Sop := [
  ⟨some (7, true), .assign (.const (.int .i64 1)), 3, none, true⟩]
theorem ref2_encode_r2_go {K : Env → Heap → Prop} {τ ρ : Env} {h : Heap} : vcOps Try.prog K ref2_encode_r2 τ ρ h = vcOps Try.prog K [
  ⟨some (7, true), .assign (.const (.int .i64 1)), 3, none, true⟩] τ ρ h := _root_.id rfl
def ref2_encode_r3 : List Sop := [
  ⟨some (17, false), .fieldAddr 35 (.tmp 2) 2, 0, none, true⟩,
  ⟨some (18, true), .load 4 (.tmp 17), 4, none, true⟩]
theorem ref2_encode_r3_go {K : Env → Heap → Prop} {τ ρ : Env} {h : Heap} : vcOps Try.prog K ref2_encode_r3 τ ρ h = vcOps Try.prog K [
  ⟨some (17, false), .fieldAddr 35 (.tmp 2) 2, 0, none, true⟩,
  ⟨some (18, true), .load 4 (.tmp 17), 4, none, true⟩] τ ρ h := _root_.id rfl
def ref2_encode_r4 : List Sop := [
  ⟨some (19, false), .move (.tmp 6), 9, none, true⟩,
  ⟨some (20, false), .binOp .add 9 (.const (.string { data := #[196] })) (.tmp 19) 9, 9, none, true⟩,
  ⟨some (6, true), .assign (.tmp 20), 9, none, true⟩]
theorem ref2_encode_r4_go {K : Env → Heap → Prop} {τ ρ : Env} {h : Heap} : vcOps Try.prog K ref2_encode_r4 τ ρ h = vcOps Try.prog K [
  ⟨some (19, false), .move (.tmp 6), 9, none, true⟩,
  ⟨some (20, false), .binOp .add 9 (.const (.string { data := #[196] })) (.tmp 19) 9, 9, none, true⟩,
  ⟨some (6, true), .assign (.tmp 20), 9, none, true⟩] τ ρ h := _root_.id rfl
def ref2_encode_r5 : List Sop := [
  ⟨some (7, true), .assign (.const (.int .i64 2)), 3, none, true⟩]
theorem ref2_encode_r5_go {K : Env → Heap → Prop} {τ ρ : Env} {h : Heap} : vcOps Try.prog K ref2_encode_r5 τ ρ h = vcOps Try.prog K [
  ⟨some (7, true), .assign (.const (.int .i64 2)), 3, none, true⟩] τ ρ h := _root_.id rfl
def ref2_encode_r6 : List Sop := [
  ⟨some (21, false), .move (.tmp 1), 9, none, true⟩,
  ⟨some (22, false), .binOp .eql 9 (.tmp 21) (.const (.string { data := #[116] })) 9, 4, none, true⟩,
  ⟨some (23, false), .move (.tmp 22), 4, none, true⟩,
  ⟨some (24, false), .move (.tmp 1), 9, some (23, false), true⟩,
  ⟨some (25, false), .binOp .eql 9 (.tmp 24) (.const (.string { data := #[107] })) 9, 4, some (23, false), true⟩,
  ⟨some (26, true), .pick (.tmp 23) (.const (.bool true)) (.tmp 25), 4, none, true⟩]
theorem ref2_encode_r6_go {K : Env → Heap → Prop} {τ ρ : Env} {h : Heap} : vcOps Try.prog K ref2_encode_r6 τ ρ h = vcOps Try.prog K [
  ⟨some (21, false), .move (.tmp 1), 9, none, true⟩,
  ⟨some (22, false), .binOp .eql 9 (.tmp 21) (.const (.string { data := #[116] })) 9, 4, none, true⟩,
  ⟨some (23, false), .move (.tmp 22), 4, none, true⟩,
  ⟨some (24, false), .move (.tmp 1), 9, some (23, false), true⟩,
  ⟨some (25, false), .binOp .eql 9 (.tmp 24) (.const (.string { data := #[107] })) 9, 4, some (23, false), true⟩,
  ⟨some (26, true), .pick (.tmp 23) (.const (.bool true)) (.tmp 25), 4, none, true⟩] τ ρ h := _root_.id rfl
def ref2_encode_r7 : List Sop := [
  ⟨some (27, false), .load 35 (.tmp 2), 35, none, true⟩,
  ⟨some (28, false), .move (.tmp 1), 9, none, true⟩,
  ⟨some (29, false), .binOp .eql 9 (.tmp 28) (.const (.string { data := #[107] })) 9, 4, none, true⟩,
  ⟨some (30, false), .call { callee := .value (.func 33), args := #[.tmp 27, .tmp 29], argTypes := #[35, 4] }, 45, none, false⟩,
  ⟨some (31, false), .extract (.tmp 30) 0, 9, none, true⟩,
  ⟨some (32, false), .extract (.tmp 30) 1, 4, none, true⟩,
  ⟨some (4, true), .assign (.tmp 31), 9, none, true⟩,
  ⟨some (5, true), .assign (.tmp 32), 4, none, true⟩]
theorem ref2_encode_r7_go {K : Env → Heap → Prop} {τ ρ : Env} {h : Heap} : vcOps Try.prog K ref2_encode_r7 τ ρ h = vcOps Try.prog K [
  ⟨some (27, false), .load 35 (.tmp 2), 35, none, true⟩,
  ⟨some (28, false), .move (.tmp 1), 9, none, true⟩,
  ⟨some (29, false), .binOp .eql 9 (.tmp 28) (.const (.string { data := #[107] })) 9, 4, none, true⟩,
  ⟨some (30, false), .call { callee := .value (.func 33), args := #[.tmp 27, .tmp 29], argTypes := #[35, 4] }, 45, none, false⟩,
  ⟨some (31, false), .extract (.tmp 30) 0, 9, none, true⟩,
  ⟨some (32, false), .extract (.tmp 30) 1, 4, none, true⟩,
  ⟨some (4, true), .assign (.tmp 31), 9, none, true⟩,
  ⟨some (5, true), .assign (.tmp 32), 4, none, true⟩] τ ρ h := _root_.id rfl
def ref2_encode_r8 : List Sop := [
  ⟨some (8, true), .assign (.const (.int .i64 0)), 3, none, true⟩]
theorem ref2_encode_r8_go {K : Env → Heap → Prop} {τ ρ : Env} {h : Heap} : vcOps Try.prog K ref2_encode_r8 τ ρ h = vcOps Try.prog K [
  ⟨some (8, true), .assign (.const (.int .i64 0)), 3, none, true⟩] τ ρ h := _root_.id rfl
def ref2_encode_r9 : List Sop := [
  ⟨some (33, false), .move (.tmp 1), 9, none, true⟩,
  ⟨some (34, false), .binOp .eql 9 (.tmp 33) (.const (.string { data := #[106] })) 9, 4, none, true⟩,
  ⟨some (35, false), .move (.tmp 34), 4, none, true⟩,
  ⟨some (36, false), .move (.tmp 1), 9, some (35, false), true⟩,
  ⟨some (37, false), .binOp .eql 9 (.tmp 36) (.const (.string { data := #[74] })) 9, 4, some (35, false), true⟩,
  ⟨some (38, true), .pick (.tmp 35) (.const (.bool true)) (.tmp 37), 4, none, true⟩]
theorem ref2_encode_r9_go {K : Env → Heap → Prop} {τ ρ : Env} {h : Heap} : vcOps Try.prog K ref2_encode_r9 τ ρ h = vcOps Try.prog K [
  ⟨some (33, false), .move (.tmp 1), 9, none, true⟩,
  ⟨some (34, false), .binOp .eql 9 (.tmp 33) (.const (.string { data := #[106] })) 9, 4, none, true⟩,
  ⟨some (35, false), .move (.tmp 34), 4, none, true⟩,
  ⟨some (36, false), .move (.tmp 1), 9, some (35, false), true⟩,
  ⟨some (37, false), .binOp .eql 9 (.tmp 36) (.const (.string { data := #[74] })) 9, 4, some (35, false), true⟩,
  ⟨some (38, true), .pick (.tmp 35) (.const (.bool true)) (.tmp 37), 4, none, true⟩] τ ρ h := _root_.id rfl
def ref2_encode_r10 : List Sop := [
  ⟨some (8, true), .assign (.const (.int .i64 1)), 3, none, true⟩]
theorem ref2_encode_r10_go {K : Env → Heap → Prop} {τ ρ : Env} {h : Heap} : vcOps Try.prog K ref2_encode_r10 τ ρ h = vcOps Try.prog K [
  ⟨some (8, true), .assign (.const (.int .i64 1)), 3, none, true⟩] τ ρ h := _root_.id rfl
def ref2_encode_r11 : List Sop := [
  ⟨some (39, false), .fieldAddr 35 (.tmp 2) 7, 0, none, true⟩,
  ⟨some (40, false), .load 33 (.tmp 39), 33, none, true⟩,
  ⟨some (41, false), .call { callee := .builtin .len, args := #[.tmp 40], argTypes := #[33] }, 3, none, true⟩,
  ⟨some (42, false), .move (.tmp 8), 3, none, true⟩,
  ⟨some (43, true), .binOp .neq 3 (.tmp 41) (.tmp 42) 3, 4, none, true⟩]
theorem ref2_encode_r11_go {K : Env → Heap → Prop} {τ ρ : Env} {h : Heap} : vcOps Try.prog K ref2_encode_r11 τ ρ h = vcOps Try.prog K [
  ⟨some (39, false), .fieldAddr 35 (.tmp 2) 7, 0, none, true⟩,
  ⟨some (40, false), .load 33 (.tmp 39), 33, none, true⟩,
  ⟨some (41, false), .call { callee := .builtin .len, args := #[.tmp 40], argTypes := #[33] }, 3, none, true⟩,
  ⟨some (42, false), .move (.tmp 8), 3, none, true⟩,
  ⟨some (43, true), .binOp .neq 3 (.tmp 41) (.tmp 42) 3, 4, none, true⟩] τ ρ h := _root_.id rfl
def ref2_encode_r12 : List Sop := [
  ⟨some (4, true), .assign (.const (.string { data := #[] })), 9, none, true⟩,
  ⟨some (5, true), .assign (.const (.bool false)), 4, none, true⟩]
theorem ref2_encode_r12_go {K : Env → Heap → Prop} {τ ρ : Env} {h : Heap} : vcOps Try.prog K ref2_encode_r12 τ ρ h = vcOps Try.prog K [
  ⟨some (4, true), .assign (.const (.string { data := #[] })), 9, none, true⟩,
  ⟨some (5, true), .assign (.const (.bool false)), 4, none, true⟩] τ ρ h := _root_.id rfl
def ref2_encode_r13 : List Sop := [
  ⟨some (9, true), .assign (.const (.string { data := #[] })), 9, none, true⟩]
theorem ref2_encode_r13_go {K : Env → Heap → Prop} {τ ρ : Env} {h : Heap} : vcOps Try.prog K ref2_encode_r13 τ ρ h = vcOps Try.prog K [
  ⟨some (9, true), .assign (.const (.string { data := #[] })), 9, none, true⟩] τ ρ h := _root_.id rfl
def ref2_encode_r14 : List Sop := [
  ⟨some (10, true), .assign (.const (.string { data := #[] })), 9, none, true⟩]
theorem ref2_encode_r14_go {K : Env → Heap → Prop} {τ ρ : Env} {h : Heap} : vcOps Try.prog K ref2_encode_r14 τ ρ h = vcOps Try.prog K [
  ⟨some (10, true), .assign (.const (.string { data := #[] })), 9, none, true⟩] τ ρ h := _root_.id rfl
def ref2_encode_r15 : List Sop := [
  ⟨some (11, true), .assign (.const (.bool true)), 4, none, true⟩]
theorem ref2_encode_r15_go {K : Env → Heap → Prop} {τ ρ : Env} {h : Heap} : vcOps Try.prog K ref2_encode_r15 τ ρ h = vcOps Try.prog K [
  ⟨some (11, true), .assign (.const (.bool true)), 4, none, true⟩] τ ρ h := _root_.id rfl
def ref2_encode_r16 : List Sop := [
  ⟨some (12, true), .assign (.const (.bool true)), 4, none, true⟩]
theorem ref2_encode_r16_go {K : Env → Heap → Prop} {τ ρ : Env} {h : Heap} : vcOps Try.prog K ref2_encode_r16 τ ρ h = vcOps Try.prog K [
  ⟨some (12, true), .assign (.const (.bool true)), 4, none, true⟩] τ ρ h := _root_.id rfl
def ref2_encode_r17 : List Sop := [
  ⟨some (44, true), .move (.tmp 1), 9, none, true⟩]
theorem ref2_encode_r17_go {K : Env → Heap → Prop} {τ ρ : Env} {h : Heap} : vcOps Try.prog K ref2_encode_r17 τ ρ h = vcOps Try.prog K [
  ⟨some (44, true), .move (.tmp 1), 9, none, true⟩] τ ρ h := _root_.id rfl
def ref2_encode_r18 : List Sop := [
  ⟨some (46, false), .binOp .eql 9 (.tmp 44) (.const (.string { data := #[98] })) 9, 4, none, true⟩,
  ⟨some (45, true), .assign (.tmp 46), 4, none, true⟩]
theorem ref2_encode_r18_go {K : Env → Heap → Prop} {τ ρ : Env} {h : Heap} : vcOps Try.prog K ref2_encode_r18 τ ρ h = vcOps Try.prog K [
  ⟨some (46, false), .binOp .eql 9 (.tmp 44) (.const (.string { data := #[98] })) 9, 4, none, true⟩,
  ⟨some (45, true), .assign (.tmp 46), 4, none, true⟩] τ ρ h := _root_.id rfl
def ref2_encode_r19 : List Sop := [
  ⟨some (48, false), .fieldAddr 35 (.tmp 2) 3, 0, none, true⟩,
  ⟨some (49, false), .load 3 (.tmp 48), 3, none, true⟩,
  ⟨some (50, false), .call { callee := .value (.func 34), args := #[.tmp 49, .const (.int .i64 1), .const (.bool true)], argTypes := #[3, 3, 4] }, 45, none, false⟩,
  ⟨some (47, false), .move (.tmp 50), 45, none, true⟩,
  ⟨some (51, false), .extract (.tmp 47) 0, 9, none, true⟩,
  ⟨some (52, false), .extract (.tmp 47) 1, 4, none, true⟩,
  ⟨some (9, true), .assign (.tmp 51), 9, none, true⟩,
  ⟨some (11, true), .assign (.tmp 52), 4, none, true⟩]
theorem ref2_encode_r19_go {K : Env → Heap → Prop} {τ ρ : Env} {h : Heap} : vcOps Try.prog K ref2_encode_r19 τ ρ h = vcOps Try.prog K [
  ⟨some (48, false), .fieldAddr 35 (.tmp 2) 3, 0, none, true⟩,
  ⟨some (49, false), .load 3 (.tmp 48), 3, none, true⟩,
  ⟨some (50, false), .call { callee := .value (.func 34), args := #[.tmp 49, .const (.int .i64 1), .const (.bool true)], argTypes := #[3, 3, 4] }, 45, none, false⟩,
  ⟨some (47, false), .move (.tmp 50), 45, none, true⟩,
  ⟨some (51, false), .extract (.tmp 47) 0, 9, none, true⟩,
  ⟨some (52, false), .extract (.tmp 47) 1, 4, none, true⟩,
  ⟨some (9, true), .assign (.tmp 51), 9, none, true⟩,
  ⟨some (11, true), .assign (.tmp 52), 4, none, true⟩] τ ρ h := _root_.id rfl
def ref2_encode_r20 : List Sop := [
  ⟨some (54, false), .binOp .eql 9 (.tmp 44) (.const (.string { data := #[115] })) 9, 4, none, true⟩,
  ⟨some (53, true), .assign (.tmp 54), 4, none, true⟩]
theorem ref2_encode_r20_go {K : Env → Heap → Prop} {τ ρ : Env} {h : Heap} : vcOps Try.prog K ref2_encode_r20 τ ρ h = vcOps Try.prog K [
  ⟨some (54, false), .binOp .eql 9 (.tmp 44) (.const (.string { data := #[115] })) 9, 4, none, true⟩,
  ⟨some (53, true), .assign (.tmp 54), 4, none, true⟩] τ ρ h := _root_.id rfl
def ref2_encode_r21 : List Sop := [
  ⟨some (56, false), .fieldAddr 35 (.tmp 2) 3, 0, none, true⟩,
  ⟨some (57, false), .load 3 (.tmp 56), 3, none, true⟩,
  ⟨some (58, false), .call { callee := .value (.func 34), args := #[.tmp 57, .const (.int .i64 2), .const (.bool true)], argTypes := #[3, 3, 4] }, 45, none, false⟩,
  ⟨some (55, false), .move (.tmp 58), 45, none, true⟩,
  ⟨some (59, false), .extract (.tmp 55) 0, 9, none, true⟩,
  ⟨some (60, false), .extract (.tmp 55) 1, 4, none, true⟩,
  ⟨some (9, true), .assign (.tmp 59), 9, none, true⟩,
  ⟨some (11, true), .assign (.tmp 60), 4, none, true⟩]
theorem ref2_encode_r21_go {K : Env → Heap → Prop} {τ ρ : Env} {h : Heap} : vcOps Try.prog K ref2_encode_r21 τ ρ h = vcOps Try.prog K [
  ⟨some (56, false), .fieldAddr 35 (.tmp 2) 3, 0, none, true⟩,
  ⟨some (57, false), .load 3 (.tmp 56), 3, none, true⟩,
  ⟨some (58, false), .call { callee := .value (.func 34), args := #[.tmp 57, .const (.int .i64 2), .const (.bool true)], argTypes := #[3, 3, 4] }, 45, none, false⟩,
  ⟨some (55, false), .move (.tmp 58), 45, none, true⟩,
  ⟨some (59, false), .extract (.tmp 55) 0, 9, none, true⟩,
  ⟨some (60, false), .extract (.tmp 55) 1, 4, none, true⟩,
  ⟨some (9, true), .assign (.tmp 59), 9, none, true⟩,
  ⟨some (11, true), .assign (.tmp 60), 4, none, true⟩] τ ρ h := _root_.id rfl
def ref2_encode_r22 : List Sop := [
  ⟨some (62, false), .binOp .eql 9 (.tmp 44) (.const (.string { data := #[99] })) 9, 4, none, true⟩,
  ⟨some (61, true), .assign (.tmp 62), 4, none, true⟩]
theorem ref2_encode_r22_go {K : Env → Heap → Prop} {τ ρ : Env} {h : Heap} : vcOps Try.prog K ref2_encode_r22 τ ρ h = vcOps Try.prog K [
  ⟨some (62, false), .binOp .eql 9 (.tmp 44) (.const (.string { data := #[99] })) 9, 4, none, true⟩,
  ⟨some (61, true), .assign (.tmp 62), 4, none, true⟩] τ ρ h := _root_.id rfl
def ref2_encode_r23 : List Sop := [
  ⟨some (64, false), .fieldAddr 35 (.tmp 2) 3, 0, none, true⟩,
  ⟨some (65, false), .load 3 (.tmp 64), 3, none, true⟩,
  ⟨some (66, false), .call { callee := .value (.func 34), args := #[.tmp 65, .const (.int .i64 1), .const (.bool false)], argTypes := #[3, 3, 4] }, 45, none, false⟩,
  ⟨some (63, false), .move (.tmp 66), 45, none, true⟩,
  ⟨some (67, false), .extract (.tmp 63) 0, 9, none, true⟩,
  ⟨some (68, false), .extract (.tmp 63) 1, 4, none, true⟩,
  ⟨some (9, true), .assign (.tmp 67), 9, none, true⟩,
  ⟨some (11, true), .assign (.tmp 68), 4, none, true⟩]
theorem ref2_encode_r23_go {K : Env → Heap → Prop} {τ ρ : Env} {h : Heap} : vcOps Try.prog K ref2_encode_r23 τ ρ h = vcOps Try.prog K [
  ⟨some (64, false), .fieldAddr 35 (.tmp 2) 3, 0, none, true⟩,
  ⟨some (65, false), .load 3 (.tmp 64), 3, none, true⟩,
  ⟨some (66, false), .call { callee := .value (.func 34), args := #[.tmp 65, .const (.int .i64 1), .const (.bool false)], argTypes := #[3, 3, 4] }, 45, none, false⟩,
  ⟨some (63, false), .move (.tmp 66), 45, none, true⟩,
  ⟨some (67, false), .extract (.tmp 63) 0, 9, none, true⟩,
  ⟨some (68, false), .extract (.tmp 63) 1, 4, none, true⟩,
  ⟨some (9, true), .assign (.tmp 67), 9, none, true⟩,
  ⟨some (11, true), .assign (.tmp 68), 4, none, true⟩] τ ρ h := _root_.id rfl
def ref2_encode_r24 : List Sop := [
  ⟨some (70, false), .binOp .eql 9 (.tmp 44) (.const (.string { data := #[97] })) 9, 4, none, true⟩,
  ⟨some (69, true), .assign (.tmp 70), 4, none, true⟩]
theorem ref2_encode_r24_go {K : Env → Heap → Prop} {τ ρ : Env} {h : Heap} : vcOps Try.prog K ref2_encode_r24 τ ρ h = vcOps Try.prog K [
  ⟨some (70, false), .binOp .eql 9 (.tmp 44) (.const (.string { data := #[97] })) 9, 4, none, true⟩,
  ⟨some (69, true), .assign (.tmp 70), 4, none, true⟩] τ ρ h := _root_.id rfl
def ref2_encode_r25 : List Sop := [
  ⟨some (72, false), .fieldAddr 35 (.tmp 2) 3, 0, none, true⟩,
  ⟨some (73, false), .load 3 (.tmp 72), 3, none, true⟩,
  ⟨some (74, false), .call { callee := .value (.func 34), args := #[.tmp 73, .const (.int .i64 1), .const (.bool false)], argTypes := #[3, 3, 4] }, 45, none, false⟩,
  ⟨some (71, false), .move (.tmp 74), 45, none, true⟩,
  ⟨some (75, false), .extract (.tmp 71) 0, 9, none, true⟩,
  ⟨some (76, false), .extract (.tmp 71) 1, 4, none, true⟩,
  ⟨some (9, true), .assign (.tmp 75), 9, none, true⟩,
  ⟨some (11, true), .assign (.tmp 76), 4, none, true⟩]
theorem ref2_encode_r25_go {K : Env → Heap → Prop} {τ ρ : Env} {h : Heap} : vcOps Try.prog K ref2_encode_r25 τ ρ h = vcOps Try.prog K [
  ⟨some (72, false), .fieldAddr 35 (.tmp 2) 3, 0, none, true⟩,
  ⟨some (73, false), .load 3 (.tmp 72), 3, none, true⟩,
  ⟨some (74, false), .call { callee := .value (.func 34), args := #[.tmp 73, .const (.int .i64 1), .const (.bool false)], argTypes := #[3, 3, 4] }, 45, none, false⟩,
  ⟨some (71, false), .move (.tmp 74), 45, none, true⟩,
  ⟨some (75, false), .extract (.tmp 71) 0, 9, none, true⟩,
  ⟨some (76, false), .extract (.tmp 71) 1, 4, none, true⟩,
  ⟨some (9, true), .assign (.tmp 75), 9, none, true⟩,
  ⟨some (11, true), .assign (.tmp 76), 4, none, true⟩] τ ρ h := _root_.id rfl
def ref2_encode_r26 : List Sop := [
  ⟨some (77, false), .fieldAddr 35 (.tmp 2) 3, 0, none, true⟩,
  ⟨some (78, false), .load 3 (.tmp 77), 3, none, true⟩,
  ⟨some (79, false), .binOp .geq 3 (.tmp 78) (.const (.int .i64 4)) 3, 4, none, true⟩,
  ⟨some (80, false), .move (.tmp 79), 4, none, true⟩,
  ⟨some (81, false), .fieldAddr 35 (.tmp 2) 3, 0, some (80, true), true⟩,
  ⟨some (82, false), .load 3 (.tmp 81), 3, some (80, true), true⟩,
  ⟨some (83, false), .binOp .leq 3 (.tmp 82) (.const (.int .i64 11)) 3, 4, some (80, true), true⟩,
  ⟨some (84, false), .pick (.tmp 80) (.tmp 83) (.const (.bool false)), 4, none, true⟩,
  ⟨some (12, true), .assign (.tmp 84), 4, none, true⟩]
theorem ref2_encode_r26_go {K : Env → Heap → Prop} {τ ρ : Env} {h : Heap} : vcOps Try.prog K ref2_encode_r26 τ ρ h = vcOps Try.prog K [
  ⟨some (77, false), .fieldAddr 35 (.tmp 2) 3, 0, none, true⟩,
  ⟨some (78, false), .load 3 (.tmp 77), 3, none, true⟩,
  ⟨some (79, false), .binOp .geq 3 (.tmp 78) (.const (.int .i64 4)) 3, 4, none, true⟩,
  ⟨some (80, false), .move (.tmp 79), 4, none, true⟩,
  ⟨some (81, false), .fieldAddr 35 (.tmp 2) 3, 0, some (80, true), true⟩,
  ⟨some (82, false), .load 3 (.tmp 81), 3, some (80, true), true⟩,
  ⟨some (83, false), .binOp .leq 3 (.tmp 82) (.const (.int .i64 11)) 3, 4, some (80, true), true⟩,
  ⟨some (84, false), .pick (.tmp 80) (.tmp 83) (.const (.bool false)), 4, none, true⟩,
  ⟨some (12, true), .assign (.tmp 84), 4, none, true⟩] τ ρ h := _root_.id rfl
def ref2_encode_r27 : List Sop := [
  ⟨some (86, false), .binOp .eql 9 (.tmp 44) (.const (.string { data := #[105] })) 9, 4, none, true⟩,
  ⟨some (85, true), .assign (.tmp 86), 4, none, true⟩]
theorem ref2_encode_r27_go {K : Env → Heap → Prop} {τ ρ : Env} {h : Heap} : vcOps Try.prog K ref2_encode_r27 τ ρ h = vcOps Try.prog K [
  ⟨some (86, false), .binOp .eql 9 (.tmp 44) (.const (.string { data := #[105] })) 9, 4, none, true⟩,
  ⟨some (85, true), .assign (.tmp 86), 4, none, true⟩] τ ρ h := _root_.id rfl
def ref2_encode_r28 : List Sop := [
  ⟨some (88, false), .fieldAddr 35 (.tmp 2) 3, 0, none, true⟩,
  ⟨some (89, false), .load 3 (.tmp 88), 3, none, true⟩,
  ⟨some (90, false), .call { callee := .value (.func 34), args := #[.tmp 89, .const (.int .i64 2), .const (.bool false)], argTypes := #[3, 3, 4] }, 45, none, false⟩,
  ⟨some (87, false), .move (.tmp 90), 45, none, true⟩,
  ⟨some (91, false), .extract (.tmp 87) 0, 9, none, true⟩,
  ⟨some (92, false), .extract (.tmp 87) 1, 4, none, true⟩,
  ⟨some (9, true), .assign (.tmp 91), 9, none, true⟩,
  ⟨some (11, true), .assign (.tmp 92), 4, none, true⟩]
theorem ref2_encode_r28_go {K : Env → Heap → Prop} {τ ρ : Env} {h : Heap} : vcOps Try.prog K ref2_encode_r28 τ ρ h = vcOps Try.prog K [
  ⟨some (88, false), .fieldAddr 35 (.tmp 2) 3, 0, none, true⟩,
  ⟨some (89, false), .load 3 (.tmp 88), 3, none, true⟩,
  ⟨some (90, false), .call { callee := .value (.func 34), args := #[.tmp 89, .const (.int .i64 2), .const (.bool false)], argTypes := #[3, 3, 4] }, 45, none, false⟩,
  ⟨some (87, false), .move (.tmp 90), 45, none, true⟩,
  ⟨some (91, false), .extract (.tmp 87) 0, 9, none, true⟩,
  ⟨some (92, false), .extract (.tmp 87) 1, 4, none, true⟩,
  ⟨some (9, true), .assign (.tmp 91), 9, none, true⟩,
  ⟨some (11, true), .assign (.tmp 92), 4, none, true⟩] τ ρ h := _root_.id rfl
def ref2_encode_r29 : List Sop := [
  ⟨some (94, false), .binOp .eql 9 (.tmp 44) (.const (.string { data := #[108] })) 9, 4, none, true⟩,
  ⟨some (93, true), .assign (.tmp 94), 4, none, true⟩]
theorem ref2_encode_r29_go {K : Env → Heap → Prop} {τ ρ : Env} {h : Heap} : vcOps Try.prog K ref2_encode_r29 τ ρ h = vcOps Try.prog K [
  ⟨some (94, false), .binOp .eql 9 (.tmp 44) (.const (.string { data := #[108] })) 9, 4, none, true⟩,
  ⟨some (93, true), .assign (.tmp 94), 4, none, true⟩] τ ρ h := _root_.id rfl
def ref2_encode_r30 : List Sop := [
  ⟨some (96, false), .fieldAddr 35 (.tmp 2) 3, 0, none, true⟩,
  ⟨some (97, false), .load 3 (.tmp 96), 3, none, true⟩,
  ⟨some (98, false), .move (.tmp 7), 3, none, true⟩,
  ⟨some (99, false), .call { callee := .value (.func 34), args := #[.tmp 97, .tmp 98, .const (.bool false)], argTypes := #[3, 3, 4] }, 45, none, false⟩,
  ⟨some (95, false), .move (.tmp 99), 45, none, true⟩,
  ⟨some (100, false), .extract (.tmp 95) 0, 9, none, true⟩,
  ⟨some (101, false), .extract (.tmp 95) 1, 4, none, true⟩,
  ⟨some (9, true), .assign (.tmp 100), 9, none, true⟩,
  ⟨some (11, true), .assign (.tmp 101), 4, none, true⟩]
theorem ref2_encode_r30_go {K : Env → Heap → Prop} {τ ρ : Env} {h : Heap} : vcOps Try.prog K ref2_encode_r30 τ ρ h = vcOps Try.prog K [
  ⟨some (96, false), .fieldAddr 35 (.tmp 2) 3, 0, none, true⟩,
  ⟨some (97, false), .load 3 (.tmp 96), 3, none, true⟩,
  ⟨some (98, false), .move (.tmp 7), 3, none, true⟩,
  ⟨some (99, false), .call { callee := .value (.func 34), args := #[.tmp 97, .tmp 98, .const (.bool false)], argTypes := #[3, 3, 4] }, 45, none, false⟩,
  ⟨some (95, false), .move (.tmp 99), 45, none, true⟩,
  ⟨some (100, false), .extract (.tmp 95) 0, 9, none, true⟩,
  ⟨some (101, false), .extract (.tmp 95) 1, 4, none, true⟩,
  ⟨some (9, true), .assign (.tmp 100), 9, none, true⟩,
  ⟨some (11, true), .assign (.tmp 101), 4, none, true⟩] τ ρ h := _root_.id rfl
def ref2_encode_r31 : List Sop := [
  ⟨some (103, false), .binOp .eql 9 (.tmp 44) (.const (.string { data := #[110] })) 9, 4, none, true⟩,
  ⟨some (102, true), .assign (.tmp 103), 4, none, true⟩]
theorem ref2_encode_r31_go {K : Env → Heap → Prop} {τ ρ : Env} {h : Heap} : vcOps Try.prog K ref2_encode_r31 τ ρ h = vcOps Try.prog K [
  ⟨some (103, false), .binOp .eql 9 (.tmp 44) (.const (.string { data := #[110] })) 9, 4, none, true⟩,
  ⟨some (102, true), .assign (.tmp 103), 4, none, true⟩] τ ρ h := _root_.id rfl
def ref2_encode_r32 : List Sop := [
  ⟨some (105, false), .fieldAddr 35 (.tmp 2) 3, 0, none, true⟩,
  ⟨some (106, false), .load 3 (.tmp 105), 3, none, true⟩,
  ⟨some (107, false), .move (.tmp 7), 3, none, true⟩,
  ⟨some (108, false), .call { callee := .value (.func 34), args := #[.tmp 106, .tmp 107, .const (.bool false)], argTypes := #[3, 3, 4] }, 45, none, false⟩,
  ⟨some (104, false), .move (.tmp 108), 45, none, true⟩,
  ⟨some (109, false), .extract (.tmp 104) 0, 9, none, true⟩,
  ⟨some (110, false), .extract (.tmp 104) 1, 4, none, true⟩,
  ⟨some (9, true), .assign (.tmp 109), 9, none, true⟩,
  ⟨some (11, true), .assign (.tmp 110), 4, none, true⟩]
theorem ref2_encode_r32_go {K : Env → Heap → Prop} {τ ρ : Env} {h : Heap} : vcOps Try.prog K ref2_encode_r32 τ ρ h = vcOps Try.prog K [
  ⟨some (105, false), .fieldAddr 35 (.tmp 2) 3, 0, none, true⟩,
  ⟨some (106, false), .load 3 (.tmp 105), 3, none, true⟩,
  ⟨some (107, false), .move (.tmp 7), 3, none, true⟩,
  ⟨some (108, false), .call { callee := .value (.func 34), args := #[.tmp 106, .tmp 107, .const (.bool false)], argTypes := #[3, 3, 4] }, 45, none, false⟩,
  ⟨some (104, false), .move (.tmp 108), 45, none, true⟩,
  ⟨some (109, false), .extract (.tmp 104) 0, 9, none, true⟩,
  ⟨some (110, false), .extract (.tmp 104) 1, 4, none, true⟩,
  ⟨some (9, true), .assign (.tmp 109), 9, none, true⟩,
  ⟨some (11, true), .assign (.tmp 110), 4, none, true⟩] τ ρ h := _root_.id rfl
def ref2_encode_r33 : List Sop := [
  ⟨some (112, false), .fieldAddr 35 (.tmp 2) 4, 0, none, true⟩,
  ⟨some (113, false), .load 3 (.tmp 112), 3, none, true⟩,
  ⟨some (114, false), .move (.tmp 7), 3, none, true⟩,
  ⟨some (115, false), .call { callee := .value (.func 34), args := #[.tmp 113, .tmp 114, .const (.bool true)], argTypes := #[3, 3, 4] }, 45, none, false⟩,
  ⟨some (111, false), .move (.tmp 115), 45, none, true⟩,
  ⟨some (116, false), .extract (.tmp 111) 0, 9, none, true⟩,
  ⟨some (117, false), .extract (.tmp 111) 1, 4, none, true⟩,
  ⟨some (10, true), .assign (.tmp 116), 9, none, true⟩,
  ⟨some (12, true), .assign (.tmp 117), 4, none, true⟩]
theorem ref2_encode_r33_go {K : Env → Heap → Prop} {τ ρ : Env} {h : Heap} : vcOps Try.prog K ref2_encode_r33 τ ρ h = vcOps Try.prog K [
  ⟨some (112, false), .fieldAddr 35 (.tmp 2) 4, 0, none, true⟩,
  ⟨some (113, false), .load 3 (.tmp 112), 3, none, true⟩,
  ⟨some (114, false), .move (.tmp 7), 3, none, true⟩,
  ⟨some (115, false), .call { callee := .value (.func 34), args := #[.tmp 113, .tmp 114, .const (.bool true)], argTypes := #[3, 3, 4] }, 45, none, false⟩,
  ⟨some (111, false), .move (.tmp 115), 45, none, true⟩,
  ⟨some (116, false), .extract (.tmp 111) 0, 9, none, true⟩,
  ⟨some (117, false), .extract (.tmp 111) 1, 4, none, true⟩,
  ⟨some (10, true), .assign (.tmp 116), 9, none, true⟩,
  ⟨some (12, true), .assign (.tmp 117), 4, none, true⟩] τ ρ h := _root_.id rfl
def ref2_encode_r34 : List Sop := [
  ⟨some (119, false), .binOp .eql 9 (.tmp 44) (.const (.string { data := #[106] })) 9, 4, none, true⟩,
  ⟨some (118, true), .assign (.tmp 119), 4, none, true⟩]
theorem ref2_encode_r34_go {K : Env → Heap → Prop} {τ ρ : Env} {h : Heap} : vcOps Try.prog K ref2_encode_r34 τ ρ h = vcOps Try.prog K [
  ⟨some (119, false), .binOp .eql 9 (.tmp 44) (.const (.string { data := #[106] })) 9, 4, none, true⟩,
  ⟨some (118, true), .assign (.tmp 119), 4, none, true⟩] τ ρ h := _root_.id rfl
def ref2_encode_r35 : List (Sop × List Sop) := [
  (⟨some (121, false), .fieldAddr 35 (.tmp 2) 7, 0, none, true⟩, []),
  (⟨some (122, false), .load 33 (.tmp 121), 33, none, true⟩, []),
  (⟨some (123, false), .indexAddr 33 (.tmp 122) (.const (.int .i64 0)), 0, none, true⟩, []),
  (⟨some (124, false), .load 3 (.tmp 123), 3, none, true⟩, []),
  (⟨some (125, false), .fieldAddr 35 (.tmp 2) 0, 0, none, true⟩, []),
  (⟨some (126, false), .load 3 (.tmp 125), 3, none, true⟩, []),
  (⟨some (127, false), .binOp .sub 3 (.tmp 124) (.tmp 126) 3, 3, none, true⟩, []),
  (⟨some (128, false), .call { callee := .value (.func 34), args := #[.tmp 127, .const (.int .i64 2), .const (.bool true)], argTypes := #[3, 3, 4] }, 45, none, false⟩, []),
  (⟨some (120, false), .move (.tmp 128), 45, none, true⟩, []),
  (⟨some (129, false), .extract (.tmp 120) 0, 9, none, true⟩, []),
  (⟨some (130, false), .extract (.tmp 120) 1, 4, none, true⟩, []),
  (⟨some (9, true), .assign (.tmp 129), 9, none, true⟩, []),
  (⟨some (11, true), .assign (.tmp 130), 4, none, true⟩, [])]
theorem ref2_encode_r35_go {K : Env → Heap → Prop} {τ ρ : Env} {h : Heap} : vcDraw Try.prog K ref2_encode_r35 τ ρ h = vcDraw Try.prog K [
  (⟨some (121, false), .fieldAddr 35 (.tmp 2) 7, 0, none, true⟩, []),
  (⟨some (122, false), .load 33 (.tmp 121), 33, none, true⟩, []),
  (⟨some (123, false), .indexAddr 33 (.tmp 122) (.const (.int .i64 0)), 0, none, true⟩, []),
  (⟨some (124, false), .load 3 (.tmp 123), 3, none, true⟩, []),
  (⟨some (125, false), .fieldAddr 35 (.tmp 2) 0, 0, none, true⟩, []),
  (⟨some (126, false), .load 3 (.tmp 125), 3, none, true⟩, []),
  (⟨some (127, false), .binOp .sub 3 (.tmp 124) (.tmp 126) 3, 3, none, true⟩, []),
  (⟨some (128, false), .call { callee := .value (.func 34), args := #[.tmp 127, .const (.int .i64 2), .const (.bool true)], argTypes := #[3, 3, 4] }, 45, none, false⟩, []),
  (⟨some (120, false), .move (.tmp 128), 45, none, true⟩, []),
  (⟨some (129, false), .extract (.tmp 120) 0, 9, none, true⟩, []),
  (⟨some (130, false), .extract (.tmp 120) 1, 4, none, true⟩, []),
  (⟨some (9, true), .assign (.tmp 129), 9, none, true⟩, []),
  (⟨some (11, true), .assign (.tmp 130), 4, none, true⟩, [])] τ ρ h := _root_.id rfl
def ref2_encode_r36 : List Sop := [
  ⟨some (132, false), .binOp .eql 9 (.tmp 44) (.const (.string { data := #[74] })) 9, 4, none, true⟩,
  ⟨some (131, true), .assign (.tmp 132), 4, none, true⟩]
theorem ref2_encode_r36_go {K : Env → Heap → Prop} {τ ρ : Env} {h : Heap} : vcOps Try.prog K ref2_encode_r36 τ ρ h = vcOps Try.prog K [
  ⟨some (132, false), .binOp .eql 9 (.tmp 44) (.const (.string { data := #[74] })) 9, 4, none, true⟩,
  ⟨some (131, true), .assign (.tmp 132), 4, none, true⟩] τ ρ h := _root_.id rfl
def ref2_encode_r37 : List (Sop × List Sop) := [
  (⟨some (134, false), .fieldAddr 35 (.tmp 2) 7, 0, none, true⟩, []),
  (⟨some (135, false), .load 33 (.tmp 134), 33, none, true⟩, []),
  (⟨some (136, false), .indexAddr 33 (.tmp 135) (.const (.int .i64 0)), 0, none, true⟩, []),
  (⟨some (137, false), .load 3 (.tmp 136), 3, none, true⟩, []),
  (⟨some (138, false), .fieldAddr 35 (.tmp 2) 0, 0, none, true⟩, []),
  (⟨some (139, false), .load 3 (.tmp 138), 3, none, true⟩, []),
  (⟨some (140, false), .binOp .sub 3 (.tmp 137) (.tmp 139) 3, 3, none, true⟩, []),
  (⟨some (141, false), .call { callee := .value (.func 34), args := #[.tmp 140, .const (.int .i64 4), .const (.bool true)], argTypes := #[3, 3, 4] }, 45, none, false⟩, []),
  (⟨some (133, false), .move (.tmp 141), 45, none, true⟩, []),
  (⟨some (142, false), .extract (.tmp 133) 0, 9, none, true⟩, []),
  (⟨some (143, false), .extract (.tmp 133) 1, 4, none, true⟩, []),
  (⟨some (9, true), .assign (.tmp 142), 9, none, true⟩, []),
  (⟨some (11, true), .assign (.tmp 143), 4, none, true⟩, [])]
theorem ref2_encode_r37_go {K : Env → Heap → Prop} {τ ρ : Env} {h : Heap} : vcDraw Try.prog K ref2_encode_r37 τ ρ h = vcDraw Try.prog K [
  (⟨some (134, false), .fieldAddr 35 (.tmp 2) 7, 0, none, true⟩, []),
  (⟨some (135, false), .load 33 (.tmp 134), 33, none, true⟩, []),
  (⟨some (136, false), .indexAddr 33 (.tmp 135) (.const (.int .i64 0)), 0, none, true⟩, []),
  (⟨some (137, false), .load 3 (.tmp 136), 3, none, true⟩, []),
  (⟨some (138, false), .fieldAddr 35 (.tmp 2) 0, 0, none, true⟩, []),
  (⟨some (139, false), .load 3 (.tmp 138), 3, none, true⟩, []),
  (⟨some (140, false), .binOp .sub 3 (.tmp 137) (.tmp 139) 3, 3, none, true⟩, []),
  (⟨some (141, false), .call { callee := .value (.func 34), args := #[.tmp 140, .const (.int .i64 4), .const (.bool true)], argTypes := #[3, 3, 4] }, 45, none, false⟩, []),
  (⟨some (133, false), .move (.tmp 141), 45, none, true⟩, []),
  (⟨some (142, false), .extract (.tmp 133) 0, 9, none, true⟩, []),
  (⟨some (143, false), .extract (.tmp 133) 1, 4, none, true⟩, []),
  (⟨some (9, true), .assign (.tmp 142), 9, none, true⟩, []),
  (⟨some (11, true), .assign (.tmp 143), 4, none, true⟩, [])] τ ρ h := _root_.id rfl
def ref2_encode_r38 : List Sop := [
  ⟨some (145, false), .binOp .eql 9 (.tmp 44) (.const (.string { data := #[102] })) 9, 4, none, true⟩,
  ⟨some (144, true), .assign (.tmp 145), 4, none, true⟩]
theorem ref2_encode_r38_go {K : Env → Heap → Prop} {τ ρ : Env} {h : Heap} : vcOps Try.prog K ref2_encode_r38 τ ρ h = vcOps Try.prog K [
  ⟨some (145, false), .binOp .eql 9 (.tmp 44) (.const (.string { data := #[102] })) 9, 4, none, true⟩,
  ⟨some (144, true), .assign (.tmp 145), 4, none, true⟩] τ ρ h := _root_.id rfl
def ref2_encode_r39 : List Sop := [
  ⟨some (146, false), .binOp .eql 9 (.tmp 44) (.const (.string { data := #[109] })) 9, 4, none, true⟩,
  ⟨some (144, true), .assign (.tmp 146), 4, none, true⟩]
theorem ref2_encode_r39_go {K : Env → Heap → Prop} {τ ρ : Env} {h : Heap} : vcOps Try.prog K ref2_encode_r39 τ ρ h = vcOps Try.prog K [
  ⟨some (146, false), .binOp .eql 9 (.tmp 44) (.const (.string { data := #[109] })) 9, 4, none, true⟩,
  ⟨some (144, true), .assign (.tmp 146), 4, none, true⟩] τ ρ h := _root_.id rfl
def ref2_encode_r40 : List Sop := [
  ⟨some (148, false), .fieldAddr 35 (.tmp 2) 3, 0, none, true⟩,
  ⟨some (149, false), .load 3 (.tmp 148), 3, none, true⟩,
  ⟨some (150, false), .call { callee := .value (.func 34), args := #[.tmp 149, .const (.int .i64 2), .const (.bool false)], argTypes := #[3, 3, 4] }, 45, none, false⟩,
  ⟨some (147, false), .move (.tmp 150), 45, none, true⟩,
  ⟨some (151, false), .extract (.tmp 147) 0, 9, none, true⟩,
  ⟨some (152, false), .extract (.tmp 147) 1, 4, none, true⟩,
  ⟨some (9, true), .assign (.tmp 151), 9, none, true⟩,
  ⟨some (11, true), .assign (.tmp 152), 4, none, true⟩]
theorem ref2_encode_r40_go {K : Env → Heap → Prop} {τ ρ : Env} {h : Heap} : vcOps Try.prog K ref2_encode_r40 τ ρ h = vcOps Try.prog K [
  ⟨some (148, false), .fieldAddr 35 (.tmp 2) 3, 0, none, true⟩,
  ⟨some (149, false), .load 3 (.tmp 148), 3, none, true⟩,
  ⟨some (150, false), .call { callee := .value (.func 34), args := #[.tmp 149, .const (.int .i64 2), .const (.bool false)], argTypes := #[3, 3, 4] }, 45, none, false⟩,
  ⟨some (147, false), .move (.tmp 150), 45, none, true⟩,
  ⟨some (151, false), .extract (.tmp 147) 0, 9, none, true⟩,
  ⟨some (152, false), .extract (.tmp 147) 1, 4, none, true⟩,
  ⟨some (9, true), .assign (.tmp 151), 9, none, true⟩,
  ⟨some (11, true), .assign (.tmp 152), 4, none, true⟩] τ ρ h := _root_.id rfl
def ref2_encode_r41 : List Sop := [
  ⟨some (154, false), .fieldAddr 35 (.tmp 2) 4, 0, none, true⟩,
  ⟨some (155, false), .load 3 (.tmp 154), 3, none, true⟩,
  ⟨some (156, false), .call { callee := .value (.func 34), args := #[.tmp 155, .const (.int .i64 1), .const (.bool false)], argTypes := #[3, 3, 4] }, 45, none, false⟩,
  ⟨some (153, false), .move (.tmp 156), 45, none, true⟩,
  ⟨some (157, false), .extract (.tmp 153) 0, 9, none, true⟩,
  ⟨some (158, false), .extract (.tmp 153) 1, 4, none, true⟩,
  ⟨some (10, true), .assign (.tmp 157), 9, none, true⟩,
  ⟨some (12, true), .assign (.tmp 158), 4, none, true⟩]
theorem ref2_encode_r41_go {K : Env → Heap → Prop} {τ ρ : Env} {h : Heap} : vcOps Try.prog K ref2_encode_r41 τ ρ h = vcOps Try.prog K [
  ⟨some (154, false), .fieldAddr 35 (.tmp 2) 4, 0, none, true⟩,
  ⟨some (155, false), .load 3 (.tmp 154), 3, none, true⟩,
  ⟨some (156, false), .call { callee := .value (.func 34), args := #[.tmp 155, .const (.int .i64 1), .const (.bool false)], argTypes := #[3, 3, 4] }, 45, none, false⟩,
  ⟨some (153, false), .move (.tmp 156), 45, none, true⟩,
  ⟨some (157, false), .extract (.tmp 153) 0, 9, none, true⟩,
  ⟨some (158, false), .extract (.tmp 153) 1, 4, none, true⟩,
  ⟨some (10, true), .assign (.tmp 157), 9, none, true⟩,
  ⟨some (12, true), .assign (.tmp 158), 4, none, true⟩] τ ρ h := _root_.id rfl
def ref2_encode_r42 : List Sop := [
  ⟨some (159, false), .move (.tmp 12), 4, none, true⟩,
  ⟨some (160, false), .move (.tmp 159), 4, none, true⟩,
  ⟨some (161, false), .fieldAddr 35 (.tmp 2) 4, 0, some (160, true), true⟩,
  ⟨some (162, false), .load 3 (.tmp 161), 3, some (160, true), true⟩,
  ⟨some (163, false), .binOp .gtr 3 (.tmp 162) (.const (.int .i64 0)) 3, 4, some (160, true), true⟩,
  ⟨some (164, false), .pick (.tmp 160) (.tmp 163) (.const (.bool false)), 4, none, true⟩,
  ⟨some (12, true), .assign (.tmp 164), 4, none, true⟩]
theorem ref2_encode_r42_go {K : Env → Heap → Prop} {τ ρ : Env} {h : Heap} : vcOps Try.prog K ref2_encode_r42 τ ρ h = vcOps Try.prog K [
  ⟨some (159, false), .move (.tmp 12), 4, none, true⟩,
  ⟨some (160, false), .move (.tmp 159), 4, none, true⟩,
  ⟨some (161, false), .fieldAddr 35 (.tmp 2) 4, 0, some (160, true), true⟩,
  ⟨some (162, false), .load 3 (.tmp 161), 3, some (160, true), true⟩,
  ⟨some (163, false), .binOp .gtr 3 (.tmp 162) (.const (.int .i64 0)) 3, 4, some (160, true), true⟩,
  ⟨some (164, false), .pick (.tmp 160) (.tmp 163) (.const (.bool false)), 4, none, true⟩,
  ⟨some (12, true), .assign (.tmp 164), 4, none, true⟩] τ ρ h := _root_.id rfl
def ref2_encode_r43 : List Sop := [
  ⟨some (165, false), .move (.tmp 1), 9, none, true⟩,
  ⟨some (166, true), .binOp .eql 9 (.tmp 165) (.const (.string { data := #[102] })) 9, 4, none, true⟩]
theorem ref2_encode_r43_go {K : Env → Heap → Prop} {τ ρ : Env} {h : Heap} : vcOps Try.prog K ref2_encode_r43 τ ρ h = vcOps Try.prog K [
  ⟨some (165, false), .move (.tmp 1), 9, none, true⟩,
  ⟨some (166, true), .binOp .eql 9 (.tmp 165) (.const (.string { data := #[102] })) 9, 4, none, true⟩] τ ρ h := _root_.id rfl
def ref2_encode_r44 : List Sop := [
  ⟨some (167, false), .move (.tmp 10), 9, none, true⟩,
  ⟨some (168, false), .binOp .add 9 (.tmp 167) (.const (.string { data := #[0] })) 9, 9, none, true⟩,
  ⟨some (10, true), .assign (.tmp 168), 9, none, true⟩]
theorem ref2_encode_r44_go {K : Env → Heap → Prop} {τ ρ : Env} {h : Heap} : vcOps Try.prog K ref2_encode_r44 τ ρ h = vcOps Try.prog K [
  ⟨some (167, false), .move (.tmp 10), 9, none, true⟩,
  ⟨some (168, false), .binOp .add 9 (.tmp 167) (.const (.string { data := #[0] })) 9, 9, none, true⟩,
  ⟨some (10, true), .assign (.tmp 168), 9, none, true⟩] τ ρ h := _root_.id rfl
def ref2_encode_r45 : List Sop := [
  ⟨some (169, false), .move (.tmp 6), 9, none, true⟩,
  ⟨some (170, false), .move (.tmp 9), 9, none, true⟩,
  ⟨some (171, false), .binOp .add 9 (.tmp 169) (.tmp 170) 9, 9, none, true⟩,
  ⟨some (172, false), .move (.tmp 10), 9, none, true⟩,
  ⟨some (173, false), .binOp .add 9 (.tmp 171) (.tmp 172) 9, 9, none, true⟩,
  ⟨some (174, false), .move (.tmp 11), 4, none, true⟩,
  ⟨some (175, false), .move (.tmp 174), 4, none, true⟩,
  ⟨some (176, false), .move (.tmp 12), 4, some (175, true), true⟩,
  ⟨some (177, false), .pick (.tmp 175) (.tmp 176) (.const (.bool false)), 4, none, true⟩,
  ⟨some (4, true), .assign (.tmp 173), 9, none, true⟩,
  ⟨some (5, true), .assign (.tmp 177), 4, none, true⟩]
theorem ref2_encode_r45_go {K : Env → Heap → Prop} {τ ρ : Env} {h : Heap} : vcOps Try.prog K ref2_encode_r45 τ ρ h = vcOps Try.prog K [
  ⟨some (169, false), .move (.tmp 6), 9, none, true⟩,
  ⟨some (170, false), .move (.tmp 9), 9, none, true⟩,
  ⟨some (171, false), .binOp .add 9 (.tmp 169) (.tmp 170) 9, 9, none, true⟩,
  ⟨some (172, false), .move (.tmp 10), 9, none, true⟩,
  ⟨some (173, false), .binOp .add 9 (.tmp 171) (.tmp 172) 9, 9, none, true⟩,
  ⟨some (174, false), .move (.tmp 11), 4, none, true⟩,
  ⟨some (175, false), .move (.tmp 174), 4, none, true⟩,
  ⟨some (176, false), .move (.tmp 12), 4, some (175, true), true⟩,
  ⟨some (177, false), .pick (.tmp 175) (.tmp 176) (.const (.bool false)), 4, none, true⟩,
  ⟨some (4, true), .assign (.tmp 173), 9, none, true⟩,
  ⟨some (5, true), .assign (.tmp 177), 4, none, true⟩] τ ρ h := _root_.id rfl
def ref2_encode : Cd := .seq (.region ref2_encode_r0) (.seq (.region ref2_encode_r1) (.seq (.region ref2_encode_r2) (.seq (.seq (.region ref2_encode_r3) (.cond (.tmp 18) (.seq (.region ref2_encode_r4) (.region ref2_encode_r5)) (.skip))) (.seq (.seq (.region ref2_encode_r6) (.cond (.tmp 26) (.seq (.region ref2_encode_r7) (.ret)) (.skip))) (.seq (.region ref2_encode_r8) (.seq (.seq (.region ref2_encode_r9) (.cond (.tmp 38) (.region ref2_encode_r10) (.skip))) (.seq (.seq (.region ref2_encode_r11) (.cond (.tmp 43) (.seq (.region ref2_encode_r12) (.ret)) (.skip))) (.seq (.region ref2_encode_r13) (.seq (.region ref2_encode_r14) (.seq (.region ref2_encode_r15) (.seq (.region ref2_encode_r16) (.seq (.seq (.region ref2_encode_r17) (.block 0 (.seq (.region ref2_encode_r18) (.cond (.tmp 45) (.region ref2_encode_r19) (.seq (.region ref2_encode_r20) (.cond (.tmp 53) (.region ref2_encode_r21) (.seq (.region ref2_encode_r22) (.cond (.tmp 61) (.region ref2_encode_r23) (.seq (.region ref2_encode_r24) (.cond (.tmp 69) (.seq (.region ref2_encode_r25) (.region ref2_encode_r26)) (.seq (.region ref2_encode_r27) (.cond (.tmp 85) (.region ref2_encode_r28) (.seq (.region ref2_encode_r29) (.cond (.tmp 93) (.region ref2_encode_r30) (.seq (.region ref2_encode_r31) (.cond (.tmp 102) (.seq (.region ref2_encode_r32) (.region ref2_encode_r33)) (.seq (.region ref2_encode_r34) (.cond (.tmp 118) (.draw ref2_encode_r35) (.seq (.region ref2_encode_r36) (.cond (.tmp 131) (.draw ref2_encode_r37) (.seq (.seq (.region ref2_encode_r38) (.cond (.tmp 144) (.skip) (.region ref2_encode_r39))) (.cond (.tmp 144) (.seq (.region ref2_encode_r40) (.seq (.region ref2_encode_r41) (.seq (.region ref2_encode_r42) (.seq (.region ref2_encode_r43) (.cond (.tmp 166) (.region ref2_encode_r44) (.skip)))))) (.skip))))))))))))))))))))))) (.seq (.region ref2_encode_r45) (.ret))))))))))))))
theorem ref2_encode_go {Q : Ex → Env → Heap → Prop} {ρ : Env} {h : Heap} : Cd.vc Try.prog ref2_encode Q ρ h = Cd.vc Try.prog (.seq (.region ref2_encode_r0) (.seq (.region ref2_encode_r1) (.seq (.region ref2_encode_r2) (.seq (.seq (.region ref2_encode_r3) (.cond (.tmp 18) (.seq (.region ref2_encode_r4) (.region ref2_encode_r5)) (.skip))) (.seq (.seq (.region ref2_encode_r6) (.cond (.tmp 26) (.seq (.region ref2_encode_r7) (.ret)) (.skip))) (.seq (.region ref2_encode_r8) (.seq (.seq (.region ref2_encode_r9) (.cond (.tmp 38) (.region ref2_encode_r10) (.skip))) (.seq (.seq (.region ref2_encode_r11) (.cond (.tmp 43) (.seq (.region ref2_encode_r12) (.ret)) (.skip))) (.seq (.region ref2_encode_r13) (.seq (.region ref2_encode_r14) (.seq (.region ref2_encode_r15) (.seq (.region ref2_encode_r16) (.seq (.seq (.region ref2_encode_r17) (.block 0 (.seq (.region ref2_encode_r18) (.cond (.tmp 45) (.region ref2_encode_r19) (.seq (.region ref2_encode_r20) (.cond (.tmp 53) (.region ref2_encode_r21) (.seq (.region ref2_encode_r22) (.cond (.tmp 61) (.region ref2_encode_r23) (.seq (.region ref2_encode_r24) (.cond (.tmp 69) (.seq (.region ref2_encode_r25) (.region ref2_encode_r26)) (.seq (.region ref2_encode_r27) (.cond (.tmp 85) (.region ref2_encode_r28) (.seq (.region ref2_encode_r29) (.cond (.tmp 93) (.region ref2_encode_r30) (.seq (.region ref2_encode_r31) (.cond (.tmp 102) (.seq (.region ref2_encode_r32) (.region ref2_encode_r33)) (.seq (.region ref2_encode_r34) (.cond (.tmp 118) (.draw ref2_encode_r35) (.seq (.region ref2_encode_r36) (.cond (.tmp 131) (.draw ref2_encode_r37) (.seq (.seq (.region ref2_encode_r38) (.cond (.tmp 144) (.skip) (.region ref2_encode_r39))) (.cond (.tmp 144) (.seq (.region ref2_encode_r40) (.seq (.region ref2_encode_r41) (.seq (.region ref2_encode_r42) (.seq (.region ref2_encode_r43) (.cond (.tmp 166) (.region ref2_encode_r44) (.skip)))))) (.skip))))))))))))))))))))))) (.seq (.region ref2_encode_r45) (.ret))))))))))))))) Q ρ h := _root_.id rfl
theorem ref2_encode_calls {args : List Value} {h : Heap} {R : Value → Heap → Prop} (hl : args.length = 2) (hv : Cd.vc Try.prog ref2_encode (retQ Try.prog [(4, none), (5, none)] R) (initEnv args [0, 1, 2, 4, 5, 6, 7, 8, 9, 10, 11, 12, 18, 26, 38, 43, 44, 45, 53, 61, 69, 85, 93, 102, 118, 131, 144, 166]) h) : HCalls Try.prog 17 args.toArray h R :=
  hcalls_of_vc (by kernel_rfl) Try.func17 (cd := ref2_encode) (L := [0, 1, 2, 4, 5, 6, 7, 8, 9, 10, 11, 12, 18, 26, 38, 43, 44, 45, 53, 61, 69, 85, 93, 102, 118, 131, 144, 166]) (by kernel_rfl) (by kernel_rfl) ⟨by rw [hl, Try.ntmps17]; decide, by rw [Try.ntmps17]; decide⟩ hv
def ref2_encode_gos := And.intro @ref2_encode_go (And.intro @ref2_encode_r0_go (And.intro @ref2_encode_r1_go (And.intro @ref2_encode_r2_go (And.intro @ref2_encode_r3_go (And.intro @ref2_encode_r4_go (And.intro @ref2_encode_r5_go (And.intro @ref2_encode_r6_go (And.intro @ref2_encode_r7_go (And.intro @ref2_encode_r8_go (And.intro @ref2_encode_r9_go (And.intro @ref2_encode_r10_go (And.intro @ref2_encode_r11_go (And.intro @ref2_encode_r12_go (And.intro @ref2_encode_r13_go (And.intro @ref2_encode_r14_go (And.intro @ref2_encode_r15_go (And.intro @ref2_encode_r16_go (And.intro @ref2_encode_r17_go (And.intro @ref2_encode_r18_go (And.intro @ref2_encode_r19_go (And.intro @ref2_encode_r20_go (And.intro @ref2_encode_r21_go (And.intro @ref2_encode_r22_go (And.intro @ref2_encode_r23_go (And.intro @ref2_encode_r24_go (And.intro @ref2_encode_r25_go (And.intro @ref2_encode_r26_go (And.intro @ref2_encode_r27_go (And.intro @ref2_encode_r28_go (And.intro @ref2_encode_r29_go (And.intro @ref2_encode_r30_go (And.intro @ref2_encode_r31_go (And.intro @ref2_encode_r32_go (And.intro @ref2_encode_r33_go (And.intro @ref2_encode_r34_go (And.intro @ref2_encode_r35_go (And.intro @ref2_encode_r36_go (And.intro @ref2_encode_r37_go (And.intro @ref2_encode_r38_go (And.intro @ref2_encode_r39_go (And.intro @ref2_encode_r40_go (And.intro @ref2_encode_r41_go (And.intro @ref2_encode_r42_go (And.intro @ref2_encode_r43_go (And.intro @ref2_encode_r44_go (@ref2_encode_r45_go))))))))))))))))))))))))))))))))))))))))))))))

/-! jvmcore/jvmcoreref2.Encode: function 9: slots [0, 2, 3, 4, 5, 6, 7, 8, 9, 10, 11, 13, 14, 15, 17, 20, 21, 22, 23, 24, 32, 55, 64, 71, 77, 78, 79, 80, 88, 89, 90, 91, 96, 97, 98, 99, 116] -/
def ref2_Encode_r0 : List Sop := [
  ⟨some (2, true), .assign (.const (.string { data := #[] })), 9, none, true⟩,
  ⟨some (3, true), .assign (.const (.int .i64 0)), 25, none, true⟩,
  ⟨some (4, true), .assign (.const (.int .i64 0)), 3, none, true⟩]
theorem ref2_Encode_r0_go {K : Env → Heap → Prop} {τ ρ : Env} {h : Heap} : vcOps Try.prog K ref2_Encode_r0 τ ρ h = vcOps Try.prog K [
  ⟨some (2, true), .assign (.const (.string { data := #[] })), 9, none, true⟩,
  ⟨some (3, true), .assign (.const (.int .i64 0)), 25, none, true⟩,
  ⟨some (4, true), .assign (.const (.int .i64 0)), 3, none, true⟩] τ ρ h := _root_.id rfl
def ref2_Encode_r1 : List Sop := [
  ⟨some (18, false), .move (.tmp 0), 22, none, true⟩,
  ⟨some (19, false), .call { callee := .builtin .len, args := #[.tmp 18], argTypes := #[22] }, 3, none, true⟩,
  ⟨some (20, true), .binOp .eql 3 (.tmp 19) (.const (.int .i64 0)) 3, 4, none, true⟩]
theorem ref2_Encode_r1_go {K : Env → Heap → Prop} {τ ρ : Env} {h : Heap} : vcOps Try.prog K ref2_Encode_r1 τ ρ h = vcOps Try.prog K [
  ⟨some (18, false), .move (.tmp 0), 22, none, true⟩,
  ⟨some (19, false), .call { callee := .builtin .len, args := #[.tmp 18], argTypes := #[22] }, 3, none, true⟩,
  ⟨some (20, true), .binOp .eql 3 (.tmp 19) (.const (.int .i64 0)) 3, 4, none, true⟩] τ ρ h := _root_.id rfl
def ref2_Encode_r2 : List Sop := [
  ⟨some (2, true), .assign (.const (.string { data := #[] })), 9, none, true⟩,
  ⟨some (3, true), .assign (.const (.int .i64 12)), 25, none, true⟩,
  ⟨some (4, true), .assign (.const (.int .i64 0)), 3, none, true⟩]
theorem ref2_Encode_r2_go {K : Env → Heap → Prop} {τ ρ : Env} {h : Heap} : vcOps Try.prog K ref2_Encode_r2 τ ρ h = vcOps Try.prog K [
  ⟨some (2, true), .assign (.const (.string { data := #[] })), 9, none, true⟩,
  ⟨some (3, true), .assign (.const (.int .i64 12)), 25, none, true⟩,
  ⟨some (4, true), .assign (.const (.int .i64 0)), 3, none, true⟩] τ ρ h := _root_.id rfl
def ref2_Encode_r3 : List Sop := [
  ⟨some (5, true), .assign (.const (.slice none 0 0)), 37, none, true⟩]
theorem ref2_Encode_r3_go {K : Env → Heap → Prop} {τ ρ : Env} {h : Heap} : vcOps Try.prog K ref2_Encode_r3 τ ρ h = vcOps Try.prog K [
  ⟨some (5, true), .assign (.const (.slice none 0 0)), 37, none, true⟩] τ ρ h := _root_.id rfl
def ref2_Encode_r4 : List Sop := [
  ⟨some (21, true), .move (.tmp 0), 22, none, true⟩,
  ⟨some (22, true), .call { callee := .builtin .len, args := #[.tmp 21], argTypes := #[22] }, 3, none, true⟩,
  ⟨some (23, true), .move (.const (.int .i64 0)), 3, none, true⟩]
theorem ref2_Encode_r4_go {K : Env → Heap → Prop} {τ ρ : Env} {h : Heap} : vcOps Try.prog K ref2_Encode_r4 τ ρ h = vcOps Try.prog K [
  ⟨some (21, true), .move (.tmp 0), 22, none, true⟩,
  ⟨some (22, true), .call { callee := .builtin .len, args := #[.tmp 21], argTypes := #[22] }, 3, none, true⟩,
  ⟨some (23, true), .move (.const (.int .i64 0)), 3, none, true⟩] τ ρ h := _root_.id rfl
def ref2_Encode_r5 : List Sop := [
  ⟨some (24, true), .binOp .lss 3 (.tmp 23) (.tmp 22) 3, 0, none, true⟩]
theorem ref2_Encode_r5_go {K : Env → Heap → Prop} {τ ρ : Env} {h : Heap} : vcOps Try.prog K ref2_Encode_r5 τ ρ h = vcOps Try.prog K [
  ⟨some (24, true), .binOp .lss 3 (.tmp 23) (.tmp 22) 3, 0, none, true⟩] τ ρ h := _root_.id rfl
def ref2_Encode_r6 : List Sop := [
  ⟨some (25, false), .move (.tmp 23), 3, none, true⟩,
  ⟨some (26, false), .indexAddr 22 (.tmp 21) (.tmp 23), 0, none, true⟩,
  ⟨some (27, false), .load 35 (.tmp 26), 35, none, true⟩,
  ⟨some (7, true), .alloc 35, 0, none, false⟩,
  ⟨some (6, true), .assign (.tmp 25), 3, none, true⟩,
  ⟨none, .store 35 (.tmp 7) (.tmp 27), 0, none, false⟩]
theorem ref2_Encode_r6_go {K : Env → Heap → Prop} {τ ρ : Env} {h : Heap} : vcOps Try.prog K ref2_Encode_r6 τ ρ h = vcOps Try.prog K [
  ⟨some (25, false), .move (.tmp 23), 3, none, true⟩,
  ⟨some (26, false), .indexAddr 22 (.tmp 21) (.tmp 23), 0, none, true⟩,
  ⟨some (27, false), .load 35 (.tmp 26), 35, none, true⟩,
  ⟨some (7, true), .alloc 35, 0, none, false⟩,
  ⟨some (6, true), .assign (.tmp 25), 3, none, true⟩,
  ⟨none, .store 35 (.tmp 7) (.tmp 27), 0, none, false⟩] τ ρ h := _root_.id rfl
def ref2_Encode_r7 : List Sop := [
  ⟨some (28, false), .fieldAddr 35 (.tmp 7) 0, 0, none, true⟩,
  ⟨some (29, false), .load 3 (.tmp 28), 3, none, true⟩,
  ⟨some (30, false), .move (.tmp 5), 37, none, true⟩,
  ⟨some (31, false), .call { callee := .builtin .len, args := #[.tmp 30], argTypes := #[37] }, 3, none, true⟩,
  ⟨some (32, true), .binOp .neq 3 (.tmp 29) (.tmp 31) 3, 4, none, true⟩]
theorem ref2_Encode_r7_go {K : Env → Heap → Prop} {τ ρ : Env} {h : Heap} : vcOps Try.prog K ref2_Encode_r7 τ ρ h = vcOps Try.prog K [
  ⟨some (28, false), .fieldAddr 35 (.tmp 7) 0, 0, none, true⟩,
  ⟨some (29, false), .load 3 (.tmp 28), 3, none, true⟩,
  ⟨some (30, false), .move (.tmp 5), 37, none, true⟩,
  ⟨some (31, false), .call { callee := .builtin .len, args := #[.tmp 30], argTypes := #[37] }, 3, none, true⟩,
  ⟨some (32, true), .binOp .neq 3 (.tmp 29) (.tmp 31) 3, 4, none, true⟩] τ ρ h := _root_.id rfl
def ref2_Encode_r8 : List Sop := [
  ⟨some (33, false), .move (.tmp 6), 3, none, true⟩,
  ⟨some (2, true), .assign (.const (.string { data := #[] })), 9, none, true⟩,
  ⟨some (3, true), .assign (.const (.int .i64 16)), 25, none, true⟩,
  ⟨some (4, true), .assign (.tmp 33), 3, none, true⟩]
theorem ref2_Encode_r8_go {K : Env → Heap → Prop} {τ ρ : Env} {h : Heap} : vcOps Try.prog K ref2_Encode_r8 τ ρ h = vcOps Try.prog K [
  ⟨some (33, false), .move (.tmp 6), 3, none, true⟩,
  ⟨some (2, true), .assign (.const (.string { data := #[] })), 9, none, true⟩,
  ⟨some (3, true), .assign (.const (.int .i64 16)), 25, none, true⟩,
  ⟨some (4, true), .assign (.tmp 33), 3, none, true⟩] τ ρ h := _root_.id rfl
def ref2_Encode_r9 : List Sop := [
  ⟨some (34, false), .fieldAddr 35 (.tmp 7) 1, 0, none, true⟩,
  ⟨some (35, false), .load 5 (.tmp 34), 5, none, true⟩,
  ⟨some (36, false), .convert 5 3 (.tmp 35), 3, none, true⟩,
  ⟨some (37, false), .call { callee := .value (.func 16), args := #[.tmp 36], argTypes := #[3] }, 9, none, false⟩,
  ⟨some (8, true), .assign (.tmp 37), 9, none, true⟩]
theorem ref2_Encode_r9_go {K : Env → Heap → Prop} {τ ρ : Env} {h : Heap} : vcOps Try.prog K ref2_Encode_r9 τ ρ h = vcOps Try.prog K [
  ⟨some (34, false), .fieldAddr 35 (.tmp 7) 1, 0, none, true⟩,
  ⟨some (35, false), .load 5 (.tmp 34), 5, none, true⟩,
  ⟨some (36, false), .convert 5 3 (.tmp 35), 3, none, true⟩,
  ⟨some (37, false), .call { callee := .value (.func 16), args := #[.tmp 36], argTypes := #[3] }, 9, none, false⟩,
  ⟨some (8, true), .assign (.tmp 37), 9, none, true⟩] τ ρ h := _root_.id rfl
def ref2_Encode_r10 : List Sop := [
  ⟨some (38, false), .move (.tmp 8), 9, none, true⟩,
  ⟨some (39, false), .binOp .eql 9 (.tmp 38) (.const (.string { data := #[120] })) 9, 4, none, true⟩,
  ⟨some (40, false), .move (.tmp 39), 4, none, true⟩,
  ⟨some (41, false), .move (.tmp 8), 9, some (40, false), true⟩,
  ⟨some (42, false), .binOp .eql 9 (.tmp 41) (.const (.string { data := #[119] })) 9, 4, some (40, false), true⟩,
  ⟨some (43, false), .pick (.tmp 40) (.const (.bool true)) (.tmp 42), 4, none, true⟩,
  ⟨some (44, false), .move (.tmp 43), 4, none, true⟩,
  ⟨some (45, false), .fieldAddr 35 (.tmp 7) 2, 0, some (44, false), true⟩,
  ⟨some (46, false), .load 4 (.tmp 45), 4, some (44, false), true⟩,
  ⟨some (47, false), .move (.tmp 46), 4, some (44, false), true⟩,
  ⟨some (48, false), .move (.tmp 8), 9, some (47, true), true⟩,
  ⟨some (49, false), .binOp .neq 9 (.tmp 48) (.const (.string { data := #[108] })) 9, 4, some (47, true), true⟩,
  ⟨some (50, false), .pick (.tmp 47) (.tmp 49) (.const (.bool false)), 4, some (44, false), true⟩,
  ⟨some (51, false), .move (.tmp 50), 4, some (44, false), true⟩,
  ⟨some (52, false), .move (.tmp 8), 9, some (51, true), true⟩,
  ⟨some (53, false), .binOp .neq 9 (.tmp 52) (.const (.string { data := #[110] })) 9, 4, some (51, true), true⟩,
  ⟨some (54, false), .pick (.tmp 51) (.tmp 53) (.const (.bool false)), 4, some (44, false), true⟩,
  ⟨some (55, true), .pick (.tmp 44) (.const (.bool true)) (.tmp 54), 4, none, true⟩]
theorem ref2_Encode_r10_go {K : Env → Heap → Prop} {τ ρ : Env} {h : Heap} : vcOps Try.prog K ref2_Encode_r10 τ ρ h = vcOps Try.prog K [
  ⟨some (38, false), .move (.tmp 8), 9, none, true⟩,
  ⟨some (39, false), .binOp .eql 9 (.tmp 38) (.const (.string { data := #[120] })) 9, 4, none, true⟩,
  ⟨some (40, false), .move (.tmp 39), 4, none, true⟩,
  ⟨some (41, false), .move (.tmp 8), 9, some (40, false), true⟩,
  ⟨some (42, false), .binOp .eql 9 (.tmp 41) (.const (.string { data := #[119] })) 9, 4, some (40, false), true⟩,
  ⟨some (43, false), .pick (.tmp 40) (.const (.bool true)) (.tmp 42), 4, none, true⟩,
  ⟨some (44, false), .move (.tmp 43), 4, none, true⟩,
  ⟨some (45, false), .fieldAddr 35 (.tmp 7) 2, 0, some (44, false), true⟩,
  ⟨some (46, false), .load 4 (.tmp 45), 4, some (44, false), true⟩,
  ⟨some (47, false), .move (.tmp 46), 4, some (44, false), true⟩,
  ⟨some (48, false), .move (.tmp 8), 9, some (47, true), true⟩,
  ⟨some (49, false), .binOp .neq 9 (.tmp 48) (.const (.string { data := #[108] })) 9, 4, some (47, true), true⟩,
  ⟨some (50, false), .pick (.tmp 47) (.tmp 49) (.const (.bool false)), 4, some (44, false), true⟩,
  ⟨some (51, false), .move (.tmp 50), 4, some (44, false), true⟩,
  ⟨some (52, false), .move (.tmp 8), 9, some (51, true), true⟩,
  ⟨some (53, false), .binOp .neq 9 (.tmp 52) (.const (.string { data := #[110] })) 9, 4, some (51, true), true⟩,
  ⟨some (54, false), .pick (.tmp 51) (.tmp 53) (.const (.bool false)), 4, some (44, false), true⟩,
  ⟨some (55, true), .pick (.tmp 44) (.const (.bool true)) (.tmp 54), 4, none, true⟩] τ ρ h := _root_.id rfl
def ref2_Encode_r11 : List Sop := [
  ⟨some (56, false), .move (.tmp 6), 3, none, true⟩,
  ⟨some (2, true), .assign (.const (.string { data := #[] })), 9, none, true⟩,
  ⟨some (3, true), .assign (.const (.int .i64 14)), 25, none, true⟩,
  ⟨some (4, true), .assign (.tmp 56), 3, none, true⟩]
theorem ref2_Encode_r11_go {K : Env → Heap → Prop} {τ ρ : Env} {h : Heap} : vcOps Try.prog K ref2_Encode_r11 τ ρ h = vcOps Try.prog K [
  ⟨some (56, false), .move (.tmp 6), 3, none, true⟩,
  ⟨some (2, true), .assign (.const (.string { data := #[] })), 9, none, true⟩,
  ⟨some (3, true), .assign (.const (.int .i64 14)), 25, none, true⟩,
  ⟨some (4, true), .assign (.tmp 56), 3, none, true⟩] τ ρ h := _root_.id rfl
def ref2_Encode_r12 : List Sop := [
  ⟨some (58, false), .load 35 (.tmp 7), 35, none, true⟩,
  ⟨some (59, false), .move (.tmp 8), 9, none, true⟩,
  ⟨some (60, false), .call { callee := .value (.func 17), args := #[.tmp 58, .tmp 59], argTypes := #[35, 9] }, 45, none, false⟩,
  ⟨some (57, false), .move (.tmp 60), 45, none, true⟩,
  ⟨some (61, false), .extract (.tmp 57) 0, 9, none, true⟩,
  ⟨some (62, false), .extract (.tmp 57) 1, 4, none, true⟩,
  ⟨some (9, true), .assign (.tmp 61), 9, none, true⟩,
  ⟨some (10, true), .assign (.tmp 62), 4, none, true⟩]
theorem ref2_Encode_r12_go {K : Env → Heap → Prop} {τ ρ : Env} {h : Heap} : vcOps Try.prog K ref2_Encode_r12 τ ρ h = vcOps Try.prog K [
  ⟨some (58, false), .load 35 (.tmp 7), 35, none, true⟩,
  ⟨some (59, false), .move (.tmp 8), 9, none, true⟩,
  ⟨some (60, false), .call { callee := .value (.func 17), args := #[.tmp 58, .tmp 59], argTypes := #[35, 9] }, 45, none, false⟩,
  ⟨some (57, false), .move (.tmp 60), 45, none, true⟩,
  ⟨some (61, false), .extract (.tmp 57) 0, 9, none, true⟩,
  ⟨some (62, false), .extract (.tmp 57) 1, 4, none, true⟩,
  ⟨some (9, true), .assign (.tmp 61), 9, none, true⟩,
  ⟨some (10, true), .assign (.tmp 62), 4, none, true⟩] τ ρ h := _root_.id rfl
def ref2_Encode_r13 : List Sop := [
  ⟨some (63, false), .move (.tmp 10), 4, none, true⟩,
  ⟨some (64, true), .unOp .not 4 (.tmp 63), 4, none, true⟩]
theorem ref2_Encode_r13_go {K : Env → Heap → Prop} {τ ρ : Env} {h : Heap} : vcOps Try.prog K ref2_Encode_r13 τ ρ h = vcOps Try.prog K [
  ⟨some (63, false), .move (.tmp 10), 4, none, true⟩,
  ⟨some (64, true), .unOp .not 4 (.tmp 63), 4, none, true⟩] τ ρ h := _root_.id rfl
def ref2_Encode_r14 : List Sop := [
  ⟨some (65, false), .move (.tmp 6), 3, none, true⟩,
  ⟨some (2, true), .assign (.const (.string { data := #[] })), 9, none, true⟩,
  ⟨some (3, true), .assign (.const (.int .i64 15)), 25, none, true⟩,
  ⟨some (4, true), .assign (.tmp 65), 3, none, true⟩]
theorem ref2_Encode_r14_go {K : Env → Heap → Prop} {τ ρ : Env} {h : Heap} : vcOps Try.prog K ref2_Encode_r14 τ ρ h = vcOps Try.prog K [
  ⟨some (65, false), .move (.tmp 6), 3, none, true⟩,
  ⟨some (2, true), .assign (.const (.string { data := #[] })), 9, none, true⟩,
  ⟨some (3, true), .assign (.const (.int .i64 15)), 25, none, true⟩,
  ⟨some (4, true), .assign (.tmp 65), 3, none, true⟩] τ ρ h := _root_.id rfl
def ref2_Encode_r15 : List Sop := [
  ⟨some (66, false), .move (.tmp 5), 37, none, true⟩,
  ⟨some (67, false), .move (.tmp 9), 9, none, true⟩,
  ⟨some (68, false), .call { callee := .builtin .append, args := #[.tmp 66, .tmp 67], argTypes := #[37, 9] }, 37, none, false⟩,
  ⟨some (5, true), .assign (.tmp 68), 37, none, true⟩]
theorem ref2_Encode_r15_go {K : Env → Heap → Prop} {τ ρ : Env} {h : Heap} : vcOps Try.prog K ref2_Encode_r15 τ ρ h = vcOps Try.prog K [
  ⟨some (66, false), .move (.tmp 5), 37, none, true⟩,
  ⟨some (67, false), .move (.tmp 9), 9, none, true⟩,
  ⟨some (68, false), .call { callee := .builtin .append, args := #[.tmp 66, .tmp 67], argTypes := #[37, 9] }, 37, none, false⟩,
  ⟨some (5, true), .assign (.tmp 68), 37, none, true⟩] τ ρ h := _root_.id rfl
def ref2_Encode_r16 : List Sop := [
  ⟨some (69, false), .move (.tmp 5), 37, none, true⟩,
  ⟨some (70, false), .call { callee := .builtin .len, args := #[.tmp 69], argTypes := #[37] }, 3, none, true⟩,
  ⟨some (71, true), .binOp .gtr 3 (.tmp 70) (.const (.int .i64 65535)) 3, 4, none, true⟩]
theorem ref2_Encode_r16_go {K : Env → Heap → Prop} {τ ρ : Env} {h : Heap} : vcOps Try.prog K ref2_Encode_r16 τ ρ h = vcOps Try.prog K [
  ⟨some (69, false), .move (.tmp 5), 37, none, true⟩,
  ⟨some (70, false), .call { callee := .builtin .len, args := #[.tmp 69], argTypes := #[37] }, 3, none, true⟩,
  ⟨some (71, true), .binOp .gtr 3 (.tmp 70) (.const (.int .i64 65535)) 3, 4, none, true⟩] τ ρ h := _root_.id rfl
def ref2_Encode_r17 : List Sop := [
  ⟨some (72, false), .move (.tmp 6), 3, none, true⟩,
  ⟨some (2, true), .assign (.const (.string { data := #[] })), 9, none, true⟩,
  ⟨some (3, true), .assign (.const (.int .i64 12)), 25, none, true⟩,
  ⟨some (4, true), .assign (.tmp 72), 3, none, true⟩]
theorem ref2_Encode_r17_go {K : Env → Heap → Prop} {τ ρ : Env} {h : Heap} : vcOps Try.prog K ref2_Encode_r17 τ ρ h = vcOps Try.prog K [
  ⟨some (72, false), .move (.tmp 6), 3, none, true⟩,
  ⟨some (2, true), .assign (.const (.string { data := #[] })), 9, none, true⟩,
  ⟨some (3, true), .assign (.const (.int .i64 12)), 25, none, true⟩,
  ⟨some (4, true), .assign (.tmp 72), 3, none, true⟩] τ ρ h := _root_.id rfl
def ref2_Encode_r18 : List Sop := [
  ⟨some (73, false), .binOp .add 3 (.tmp 23) (.const (.int .i64 1)) 3, 3, none, true⟩,
  ⟨some (23, true), .move (.tmp 73), 3, none, true⟩]
theorem ref2_Encode_r18_go {K : Env → Heap → Prop} {τ ρ : Env} {h : Heap} : vcOps Try.prog K ref2_Encode_r18 τ ρ h = vcOps Try.prog K [
  ⟨some (73, false), .binOp .add 3 (.tmp 23) (.const (.int .i64 1)) 3, 3, none, true⟩,
  ⟨some (23, true), .move (.tmp 73), 3, none, true⟩] τ ρ h := _root_.id rfl
def ref2_Encode_r19 : List Sop := [
  ⟨some (74, false), .move (.tmp 5), 37, none, true⟩,
  ⟨some (75, false), .call { callee := .builtin .len, args := #[.tmp 74], argTypes := #[37] }, 3, none, true⟩,
  ⟨some (76, false), .makeSlice 47 (.tmp 75) (.tmp 75), 47, none, false⟩,
  ⟨some (11, true), .assign (.tmp 76), 47, none, true⟩]
theorem ref2_Encode_r19_go {K : Env → Heap → Prop} {τ ρ : Env} {h : Heap} : vcOps Try.prog K ref2_Encode_r19 τ ρ h = vcOps Try.prog K [
  ⟨some (74, false), .move (.tmp 5), 37, none, true⟩,
  ⟨some (75, false), .call { callee := .builtin .len, args := #[.tmp 74], argTypes := #[37] }, 3, none, true⟩,
  ⟨some (76, false), .makeSlice 47 (.tmp 75) (.tmp 75), 47, none, false⟩,
  ⟨some (11, true), .assign (.tmp 76), 47, none, true⟩] τ ρ h := _root_.id rfl
def ref2_Encode_r20 : List Sop := [
  ⟨some (77, true), .move (.tmp 0), 22, none, true⟩,
  ⟨some (78, true), .call { callee := .builtin .len, args := #[.tmp 77], argTypes := #[22] }, 3, none, true⟩,
  ⟨some (79, true), .move (.const (.int .i64 0)), 3, none, true⟩]
theorem ref2_Encode_r20_go {K : Env → Heap → Prop} {τ ρ : Env} {h : Heap} : vcOps Try.prog K ref2_Encode_r20 τ ρ h = vcOps Try.prog K [
  ⟨some (77, true), .move (.tmp 0), 22, none, true⟩,
  ⟨some (78, true), .call { callee := .builtin .len, args := #[.tmp 77], argTypes := #[22] }, 3, none, true⟩,
  ⟨some (79, true), .move (.const (.int .i64 0)), 3, none, true⟩] τ ρ h := _root_.id rfl
def ref2_Encode_r21 : List Sop := [
  ⟨some (80, true), .binOp .lss 3 (.tmp 79) (.tmp 78) 3, 0, none, true⟩]
theorem ref2_Encode_r21_go {K : Env → Heap → Prop} {τ ρ : Env} {h : Heap} : vcOps Try.prog K ref2_Encode_r21 τ ρ h = vcOps Try.prog K [
  ⟨some (80, true), .binOp .lss 3 (.tmp 79) (.tmp 78) 3, 0, none, true⟩] τ ρ h := _root_.id rfl
def ref2_Encode_r22 : List Sop := [
  ⟨some (81, false), .indexAddr 22 (.tmp 77) (.tmp 79), 0, none, true⟩,
  ⟨some (82, false), .load 35 (.tmp 81), 35, none, true⟩,
  ⟨some (13, true), .alloc 35, 0, none, false⟩,
  ⟨none, .store 35 (.tmp 13) (.tmp 82), 0, none, false⟩]
theorem ref2_Encode_r22_go {K : Env → Heap → Prop} {τ ρ : Env} {h : Heap} : vcOps Try.prog K ref2_Encode_r22 τ ρ h = vcOps Try.prog K [
  ⟨some (81, false), .indexAddr 22 (.tmp 77) (.tmp 79), 0, none, true⟩,
  ⟨some (82, false), .load 35 (.tmp 81), 35, none, true⟩,
  ⟨some (13, true), .alloc 35, 0, none, false⟩,
  ⟨none, .store 35 (.tmp 13) (.tmp 82), 0, none, false⟩] τ ρ h := _root_.id rfl
def ref2_Encode_r23 : List Sop := [
  ⟨some (83, false), .move (.tmp 11), 47, none, true⟩,
  ⟨some (84, false), .fieldAddr 35 (.tmp 13) 0, 0, none, true⟩,
  ⟨some (85, false), .load 3 (.tmp 84), 3, none, true⟩,
  ⟨some (86, false), .indexAddr 47 (.tmp 83) (.tmp 85), 0, none, true⟩,
  ⟨none, .store 4 (.tmp 86) (.const (.bool true)), 0, none, false⟩]
theorem ref2_Encode_r23_go {K : Env → Heap → Prop} {τ ρ : Env} {h : Heap} : vcOps Try.prog K ref2_Encode_r23 τ ρ h = vcOps Try.prog K [
  ⟨some (83, false), .move (.tmp 11), 47, none, true⟩,
  ⟨some (84, false), .fieldAddr 35 (.tmp 13) 0, 0, none, true⟩,
  ⟨some (85, false), .load 3 (.tmp 84), 3, none, true⟩,
  ⟨some (86, false), .indexAddr 47 (.tmp 83) (.tmp 85), 0, none, true⟩,
  ⟨none, .store 4 (.tmp 86) (.const (.bool true)), 0, none, false⟩] τ ρ h := _root_.id rfl
def ref2_Encode_r24 : List Sop := [
  ⟨some (87, false), .binOp .add 3 (.tmp 79) (.const (.int .i64 1)) 3, 3, none, true⟩,
  ⟨some (79, true), .move (.tmp 87), 3, none, true⟩]
theorem ref2_Encode_r24_go {K : Env → Heap → Prop} {τ ρ : Env} {h : Heap} : vcOps Try.prog K ref2_Encode_r24 τ ρ h = vcOps Try.prog K [
  ⟨some (87, false), .binOp .add 3 (.tmp 79) (.const (.int .i64 1)) 3, 3, none, true⟩,
  ⟨some (79, true), .move (.tmp 87), 3, none, true⟩] τ ρ h := _root_.id rfl
def ref2_Encode_r25 : List Sop := [
  ⟨some (88, true), .move (.tmp 0), 22, none, true⟩,
  ⟨some (89, true), .call { callee := .builtin .len, args := #[.tmp 88], argTypes := #[22] }, 3, none, true⟩,
  ⟨some (90, true), .move (.const (.int .i64 0)), 3, none, true⟩]
theorem ref2_Encode_r25_go {K : Env → Heap → Prop} {τ ρ : Env} {h : Heap} : vcOps Try.prog K ref2_Encode_r25 τ ρ h = vcOps Try.prog K [
  ⟨some (88, true), .move (.tmp 0), 22, none, true⟩,
  ⟨some (89, true), .call { callee := .builtin .len, args := #[.tmp 88], argTypes := #[22] }, 3, none, true⟩,
  ⟨some (90, true), .move (.const (.int .i64 0)), 3, none, true⟩] τ ρ h := _root_.id rfl
def ref2_Encode_r26 : List Sop := [
  ⟨some (91, true), .binOp .lss 3 (.tmp 90) (.tmp 89) 3, 0, none, true⟩]
theorem ref2_Encode_r26_go {K : Env → Heap → Prop} {τ ρ : Env} {h : Heap} : vcOps Try.prog K ref2_Encode_r26 τ ρ h = vcOps Try.prog K [
  ⟨some (91, true), .binOp .lss 3 (.tmp 90) (.tmp 89) 3, 0, none, true⟩] τ ρ h := _root_.id rfl
def ref2_Encode_r27 : List Sop := [
  ⟨some (92, false), .move (.tmp 90), 3, none, true⟩,
  ⟨some (93, false), .indexAddr 22 (.tmp 88) (.tmp 90), 0, none, true⟩,
  ⟨some (94, false), .load 35 (.tmp 93), 35, none, true⟩,
  ⟨some (15, true), .alloc 35, 0, none, false⟩,
  ⟨some (14, true), .assign (.tmp 92), 3, none, true⟩,
  ⟨none, .store 35 (.tmp 15) (.tmp 94), 0, none, false⟩]
theorem ref2_Encode_r27_go {K : Env → Heap → Prop} {τ ρ : Env} {h : Heap} : vcOps Try.prog K ref2_Encode_r27 τ ρ h = vcOps Try.prog K [
  ⟨some (92, false), .move (.tmp 90), 3, none, true⟩,
  ⟨some (93, false), .indexAddr 22 (.tmp 88) (.tmp 90), 0, none, true⟩,
  ⟨some (94, false), .load 35 (.tmp 93), 35, none, true⟩,
  ⟨some (15, true), .alloc 35, 0, none, false⟩,
  ⟨some (14, true), .assign (.tmp 92), 3, none, true⟩,
  ⟨none, .store 35 (.tmp 15) (.tmp 94), 0, none, false⟩] τ ρ h := _root_.id rfl
def ref2_Encode_r28 : List Sop := [
  ⟨some (95, false), .fieldAddr 35 (.tmp 15) 7, 0, none, true⟩,
  ⟨some (96, true), .load 33 (.tmp 95), 33, none, true⟩,
  ⟨some (97, true), .call { callee := .builtin .len, args := #[.tmp 96], argTypes := #[33] }, 3, none, true⟩,
  ⟨some (98, true), .move (.const (.int .i64 0)), 3, none, true⟩]
theorem ref2_Encode_r28_go {K : Env → Heap → Prop} {τ ρ : Env} {h : Heap} : vcOps Try.prog K ref2_Encode_r28 τ ρ h = vcOps Try.prog K [
  ⟨some (95, false), .fieldAddr 35 (.tmp 15) 7, 0, none, true⟩,
  ⟨some (96, true), .load 33 (.tmp 95), 33, none, true⟩,
  ⟨some (97, true), .call { callee := .builtin .len, args := #[.tmp 96], argTypes := #[33] }, 3, none, true⟩,
  ⟨some (98, true), .move (.const (.int .i64 0)), 3, none, true⟩] τ ρ h := _root_.id rfl
def ref2_Encode_r29 : List Sop := [
  ⟨some (99, true), .binOp .lss 3 (.tmp 98) (.tmp 97) 3, 0, none, true⟩]
theorem ref2_Encode_r29_go {K : Env → Heap → Prop} {τ ρ : Env} {h : Heap} : vcOps Try.prog K ref2_Encode_r29 τ ρ h = vcOps Try.prog K [
  ⟨some (99, true), .binOp .lss 3 (.tmp 98) (.tmp 97) 3, 0, none, true⟩] τ ρ h := _root_.id rfl
def ref2_Encode_r30 : List Sop := [
  ⟨some (100, false), .indexAddr 33 (.tmp 96) (.tmp 98), 0, none, true⟩,
  ⟨some (101, false), .load 3 (.tmp 100), 3, none, true⟩,
  ⟨some (17, true), .assign (.tmp 101), 3, none, true⟩]
theorem ref2_Encode_r30_go {K : Env → Heap → Prop} {τ ρ : Env} {h : Heap} : vcOps Try.prog K ref2_Encode_r30 τ ρ h = vcOps Try.prog K [
  ⟨some (100, false), .indexAddr 33 (.tmp 96) (.tmp 98), 0, none, true⟩,
  ⟨some (101, false), .load 3 (.tmp 100), 3, none, true⟩,
  ⟨some (17, true), .assign (.tmp 101), 3, none, true⟩] τ ρ h := _root_.id rfl
def ref2_Encode_r31 : List Sop := [
  ⟨some (102, false), .move (.tmp 17), 3, none, true⟩,
  ⟨some (103, false), .binOp .lss 3 (.tmp 102) (.const (.int .i64 0)) 3, 4, none, true⟩,
  ⟨some (104, false), .move (.tmp 103), 4, none, true⟩,
  ⟨some (105, false), .move (.tmp 17), 3, some (104, false), true⟩,
  ⟨some (106, false), .move (.tmp 5), 37, some (104, false), true⟩,
  ⟨some (107, false), .call { callee := .builtin .len, args := #[.tmp 106], argTypes := #[37] }, 3, some (104, false), true⟩,
  ⟨some (108, false), .binOp .geq 3 (.tmp 105) (.tmp 107) 3, 4, some (104, false), true⟩,
  ⟨some (109, false), .pick (.tmp 104) (.const (.bool true)) (.tmp 108), 4, none, true⟩,
  ⟨some (110, false), .move (.tmp 109), 4, none, true⟩,
  ⟨some (111, false), .move (.tmp 11), 47, some (110, false), true⟩,
  ⟨some (112, false), .move (.tmp 17), 3, some (110, false), true⟩,
  ⟨some (113, false), .indexAddr 47 (.tmp 111) (.tmp 112), 0, some (110, false), true⟩,
  ⟨some (114, false), .load 4 (.tmp 113), 4, some (110, false), true⟩,
  ⟨some (115, false), .unOp .not 4 (.tmp 114), 4, some (110, false), true⟩,
  ⟨some (116, true), .pick (.tmp 110) (.const (.bool true)) (.tmp 115), 4, none, true⟩]
theorem ref2_Encode_r31_go {K : Env → Heap → Prop} {τ ρ : Env} {h : Heap} : vcOps Try.prog K ref2_Encode_r31 τ ρ h = vcOps Try.prog K [
  ⟨some (102, false), .move (.tmp 17), 3, none, true⟩,
  ⟨some (103, false), .binOp .lss 3 (.tmp 102) (.const (.int .i64 0)) 3, 4, none, true⟩,
  ⟨some (104, false), .move (.tmp 103), 4, none, true⟩,
  ⟨some (105, false), .move (.tmp 17), 3, some (104, false), true⟩,
  ⟨some (106, false), .move (.tmp 5), 37, some (104, false), true⟩,
  ⟨some (107, false), .call { callee := .builtin .len, args := #[.tmp 106], argTypes := #[37] }, 3, some (104, false), true⟩,
  ⟨some (108, false), .binOp .geq 3 (.tmp 105) (.tmp 107) 3, 4, some (104, false), true⟩,
  ⟨some (109, false), .pick (.tmp 104) (.const (.bool true)) (.tmp 108), 4, none, true⟩,
  ⟨some (110, false), .move (.tmp 109), 4, none, true⟩,
  ⟨some (111, false), .move (.tmp 11), 47, some (110, false), true⟩,
  ⟨some (112, false), .move (.tmp 17), 3, some (110, false), true⟩,
  ⟨some (113, false), .indexAddr 47 (.tmp 111) (.tmp 112), 0, some (110, false), true⟩,
  ⟨some (114, false), .load 4 (.tmp 113), 4, some (110, false), true⟩,
  ⟨some (115, false), .unOp .not 4 (.tmp 114), 4, some (110, false), true⟩,
  ⟨some (116, true), .pick (.tmp 110) (.const (.bool true)) (.tmp 115), 4, none, true⟩] τ ρ h := _root_.id rfl
def ref2_Encode_r32 : List Sop := [
  ⟨some (117, false), .move (.tmp 14), 3, none, true⟩,
  ⟨some (2, true), .assign (.const (.string { data := #[] })), 9, none, true⟩,
  ⟨some (3, true), .assign (.const (.int .i64 16)), 25, none, true⟩,
  ⟨some (4, true), .assign (.tmp 117), 3, none, true⟩]
theorem ref2_Encode_r32_go {K : Env → Heap → Prop} {τ ρ : Env} {h : Heap} : vcOps Try.prog K ref2_Encode_r32 τ ρ h = vcOps Try.prog K [
  ⟨some (117, false), .move (.tmp 14), 3, none, true⟩,
  ⟨some (2, true), .assign (.const (.string { data := #[] })), 9, none, true⟩,
  ⟨some (3, true), .assign (.const (.int .i64 16)), 25, none, true⟩,
  ⟨some (4, true), .assign (.tmp 117), 3, none, true⟩] τ ρ h := _root_.id rfl
def ref2_Encode_r33 : List Sop := [
  ⟨some (118, false), .binOp .add 3 (.tmp 98) (.const (.int .i64 1)) 3, 3, none, true⟩,
  ⟨some (98, true), .move (.tmp 118), 3, none, true⟩]
theorem ref2_Encode_r33_go {K : Env → Heap → Prop} {τ ρ : Env} {h : Heap} : vcOps Try.prog K ref2_Encode_r33 τ ρ h = vcOps Try.prog K [
  ⟨some (118, false), .binOp .add 3 (.tmp 98) (.const (.int .i64 1)) 3, 3, none, true⟩,
  ⟨some (98, true), .move (.tmp 118), 3, none, true⟩] τ ρ h := _root_.id rfl
def ref2_Encode_r34 : List Sop := [
  ⟨some (119, false), .binOp .add 3 (.tmp 90) (.const (.int .i64 1)) 3, 3, none, true⟩,
  ⟨some (90, true), .move (.tmp 119), 3, none, true⟩]
theorem ref2_Encode_r34_go {K : Env → Heap → Prop} {τ ρ : Env} {h : Heap} : vcOps Try.prog K ref2_Encode_r34 τ ρ h = vcOps Try.prog K [
  ⟨some (119, false), .binOp .add 3 (.tmp 90) (.const (.int .i64 1)) 3, 3, none, true⟩,
  ⟨some (90, true), .move (.tmp 119), 3, none, true⟩] τ ρ h := _root_.id rfl
def ref2_Encode_r35 : List Sop := [
  ⟨some (120, false), .move (.tmp 5), 37, none, true⟩,
  ⟨some (121, false), .convert 37 9 (.tmp 120), 9, none, true⟩,
  ⟨some (2, true), .assign (.tmp 121), 9, none, true⟩,
  ⟨some (3, true), .assign (.const (.int .i64 0)), 25, none, true⟩,
  ⟨some (4, true), .assign (.const (.int .i64 0)), 3, none, true⟩]
theorem ref2_Encode_r35_go {K : Env → Heap → Prop} {τ ρ : Env} {h : Heap} : vcOps Try.prog K ref2_Encode_r35 τ ρ h = vcOps Try.prog K [
  ⟨some (120, false), .move (.tmp 5), 37, none, true⟩,
  ⟨some (121, false), .convert 37 9 (.tmp 120), 9, none, true⟩,
  ⟨some (2, true), .assign (.tmp 121), 9, none, true⟩,
  ⟨some (3, true), .assign (.const (.int .i64 0)), 25, none, true⟩,
  ⟨some (4, true), .assign (.const (.int .i64 0)), 3, none, true⟩] τ ρ h := _root_.id rfl
def ref2_Encode_l0 : Cd := .seq (.region ref2_Encode_r5) (.seq (.cond (.tmp 24) (.skip) (.exit 0)) (.seq (.block 1 (.seq (.region ref2_Encode_r6) (.seq (.seq (.region ref2_Encode_r7) (.cond (.tmp 32) (.seq (.region ref2_Encode_r8) (.ret)) (.skip))) (.seq (.region ref2_Encode_r9) (.seq (.seq (.region ref2_Encode_r10) (.cond (.tmp 55) (.seq (.region ref2_Encode_r11) (.ret)) (.skip))) (.seq (.region ref2_Encode_r12) (.seq (.seq (.region ref2_Encode_r13) (.cond (.tmp 64) (.seq (.region ref2_Encode_r14) (.ret)) (.skip))) (.seq (.region ref2_Encode_r15) (.seq (.region ref2_Encode_r16) (.cond (.tmp 71) (.seq (.region ref2_Encode_r17) (.ret)) (.skip))))))))))) (.region ref2_Encode_r18)))
theorem ref2_Encode_l0_go {Q : Ex → Env → Heap → Prop} {ρ : Env} {h : Heap} : Cd.vc Try.prog ref2_Encode_l0 Q ρ h = Cd.vc Try.prog (.seq (.region ref2_Encode_r5) (.seq (.cond (.tmp 24) (.skip) (.exit 0)) (.seq (.block 1 (.seq (.region ref2_Encode_r6) (.seq (.seq (.region ref2_Encode_r7) (.cond (.tmp 32) (.seq (.region ref2_Encode_r8) (.ret)) (.skip))) (.seq (.region ref2_Encode_r9) (.seq (.seq (.region ref2_Encode_r10) (.cond (.tmp 55) (.seq (.region ref2_Encode_r11) (.ret)) (.skip))) (.seq (.region ref2_Encode_r12) (.seq (.seq (.region ref2_Encode_r13) (.cond (.tmp 64) (.seq (.region ref2_Encode_r14) (.ret)) (.skip))) (.seq (.region ref2_Encode_r15) (.seq (.region ref2_Encode_r16) (.cond (.tmp 71) (.seq (.region ref2_Encode_r17) (.ret)) (.skip))))))))))) (.region ref2_Encode_r18)))) Q ρ h := _root_.id rfl
def ref2_Encode_l1 : Cd := .seq (.region ref2_Encode_r21) (.seq (.cond (.tmp 80) (.skip) (.exit 2)) (.seq (.block 3 (.seq (.region ref2_Encode_r22) (.region ref2_Encode_r23))) (.region ref2_Encode_r24)))
theorem ref2_Encode_l1_go {Q : Ex → Env → Heap → Prop} {ρ : Env} {h : Heap} : Cd.vc Try.prog ref2_Encode_l1 Q ρ h = Cd.vc Try.prog (.seq (.region ref2_Encode_r21) (.seq (.cond (.tmp 80) (.skip) (.exit 2)) (.seq (.block 3 (.seq (.region ref2_Encode_r22) (.region ref2_Encode_r23))) (.region ref2_Encode_r24)))) Q ρ h := _root_.id rfl
def ref2_Encode_l2 : Cd := .seq (.region ref2_Encode_r29) (.seq (.cond (.tmp 99) (.skip) (.exit 6)) (.seq (.block 7 (.seq (.region ref2_Encode_r30) (.seq (.region ref2_Encode_r31) (.cond (.tmp 116) (.seq (.region ref2_Encode_r32) (.ret)) (.skip))))) (.region ref2_Encode_r33)))
theorem ref2_Encode_l2_go {Q : Ex → Env → Heap → Prop} {ρ : Env} {h : Heap} : Cd.vc Try.prog ref2_Encode_l2 Q ρ h = Cd.vc Try.prog (.seq (.region ref2_Encode_r29) (.seq (.cond (.tmp 99) (.skip) (.exit 6)) (.seq (.block 7 (.seq (.region ref2_Encode_r30) (.seq (.region ref2_Encode_r31) (.cond (.tmp 116) (.seq (.region ref2_Encode_r32) (.ret)) (.skip))))) (.region ref2_Encode_r33)))) Q ρ h := _root_.id rfl
def ref2_Encode_l3 : Cd := .seq (.region ref2_Encode_r26) (.seq (.cond (.tmp 91) (.skip) (.exit 4)) (.seq (.block 5 (.seq (.region ref2_Encode_r27) (.seq (.region ref2_Encode_r28) (.block 6 (.loop ref2_Encode_l2))))) (.region ref2_Encode_r34)))
theorem ref2_Encode_l3_go {Q : Ex → Env → Heap → Prop} {ρ : Env} {h : Heap} : Cd.vc Try.prog ref2_Encode_l3 Q ρ h = Cd.vc Try.prog (.seq (.region ref2_Encode_r26) (.seq (.cond (.tmp 91) (.skip) (.exit 4)) (.seq (.block 5 (.seq (.region ref2_Encode_r27) (.seq (.region ref2_Encode_r28) (.block 6 (.loop ref2_Encode_l2))))) (.region ref2_Encode_r34)))) Q ρ h := _root_.id rfl
def ref2_Encode : Cd := .seq (.region ref2_Encode_r0) (.seq (.seq (.region ref2_Encode_r1) (.cond (.tmp 20) (.seq (.region ref2_Encode_r2) (.ret)) (.skip))) (.seq (.region ref2_Encode_r3) (.seq (.seq (.region ref2_Encode_r4) (.block 0 (.loop ref2_Encode_l0))) (.seq (.region ref2_Encode_r19) (.seq (.seq (.region ref2_Encode_r20) (.block 2 (.loop ref2_Encode_l1))) (.seq (.seq (.region ref2_Encode_r25) (.block 4 (.loop ref2_Encode_l3))) (.seq (.region ref2_Encode_r35) (.ret))))))))
theorem ref2_Encode_go {Q : Ex → Env → Heap → Prop} {ρ : Env} {h : Heap} : Cd.vc Try.prog ref2_Encode Q ρ h = Cd.vc Try.prog (.seq (.region ref2_Encode_r0) (.seq (.seq (.region ref2_Encode_r1) (.cond (.tmp 20) (.seq (.region ref2_Encode_r2) (.ret)) (.skip))) (.seq (.region ref2_Encode_r3) (.seq (.seq (.region ref2_Encode_r4) (.block 0 (.loop ref2_Encode_l0))) (.seq (.region ref2_Encode_r19) (.seq (.seq (.region ref2_Encode_r20) (.block 2 (.loop ref2_Encode_l1))) (.seq (.seq (.region ref2_Encode_r25) (.block 4 (.loop ref2_Encode_l3))) (.seq (.region ref2_Encode_r35) (.ret))))))))) Q ρ h := _root_.id rfl
theorem ref2_Encode_calls {args : List Value} {h : Heap} {R : Value → Heap → Prop} (hl : args.length = 1) (hv : Cd.vc Try.prog ref2_Encode (retQ Try.prog [(2, none), (3, none), (4, none)] R) (initEnv args [0, 2, 3, 4, 5, 6, 7, 8, 9, 10, 11, 13, 14, 15, 17, 20, 21, 22, 23, 24, 32, 55, 64, 71, 77, 78, 79, 80, 88, 89, 90, 91, 96, 97, 98, 99, 116]) h) : HCalls Try.prog 9 args.toArray h R :=
  hcalls_of_vc (by kernel_rfl) Try.func9 (cd := ref2_Encode) (L := [0, 2, 3, 4, 5, 6, 7, 8, 9, 10, 11, 13, 14, 15, 17, 20, 21, 22, 23, 24, 32, 55, 64, 71, 77, 78, 79, 80, 88, 89, 90, 91, 96, 97, 98, 99, 116]) (by kernel_rfl) (by kernel_rfl) ⟨by rw [hl, Try.ntmps9]; decide, by rw [Try.ntmps9]; decide⟩ hv
def ref2_Encode_gos := And.intro @ref2_Encode_go (And.intro @ref2_Encode_r0_go (And.intro @ref2_Encode_r1_go (And.intro @ref2_Encode_r2_go (And.intro @ref2_Encode_r3_go (And.intro @ref2_Encode_r4_go (And.intro @ref2_Encode_r5_go (And.intro @ref2_Encode_r6_go (And.intro @ref2_Encode_r7_go (And.intro @ref2_Encode_r8_go (And.intro @ref2_Encode_r9_go (And.intro @ref2_Encode_r10_go (And.intro @ref2_Encode_r11_go (And.intro @ref2_Encode_r12_go (And.intro @ref2_Encode_r13_go (And.intro @ref2_Encode_r14_go (And.intro @ref2_Encode_r15_go (And.intro @ref2_Encode_r16_go (And.intro @ref2_Encode_r17_go (And.intro @ref2_Encode_r18_go (And.intro @ref2_Encode_r19_go (And.intro @ref2_Encode_r20_go (And.intro @ref2_Encode_r21_go (And.intro @ref2_Encode_r22_go (And.intro @ref2_Encode_r23_go (And.intro @ref2_Encode_r24_go (And.intro @ref2_Encode_r25_go (And.intro @ref2_Encode_r26_go (And.intro @ref2_Encode_r27_go (And.intro @ref2_Encode_r28_go (And.intro @ref2_Encode_r29_go (And.intro @ref2_Encode_r30_go (And.intro @ref2_Encode_r31_go (And.intro @ref2_Encode_r32_go (And.intro @ref2_Encode_r33_go (And.intro @ref2_Encode_r34_go (And.intro @ref2_Encode_r35_go (And.intro @ref2_Encode_l0_go (And.intro @ref2_Encode_l1_go (And.intro @ref2_Encode_l2_go (@ref2_Encode_l3_go))))))))))))))))))))))))))))))))))))))))

end Go.Proofs.Ytjpcpkhegjndeaa.C
