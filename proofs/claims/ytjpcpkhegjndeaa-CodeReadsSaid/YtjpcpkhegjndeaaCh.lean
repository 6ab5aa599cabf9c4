/- The stripped code of some functions of this seat's program, printed by a program; that it is that code is proved by the kernel. No condition. -/

import Derived.Test.YtjpcpkhegjndeaaProg

import Derived.Test.YtjpcpkhegjndeaaVcH

set_option maxRecDepth 100000

set_option linter.defProp false

namespace Go.Proofs.Ytjpcpkhegjndeaa.C

open Go.Vc

/-! jvmcore/jvmcoreref1.Num: function 47: slots [0, 2, 3, 4, 8] -/
def ref1_Num_r0 : List Sop := [
  ⟨some (2, true), .assign (.const (.int .u64 0)), 74, none, true⟩]
theorem ref1_Num_r0_go {K : Env → Heap → Prop} {τ ρ : Env} {h : Heap} : vcOps Try.prog K ref1_Num_r0 τ ρ h = vcOps Try.prog K [
  ⟨some (2, true), .assign (.const (.int .u64 0)), 74, none, true⟩] τ ρ h := _root_.id rfl
def ref1_Num_r1 : List Sop := [
  ⟨some (3, true), .assign (.const (.int .u64 0)), 74, none, true⟩]
theorem ref1_Num_r1_go {K : Env → Heap → Prop} {τ ρ : Env} {h : Heap} : vcOps Try.prog K ref1_Num_r1 τ ρ h = vcOps Try.prog K [
  ⟨some (3, true), .assign (.const (.int .u64 0)), 74, none, true⟩] τ ρ h := _root_.id rfl
def ref1_Num_r2 : List Sop := [
  ⟨some (4, true), .assign (.const (.int .i64 0)), 3, none, true⟩]
theorem ref1_Num_r2_go {K : Env → Heap → Prop} {τ ρ : Env} {h : Heap} : vcOps Try.prog K ref1_Num_r2 τ ρ h = vcOps Try.prog K [
  ⟨some (4, true), .assign (.const (.int .i64 0)), 3, none, true⟩] τ ρ h := _root_.id rfl
def ref1_Num_r3 : List Sop := [
  ⟨some (5, false), .move (.tmp 4), 3, none, true⟩,
  ⟨some (6, false), .move (.tmp 0), 9, none, true⟩,
  ⟨some (7, false), .call { callee := .builtin .len, args := #[.tmp 6], argTypes := #[9] }, 3, none, true⟩,
  ⟨some (8, true), .binOp .lss 3 (.tmp 5) (.tmp 7) 3, 4, none, true⟩]
theorem ref1_Num_r3_go {K : Env → Heap → Prop} {τ ρ : Env} {h : Heap} : vcOps Try.prog K ref1_Num_r3 τ ρ h = vcOps Try.prog K [
  ⟨some (5, false), .move (.tmp 4), 3, none, true⟩,
  ⟨some (6, false), .move (.tmp 0), 9, none, true⟩,
  ⟨some (7, false), .call { callee := .builtin .len, args := #[.tmp 6], argTypes := #[9] }, 3, none, true⟩,
  ⟨some (8, true), .binOp .lss 3 (.tmp 5) (.tmp 7) 3, 4, none, true⟩] τ ρ h := _root_.id rfl
def ref1_Num_r4 : List Sop := [
  ⟨some (11, false), .move (.tmp 3), 74, none, true⟩,
  ⟨some (12, false), .binOp .mul 74 (.tmp 11) (.const (.int .u64 256)) 74, 74, none, true⟩,
  ⟨some (13, false), .move (.tmp 0), 9, none, true⟩,
  ⟨some (14, false), .move (.tmp 4), 3, none, true⟩,
  ⟨some (15, false), .index 9 (.tmp 13) (.tmp 14), 5, none, true⟩,
  ⟨some (16, false), .convert 5 74 (.tmp 15), 74, none, true⟩,
  ⟨some (17, false), .binOp .add 74 (.tmp 12) (.tmp 16) 74, 74, none, true⟩,
  ⟨some (3, true), .assign (.tmp 17), 74, none, true⟩]
theorem ref1_Num_r4_go {K : Env → Heap → Prop} {τ ρ : Env} {h : Heap} : vcOps Try.prog K ref1_Num_r4 τ ρ h = vcOps Try.prog K [
  ⟨some (11, false), .move (.tmp 3), 74, none, true⟩,
  ⟨some (12, false), .binOp .mul 74 (.tmp 11) (.const (.int .u64 256)) 74, 74, none, true⟩,
  ⟨some (13, false), .move (.tmp 0), 9, none, true⟩,
  ⟨some (14, false), .move (.tmp 4), 3, none, true⟩,
  ⟨some (15, false), .index 9 (.tmp 13) (.tmp 14), 5, none, true⟩,
  ⟨some (16, false), .convert 5 74 (.tmp 15), 74, none, true⟩,
  ⟨some (17, false), .binOp .add 74 (.tmp 12) (.tmp 16) 74, 74, none, true⟩,
  ⟨some (3, true), .assign (.tmp 17), 74, none, true⟩] τ ρ h := _root_.id rfl
def ref1_Num_r5 : List Sop := [
  ⟨some (9, false), .move (.tmp 4), 3, none, true⟩,
  ⟨some (10, false), .binOp .add 3 (.tmp 9) (.const (.int .i64 1)) 3, 3, none, true⟩,
  ⟨some (4, true), .assign (.tmp 10), 3, none, true⟩]
theorem ref1_Num_r5_go {K : Env → Heap → Prop} {τ ρ : Env} {h : Heap} : vcOps Try.prog K ref1_Num_r5 τ ρ h = vcOps Try.prog K [
  ⟨some (9, false), .move (.tmp 4), 3, none, true⟩,
  ⟨some (10, false), .binOp .add 3 (.tmp 9) (.const (.int .i64 1)) 3, 3, none, true⟩,
  ⟨some (4, true), .assign (.tmp 10), 3, none, true⟩] τ ρ h := _root_.id rfl
def ref1_Num_r6 : List Sop := [
  ⟨some (18, false), .move (.tmp 3), 74, none, true⟩,
  ⟨some (2, true), .assign (.tmp 18), 74, none, true⟩]
theorem ref1_Num_r6_go {K : Env → Heap → Prop} {τ ρ : Env} {h : Heap} : vcOps Try.prog K ref1_Num_r6 τ ρ h = vcOps Try.prog K [
  ⟨some (18, false), .move (.tmp 3), 74, none, true⟩,
  ⟨some (2, true), .assign (.tmp 18), 74, none, true⟩] τ ρ h := _root_.id rfl
def ref1_Num_l0 : Cd := .seq (.seq (.region ref1_Num_r3) (.cond (.tmp 8) (.skip) (.exit 0))) (.seq (.block 1 (.region ref1_Num_r4)) (.region ref1_Num_r5))
theorem ref1_Num_l0_go {Q : Ex → Env → Heap → Prop} {ρ : Env} {h : Heap} : Cd.vc Try.prog ref1_Num_l0 Q ρ h = Cd.vc Try.prog (.seq (.seq (.region ref1_Num_r3) (.cond (.tmp 8) (.skip) (.exit 0))) (.seq (.block 1 (.region ref1_Num_r4)) (.region ref1_Num_r5))) Q ρ h := _root_.id rfl
def ref1_Num : Cd := .seq (.region ref1_Num_r0) (.seq (.region ref1_Num_r1) (.seq (.seq (.region ref1_Num_r2) (.block 0 (.loop ref1_Num_l0))) (.seq (.region ref1_Num_r6) (.ret))))
theorem ref1_Num_go {Q : Ex → Env → Heap → Prop} {ρ : Env} {h : Heap} : Cd.vc Try.prog ref1_Num Q ρ h = Cd.vc Try.prog (.seq (.region ref1_Num_r0) (.seq (.region ref1_Num_r1) (.seq (.seq (.region ref1_Num_r2) (.block 0 (.loop ref1_Num_l0))) (.seq (.region ref1_Num_r6) (.ret))))) Q ρ h := _root_.id rfl
theorem ref1_Num_calls {args : List Value} {h : Heap} {R : Value → Heap → Prop} (hl : args.length = 1) (hv : Cd.vc Try.prog ref1_Num (retQ Try.prog [(2, none)] R) (initEnv args [0, 2, 3, 4, 8]) h) : HCalls Try.prog 47 args.toArray h R :=
  hcalls_of_vc (by kernel_rfl) Try.func47 (cd := ref1_Num) (L := [0, 2, 3, 4, 8]) (by kernel_rfl) (by kernel_rfl) ⟨by rw [hl, Try.ntmps47]; decide, by rw [Try.ntmps47]; decide⟩ hv
def ref1_Num_gos := And.intro @ref1_Num_go (And.intro @ref1_Num_r0_go (And.intro @ref1_Num_r1_go (And.intro @ref1_Num_r2_go (And.intro @ref1_Num_r3_go (And.intro @ref1_Num_r4_go (And.intro @ref1_Num_r5_go (And.intro @ref1_Num_r6_go (@ref1_Num_l0_go))))))))

/-! jvmcore/jvmcoreref2.signed: function 49: slots [0, 2, 3, 4, 15] -/
def ref2_signed_r0 : List Sop := [
  ⟨some (2, true), .assign (.const (.int .i64 0)), 3, none, true⟩]
theorem ref2_signed_r0_go {K : Env → Heap → Prop} {τ ρ : Env} {h : Heap} : vcOps Try.prog K ref2_signed_r0 τ ρ h = vcOps Try.prog K [
  ⟨some (2, true), .assign (.const (.int .i64 0)), 3, none, true⟩] τ ρ h := _root_.id rfl
def ref2_signed_r1 : List Sop := [
  ⟨some (5, false), .move (.tmp 0), 9, none, true⟩,
  ⟨some (6, false), .call { callee := .value (.func 47), args := #[.tmp 5], argTypes := #[9] }, 74, none, false⟩,
  ⟨some (7, false), .convert 74 3 (.tmp 6), 3, none, true⟩,
  ⟨some (3, true), .assign (.tmp 7), 3, none, true⟩]
theorem ref2_signed_r1_go {K : Env → Heap → Prop} {τ ρ : Env} {h : Heap} : vcOps Try.prog K ref2_signed_r1 τ ρ h = vcOps Try.prog K [
  ⟨some (5, false), .move (.tmp 0), 9, none, true⟩,
  ⟨some (6, false), .call { callee := .value (.func 47), args := #[.tmp 5], argTypes := #[9] }, 74, none, false⟩,
  ⟨some (7, false), .convert 74 3 (.tmp 6), 3, none, true⟩,
  ⟨some (3, true), .assign (.tmp 7), 3, none, true⟩] τ ρ h := _root_.id rfl
def ref2_signed_r2 : List Sop := [
  ⟨some (8, false), .move (.tmp 0), 9, none, true⟩,
  ⟨some (9, false), .call { callee := .builtin .len, args := #[.tmp 8], argTypes := #[9] }, 3, none, true⟩,
  ⟨some (10, false), .binOp .mul 3 (.const (.int .i64 8)) (.tmp 9) 3, 3, none, true⟩,
  ⟨some (11, false), .binOp .sub 3 (.tmp 10) (.const (.int .i64 1)) 3, 3, none, true⟩,
  ⟨some (12, false), .binOp .shl 3 (.const (.int .i64 1)) (.tmp 11) 3, 3, none, true⟩,
  ⟨some (4, true), .assign (.tmp 12), 3, none, true⟩]
theorem ref2_signed_r2_go {K : Env → Heap → Prop} {τ ρ : Env} {h : Heap} : vcOps Try.prog K ref2_signed_r2 τ ρ h = vcOps Try.prog K [
  ⟨some (8, false), .move (.tmp 0), 9, none, true⟩,
  ⟨some (9, false), .call { callee := .builtin .len, args := #[.tmp 8], argTypes := #[9] }, 3, none, true⟩,
  ⟨some (10, false), .binOp .mul 3 (.const (.int .i64 8)) (.tmp 9) 3, 3, none, true⟩,
  ⟨some (11, false), .binOp .sub 3 (.tmp 10) (.const (.int .i64 1)) 3, 3, none, true⟩,
  ⟨some (12, false), .binOp .shl 3 (.const (.int .i64 1)) (.tmp 11) 3, 3, none, true⟩,
  ⟨some (4, true), .assign (.tmp 12), 3, none, true⟩] τ ρ h := _root_.id rfl
def ref2_signed_r3 : List Sop := [
  ⟨some (13, false), .move (.tmp 3), 3, none, true⟩,
  ⟨some (14, false), .move (.tmp 4), 3, none, true⟩,
  ⟨some (15, true), .binOp .geq 3 (.tmp 13) (.tmp 14) 3, 4, none, true⟩]
theorem ref2_signed_r3_go {K : Env → Heap → Prop} {τ ρ : Env} {h : Heap} : vcOps Try.prog K ref2_signed_r3 τ ρ h = vcOps Try.prog K [
  ⟨some (13, false), .move (.tmp 3), 3, none, true⟩,
  ⟨some (14, false), .move (.tmp 4), 3, none, true⟩,
  ⟨some (15, true), .binOp .geq 3 (.tmp 13) (.tmp 14) 3, 4, none, true⟩] τ ρ h := _root_.id rfl
def ref2_signed_r4 : List Sop := [
  ⟨some (16, false), .move (.tmp 3), 3, none, true⟩,
  ⟨some (17, false), .move (.tmp 4), 3, none, true⟩,
  ⟨some (18, false), .binOp .mul 3 (.const (.int .i64 2)) (.tmp 17) 3, 3, none, true⟩,
  ⟨some (19, false), .binOp .sub 3 (.tmp 16) (.tmp 18) 3, 3, none, true⟩,
  ⟨some (3, true), .assign (.tmp 19), 3, none, true⟩]
theorem ref2_signed_r4_go {K : Env → Heap → Prop} {τ ρ : Env} {h : Heap} : vcOps Try.prog K ref2_signed_r4 τ ρ h = vcOps Try.prog K [
  ⟨some (16, false), .move (.tmp 3), 3, none, true⟩,
  ⟨some (17, false), .move (.tmp 4), 3, none, true⟩,
  ⟨some (18, false), .binOp .mul 3 (.const (.int .i64 2)) (.tmp 17) 3, 3, none, true⟩,
  ⟨some (19, false), .binOp .sub 3 (.tmp 16) (.tmp 18) 3, 3, none, true⟩,
  ⟨some (3, true), .assign (.tmp 19), 3, none, true⟩] τ ρ h := _root_.id rfl
def ref2_signed_r5 : List Sop := [
  ⟨some (20, false), .move (.tmp 3), 3, none, true⟩,
  ⟨some (2, true), .assign (.tmp 20), 3, none, true⟩]
theorem ref2_signed_r5_go {K : Env → Heap → Prop} {τ ρ : Env} {h : Heap} : vcOps Try.prog K ref2_signed_r5 τ ρ h = vcOps Try.prog K [
  ⟨some (20, false), .move (.tmp 3), 3, none, true⟩,
  ⟨some (2, true), .assign (.tmp 20), 3, none, true⟩] τ ρ h := _root_.id rfl
def ref2_signed : Cd := .seq (.region ref2_signed_r0) (.seq (.region ref2_signed_r1) (.seq (.region ref2_signed_r2) (.seq (.seq (.region ref2_signed_r3) (.cond (.tmp 15) (.region ref2_signed_r4) (.skip))) (.seq (.region ref2_signed_r5) (.ret)))))
theorem ref2_signed_go {Q : Ex → Env → Heap → Prop} {ρ : Env} {h : Heap} : Cd.vc Try.prog ref2_signed Q ρ h = Cd.vc Try.prog (.seq (.region ref2_signed_r0) (.seq (.region ref2_signed_r1) (.seq (.region ref2_signed_r2) (.seq (.seq (.region ref2_signed_r3) (.cond (.tmp 15) (.region ref2_signed_r4) (.skip))) (.seq (.region ref2_signed_r5) (.ret)))))) Q ρ h := _root_.id rfl
theorem ref2_signed_calls {args : List Value} {h : Heap} {R : Value → Heap → Prop} (hl : args.length = 1) (hv : Cd.vc Try.prog ref2_signed (retQ Try.prog [(2, none)] R) (initEnv args [0, 2, 3, 4, 15]) h) : HCalls Try.prog 49 args.toArray h R :=
  hcalls_of_vc (by kernel_rfl) Try.func49 (cd := ref2_signed) (L := [0, 2, 3, 4, 15]) (by kernel_rfl) (by kernel_rfl) ⟨by rw [hl, Try.ntmps49]; decide, by rw [Try.ntmps49]; decide⟩ hv
def ref2_signed_gos := And.intro @ref2_signed_go (And.intro @ref2_signed_r0_go (And.intro @ref2_signed_r1_go (And.intro @ref2_signed_r2_go (And.intro @ref2_signed_r3_go (And.intro @ref2_signed_r4_go (@ref2_signed_r5_go))))))

/-! (*jvmcore/jvmcoreref2.cut).fail: function 27: slots [0, 1, 2, 10] -/
def cut_fail_r0 : List Sop := [
  ⟨some (6, false), .move (.tmp 0), 59, none, true⟩,
  ⟨some (7, false), .nilCheck (.tmp 6), 0, none, true⟩,
  ⟨some (8, false), .fieldAddr 61 (.tmp 7) 2, 0, none, true⟩,
  ⟨some (9, false), .load 25 (.tmp 8), 25, none, true⟩,
  ⟨some (10, true), .binOp .eql 25 (.tmp 9) (.const (.int .i64 0)) 25, 4, none, true⟩]
theorem cut_fail_r0_go {K : Env → Heap → Prop} {τ ρ : Env} {h : Heap} : vcOps Try.prog K cut_fail_r0 τ ρ h = vcOps Try.prog K [
  ⟨some (6, false), .move (.tmp 0), 59, none, true⟩,
  ⟨some (7, false), .nilCheck (.tmp 6), 0, none, true⟩,
  ⟨some (8, false), .fieldAddr 61 (.tmp 7) 2, 0, none, true⟩,
  ⟨some (9, false), .load 25 (.tmp 8), 25, none, true⟩,
  ⟨some (10, true), .binOp .eql 25 (.tmp 9) (.const (.int .i64 0)) 25, 4, none, true⟩] τ ρ h := _root_.id rfl
def cut_fail_r1 : List Sop := [
  ⟨some (11, false), .move (.tmp 0), 59, none, true⟩,
  ⟨some (12, false), .move (.tmp 1), 25, none, true⟩,
  ⟨some (13, false), .nilCheck (.tmp 11), 0, none, true⟩,
  ⟨some (14, false), .fieldAddr 61 (.tmp 13) 2, 0, none, true⟩,
  ⟨none, .store 25 (.tmp 14) (.tmp 12), 0, none, false⟩]
theorem cut_fail_r1_go {K : Env → Heap → Prop} {τ ρ : Env} {h : Heap} : vcOps Try.prog K cut_fail_r1 τ ρ h = vcOps Try.prog K [
  ⟨some (11, false), .move (.tmp 0), 59, none, true⟩,
  ⟨some (12, false), .move (.tmp 1), 25, none, true⟩,
  ⟨some (13, false), .nilCheck (.tmp 11), 0, none, true⟩,
  ⟨some (14, false), .fieldAddr 61 (.tmp 13) 2, 0, none, true⟩,
  ⟨none, .store 25 (.tmp 14) (.tmp 12), 0, none, false⟩] τ ρ h := _root_.id rfl
def cut_fail_r2 : List Sop := [
  ⟨some (15, false), .move (.tmp 0), 59, none, true⟩,
  ⟨some (16, false), .move (.tmp 2), 3, none, true⟩,
  ⟨some (17, false), .nilCheck (.tmp 15), 0, none, true⟩,
  ⟨some (18, false), .fieldAddr 61 (.tmp 17) 3, 0, none, true⟩,
  ⟨none, .store 3 (.tmp 18) (.tmp 16), 0, none, false⟩]
theorem cut_fail_r2_go {K : Env → Heap → Prop} {τ ρ : Env} {h : Heap} : vcOps Try.prog K cut_fail_r2 τ ρ h = vcOps Try.prog K [
  ⟨some (15, false), .move (.tmp 0), 59, none, true⟩,
  ⟨some (16, false), .move (.tmp 2), 3, none, true⟩,
  ⟨some (17, false), .nilCheck (.tmp 15), 0, none, true⟩,
  ⟨some (18, false), .fieldAddr 61 (.tmp 17) 3, 0, none, true⟩,
  ⟨none, .store 3 (.tmp 18) (.tmp 16), 0, none, false⟩] τ ρ h := _root_.id rfl
def cut_fail : Cd := .seq (.region cut_fail_r0) (.cond (.tmp 10) (.seq (.region cut_fail_r1) (.region cut_fail_r2)) (.skip))
theorem cut_fail_go {Q : Ex → Env → Heap → Prop} {ρ : Env} {h : Heap} : Cd.vc Try.prog cut_fail Q ρ h = Cd.vc Try.prog (.seq (.region cut_fail_r0) (.cond (.tmp 10) (.seq (.region cut_fail_r1) (.region cut_fail_r2)) (.skip))) Q ρ h := _root_.id rfl
theorem cut_fail_calls {args : List Value} {h : Heap} {R : Value → Heap → Prop} (hl : args.length = 3) (hv : Cd.vc Try.prog cut_fail (retQ Try.prog [] R) (initEnv args [0, 1, 2, 10]) h) : HCalls Try.prog 27 args.toArray h R :=
  hcalls_of_vc (by kernel_rfl) Try.func27 (cd := cut_fail) (L := [0, 1, 2, 10]) (by kernel_rfl) (by kernel_rfl) ⟨by rw [hl, Try.ntmps27]; decide, by rw [Try.ntmps27]; decide⟩ hv
def cut_fail_gos := And.intro @cut_fail_go (And.intro @cut_fail_r0_go (And.intro @cut_fail_r1_go (@cut_fail_r2_go)))

/-! (*jvmcore/jvmcoreref2.cut).take: function 48: slots [0, 1, 4, 5, 24, 36] -/
def cut_take_r0 : List Sop := [
  ⟨some (4, true), .assign (.const (.string { data := #[] })), 9, none, true⟩]
theorem cut_take_r0_go {K : Env → Heap → Prop} {τ ρ : Env} {h : Heap} : vcOps Try.prog K cut_take_r0 τ ρ h = vcOps Try.prog K [
  ⟨some (4, true), .assign (.const (.string { data := #[] })), 9, none, true⟩] τ ρ h := _root_.id rfl
def cut_take_r1 : List (Sop × List Sop) := [
  (⟨some (6, false), .move (.tmp 0), 59, none, true⟩, []),
  (⟨some (7, false), .nilCheck (.tmp 6), 0, none, true⟩, []),
  (⟨some (8, false), .fieldAddr 61 (.tmp 7) 2, 0, none, true⟩, []),
  (⟨some (9, false), .load 25 (.tmp 8), 25, none, true⟩, []),
  (⟨some (10, false), .binOp .eql 25 (.tmp 9) (.const (.int .i64 0)) 25, 4, none, true⟩, []),
  (⟨some (11, false), .move (.tmp 10), 4, none, true⟩, []),
  (⟨some (12, false), .move (.tmp 0), 59, some (11, true), true⟩, []),
  (⟨some (13, false), .nilCheck (.tmp 12), 0, some (11, true), true⟩, []),
  (⟨some (14, false), .fieldAddr 61 (.tmp 13) 1, 0, some (11, true), true⟩, []),
  (⟨some (15, false), .load 3 (.tmp 14), 3, some (11, true), true⟩, []),
  (⟨some (16, false), .move (.tmp 1), 3, some (11, true), true⟩, []),
  (⟨some (17, false), .binOp .add 3 (.tmp 15) (.tmp 16) 3, 3, some (11, true), true⟩, []),
  (⟨some (18, false), .move (.tmp 0), 59, some (11, true), true⟩, []),
  (⟨some (19, false), .nilCheck (.tmp 18), 0, some (11, true), true⟩, []),
  (⟨some (20, false), .fieldAddr 61 (.tmp 19) 0, 0, some (11, true), true⟩, []),
  (⟨some (21, false), .load 9 (.tmp 20), 9, some (11, true), true⟩, []),
  (⟨some (22, false), .call { callee := .builtin .len, args := #[.tmp 21], argTypes := #[9] }, 3, some (11, true), true⟩, []),
  (⟨some (23, false), .binOp .gtr 3 (.tmp 17) (.tmp 22) 3, 4, some (11, true), true⟩, []),
  (⟨some (24, true), .pick (.tmp 11) (.tmp 23) (.const (.bool false)), 4, none, true⟩, [])]
theorem cut_take_r1_go {K : Env → Heap → Prop} {τ ρ : Env} {h : Heap} : vcDraw Try.prog K cut_take_r1 τ ρ h = vcDraw Try.prog K [
  (⟨some (6, false), .move (.tmp 0), 59, none, true⟩, []),
  (⟨some (7, false), .nilCheck (.tmp 6), 0, none, true⟩, []),
  (⟨some (8, false), .fieldAddr 61 (.tmp 7) 2, 0, none, true⟩, []),
  (⟨some (9, false), .load 25 (.tmp 8), 25, none, true⟩, []),
  (⟨some (10, false), .binOp .eql 25 (.tmp 9) (.const (.int .i64 0)) 25, 4, none, true⟩, []),
  (⟨some (11, false), .move (.tmp 10), 4, none, true⟩, []),
  (⟨some (12, false), .move (.tmp 0), 59, some (11, true), true⟩, []),
  (⟨some (13, false), .nilCheck (.tmp 12), 0, some (11, true), true⟩, []),
  (⟨some (14, false), .fieldAddr 61 (.tmp 13) 1, 0, some (11, true), true⟩, []),
  (⟨some (15, false), .load 3 (.tmp 14), 3, some (11, true), true⟩, []),
  (⟨some (16, false), .move (.tmp 1), 3, some (11, true), true⟩, []),
  (⟨some (17, false), .binOp .add 3 (.tmp 15) (.tmp 16) 3, 3, some (11, true), true⟩, []),
  (⟨some (18, false), .move (.tmp 0), 59, some (11, true), true⟩, []),
  (⟨some (19, false), .nilCheck (.tmp 18), 0, some (11, true), true⟩, []),
  (⟨some (20, false), .fieldAddr 61 (.tmp 19) 0, 0, some (11, true), true⟩, []),
  (⟨some (21, false), .load 9 (.tmp 20), 9, some (11, true), true⟩, []),
  (⟨some (22, false), .call { callee := .builtin .len, args := #[.tmp 21], argTypes := #[9] }, 3, some (11, true), true⟩, []),
  (⟨some (23, false), .binOp .gtr 3 (.tmp 17) (.tmp 22) 3, 4, some (11, true), true⟩, []),
  (⟨some (24, true), .pick (.tmp 11) (.tmp 23) (.const (.bool false)), 4, none, true⟩, [])] τ ρ h := _root_.id rfl
def cut_take_r2 : List Sop := [
  ⟨some (25, false), .move (.tmp 0), 59, none, true⟩,
  ⟨some (26, false), .move (.tmp 0), 59, none, true⟩,
  ⟨some (27, false), .nilCheck (.tmp 26), 0, none, true⟩,
  ⟨some (28, false), .fieldAddr 61 (.tmp 27) 0, 0, none, true⟩,
  ⟨some (29, false), .load 9 (.tmp 28), 9, none, true⟩,
  ⟨some (30, false), .call { callee := .builtin .len, args := #[.tmp 29], argTypes := #[9] }, 3, none, true⟩,
  ⟨some (31, false), .call { callee := .value (.func 27), args := #[.tmp 25, .const (.int .i64 1), .tmp 30], argTypes := #[59, 25, 3] }, 0, none, false⟩]
theorem cut_take_r2_go {K : Env → Heap → Prop} {τ ρ : Env} {h : Heap} : vcOps Try.prog K cut_take_r2 τ ρ h = vcOps Try.prog K [
  ⟨some (25, false), .move (.tmp 0), 59, none, true⟩,
  ⟨some (26, false), .move (.tmp 0), 59, none, true⟩,
  ⟨some (27, false), .nilCheck (.tmp 26), 0, none, true⟩,
  ⟨some (28, false), .fieldAddr 61 (.tmp 27) 0, 0, none, true⟩,
  ⟨some (29, false), .load 9 (.tmp 28), 9, none, true⟩,
  ⟨some (30, false), .call { callee := .builtin .len, args := #[.tmp 29], argTypes := #[9] }, 3, none, true⟩,
  ⟨some (31, false), .call { callee := .value (.func 27), args := #[.tmp 25, .const (.int .i64 1), .tmp 30], argTypes := #[59, 25, 3] }, 0, none, false⟩] τ ρ h := _root_.id rfl
def cut_take_r3 : List Sop := [
  ⟨some (32, false), .move (.tmp 0), 59, none, true⟩,
  ⟨some (33, false), .nilCheck (.tmp 32), 0, none, true⟩,
  ⟨some (34, false), .fieldAddr 61 (.tmp 33) 2, 0, none, true⟩,
  ⟨some (35, false), .load 25 (.tmp 34), 25, none, true⟩,
  ⟨some (36, true), .binOp .neq 25 (.tmp 35) (.const (.int .i64 0)) 25, 4, none, true⟩]
theorem cut_take_r3_go {K : Env → Heap → Prop} {τ ρ : Env} {h : Heap} : vcOps Try.prog K cut_take_r3 τ ρ h = vcOps Try.prog K [
  ⟨some (32, false), .move (.tmp 0), 59, none, true⟩,
  ⟨some (33, false), .nilCheck (.tmp 32), 0, none, true⟩,
  ⟨some (34, false), .fieldAddr 61 (.tmp 33) 2, 0, none, true⟩,
  ⟨some (35, false), .load 25 (.tmp 34), 25, none, true⟩,
  ⟨some (36, true), .binOp .neq 25 (.tmp 35) (.const (.int .i64 0)) 25, 4, none, true⟩] τ ρ h := _root_.id rfl
def cut_take_r4 : List Sop := [
  ⟨some (37, false), .move (.tmp 1), 3, none, true⟩,
  ⟨some (38, false), .makeSlice 37 (.tmp 37) (.tmp 37), 37, none, false⟩,
  ⟨some (39, false), .convert 37 9 (.tmp 38), 9, none, true⟩,
  ⟨some (4, true), .assign (.tmp 39), 9, none, true⟩]
theorem cut_take_r4_go {K : Env → Heap → Prop} {τ ρ : Env} {h : Heap} : vcOps Try.prog K cut_take_r4 τ ρ h = vcOps Try.prog K [
  ⟨some (37, false), .move (.tmp 1), 3, none, true⟩,
  ⟨some (38, false), .makeSlice 37 (.tmp 37) (.tmp 37), 37, none, false⟩,
  ⟨some (39, false), .convert 37 9 (.tmp 38), 9, none, true⟩,
  ⟨some (4, true), .assign (.tmp 39), 9, none, true⟩] τ ρ h := _root_.id rfl
def cut_take_r5 : List (Sop × List Sop) := [
  (⟨some (40, false), .move (.tmp 0), 59, none, true⟩, []),
  (⟨some (41, false), .nilCheck (.tmp 40), 0, none, true⟩, []),
  (⟨some (42, false), .fieldAddr 61 (.tmp 41) 0, 0, none, true⟩, []),
  (⟨some (43, false), .load 9 (.tmp 42), 9, none, true⟩, []),
  (⟨some (44, false), .move (.tmp 0), 59, none, true⟩, []),
  (⟨some (45, false), .nilCheck (.tmp 44), 0, none, true⟩, []),
  (⟨some (46, false), .fieldAddr 61 (.tmp 45) 1, 0, none, true⟩, []),
  (⟨some (47, false), .load 3 (.tmp 46), 3, none, true⟩, []),
  (⟨some (48, false), .move (.tmp 0), 59, none, true⟩, []),
  (⟨some (49, false), .nilCheck (.tmp 48), 0, none, true⟩, []),
  (⟨some (50, false), .fieldAddr 61 (.tmp 49) 1, 0, none, true⟩, []),
  (⟨some (51, false), .load 3 (.tmp 50), 3, none, true⟩, []),
  (⟨some (52, false), .move (.tmp 1), 3, none, true⟩, []),
  (⟨some (53, false), .binOp .add 3 (.tmp 51) (.tmp 52) 3, 3, none, true⟩, []),
  (⟨some (54, false), .slice 9 (.tmp 43) (some (.tmp 47)) (some (.tmp 53)) none, 9, none, true⟩, []),
  (⟨some (5, true), .assign (.tmp 54), 9, none, true⟩, [])]
theorem cut_take_r5_go {K : Env → Heap → Prop} {τ ρ : Env} {h : Heap} : vcDraw Try.prog K cut_take_r5 τ ρ h = vcDraw Try.prog K [
  (⟨some (40, false), .move (.tmp 0), 59, none, true⟩, []),
  (⟨some (41, false), .nilCheck (.tmp 40), 0, none, true⟩, []),
  (⟨some (42, false), .fieldAddr 61 (.tmp 41) 0, 0, none, true⟩, []),
  (⟨some (43, false), .load 9 (.tmp 42), 9, none, true⟩, []),
  (⟨some (44, false), .move (.tmp 0), 59, none, true⟩, []),
  (⟨some (45, false), .nilCheck (.tmp 44), 0, none, true⟩, []),
  (⟨some (46, false), .fieldAddr 61 (.tmp 45) 1, 0, none, true⟩, []),
  (⟨some (47, false), .load 3 (.tmp 46), 3, none, true⟩, []),
  (⟨some (48, false), .move (.tmp 0), 59, none, true⟩, []),
  (⟨some (49, false), .nilCheck (.tmp 48), 0, none, true⟩, []),
  (⟨some (50, false), .fieldAddr 61 (.tmp 49) 1, 0, none, true⟩, []),
  (⟨some (51, false), .load 3 (.tmp 50), 3, none, true⟩, []),
  (⟨some (52, false), .move (.tmp 1), 3, none, true⟩, []),
  (⟨some (53, false), .binOp .add 3 (.tmp 51) (.tmp 52) 3, 3, none, true⟩, []),
  (⟨some (54, false), .slice 9 (.tmp 43) (some (.tmp 47)) (some (.tmp 53)) none, 9, none, true⟩, []),
  (⟨some (5, true), .assign (.tmp 54), 9, none, true⟩, [])] τ ρ h := _root_.id rfl
def cut_take_r6 : List Sop := [
  ⟨some (55, false), .move (.tmp 0), 59, none, true⟩,
  ⟨some (56, false), .nilCheck (.tmp 55), 0, none, true⟩,
  ⟨some (57, false), .fieldAddr 61 (.tmp 56) 1, 0, none, true⟩,
  ⟨some (58, false), .load 3 (.tmp 57), 3, none, true⟩,
  ⟨some (59, false), .move (.tmp 1), 3, none, true⟩,
  ⟨some (60, false), .binOp .add 3 (.tmp 58) (.tmp 59) 3, 3, none, true⟩,
  ⟨some (61, false), .nilCheck (.tmp 55), 0, none, true⟩,
  ⟨some (62, false), .fieldAddr 61 (.tmp 61) 1, 0, none, true⟩,
  ⟨none, .store 3 (.tmp 62) (.tmp 60), 0, none, false⟩]
theorem cut_take_r6_go {K : Env → Heap → Prop} {τ ρ : Env} {h : Heap} : vcOps Try.prog K cut_take_r6 τ ρ h = vcOps Try.prog K [
  ⟨some (55, false), .move (.tmp 0), 59, none, true⟩,
  ⟨some (56, false), .nilCheck (.tmp 55), 0, none, true⟩,
  ⟨some (57, false), .fieldAddr 61 (.tmp 56) 1, 0, none, true⟩,
  ⟨some (58, false), .load 3 (.tmp 57), 3, none, true⟩,
  ⟨some (59, false), .move (.tmp 1), 3, none, true⟩,
  ⟨some (60, false), .binOp .add 3 (.tmp 58) (.tmp 59) 3, 3, none, true⟩,
  ⟨some (61, false), .nilCheck (.tmp 55), 0, none, true⟩,
  ⟨some (62, false), .fieldAddr 61 (.tmp 61) 1, 0, none, true⟩,
  ⟨none, .store 3 (.tmp 62) (.tmp 60), 0, none, false⟩] τ ρ h := _root_.id rfl
def cut_take_r7 : List Sop := [
  ⟨some (63, false), .move (.tmp 5), 9, none, true⟩,
  ⟨some (4, true), .assign (.tmp 63), 9, none, true⟩]
theorem cut_take_r7_go {K : Env → Heap → Prop} {τ ρ : Env} {h : Heap} : vcOps Try.prog K cut_take_r7 τ ρ h = vcOps Try.prog K [
  ⟨some (63, false), .move (.tmp 5), 9, none, true⟩,
  ⟨some (4, true), .assign (.tmp 63), 9, none, true⟩] τ ρ h := _root_.id rfl
def cut_take : Cd := .seq (.region cut_take_r0) (.seq (.seq (.draw cut_take_r1) (.cond (.tmp 24) (.region cut_take_r2) (.skip))) (.seq (.seq (.region cut_take_r3) (.cond (.tmp 36) (.seq (.region cut_take_r4) (.ret)) (.skip))) (.seq (.draw cut_take_r5) (.seq (.region cut_take_r6) (.seq (.region cut_take_r7) (.ret))))))
theorem cut_take_go {Q : Ex → Env → Heap → Prop} {ρ : Env} {h : Heap} : Cd.vc Try.prog cut_take Q ρ h = Cd.vc Try.prog (.seq (.region cut_take_r0) (.seq (.seq (.draw cut_take_r1) (.cond (.tmp 24) (.region cut_take_r2) (.skip))) (.seq (.seq (.region cut_take_r3) (.cond (.tmp 36) (.seq (.region cut_take_r4) (.ret)) (.skip))) (.seq (.draw cut_take_r5) (.seq (.region cut_take_r6) (.seq (.region cut_take_r7) (.ret))))))) Q ρ h := _root_.id rfl
theorem cut_take_calls {args : List Value} {h : Heap} {R : Value → Heap → Prop} (hl : args.length = 2) (hv : Cd.vc Try.prog cut_take (retQ Try.prog [(4, none)] R) (initEnv args [0, 1, 4, 5, 24, 36]) h) : HCalls Try.prog 48 args.toArray h R :=
  hcalls_of_vc (by kernel_rfl) Try.func48 (cd := cut_take) (L := [0, 1, 4, 5, 24, 36]) (by kernel_rfl) (by kernel_rfl) ⟨by rw [hl, Try.ntmps48]; decide, by rw [Try.ntmps48]; decide⟩ hv
def cut_take_gos := And.intro @cut_take_go (And.intro @cut_take_r0_go (And.intro @cut_take_r1_go (And.intro @cut_take_r2_go (And.intro @cut_take_r3_go (And.intro @cut_take_r4_go (And.intro @cut_take_r5_go (And.intro @cut_take_r6_go (@cut_take_r7_go))))))))

/-! (*jvmcore/jvmcoreref2.cut).num: function 38: slots [0, 1, 4] -/
def cut_num_r0 : List Sop := [
  ⟨some (4, true), .assign (.const (.int .i64 0)), 3, none, true⟩]
theorem cut_num_r0_go {K : Env → Heap → Prop} {τ ρ : Env} {h : Heap} : vcOps Try.prog K cut_num_r0 τ ρ h = vcOps Try.prog K [
  ⟨some (4, true), .assign (.const (.int .i64 0)), 3, none, true⟩] τ ρ h := _root_.id rfl
def cut_num_r1 : List Sop := [
  ⟨some (5, false), .move (.tmp 0), 59, none, true⟩,
  ⟨some (6, false), .move (.tmp 1), 3, none, true⟩,
  ⟨some (7, false), .call { callee := .value (.func 48), args := #[.tmp 5, .tmp 6], argTypes := #[59, 3] }, 9, none, false⟩,
  ⟨some (8, false), .call { callee := .value (.func 47), args := #[.tmp 7], argTypes := #[9] }, 74, none, false⟩,
  ⟨some (9, false), .convert 74 3 (.tmp 8), 3, none, true⟩,
  ⟨some (4, true), .assign (.tmp 9), 3, none, true⟩]
theorem cut_num_r1_go {K : Env → Heap → Prop} {τ ρ : Env} {h : Heap} : vcOps Try.prog K cut_num_r1 τ ρ h = vcOps Try.prog K [
  ⟨some (5, false), .move (.tmp 0), 59, none, true⟩,
  ⟨some (6, false), .move (.tmp 1), 3, none, true⟩,
  ⟨some (7, false), .call { callee := .value (.func 48), args := #[.tmp 5, .tmp 6], argTypes := #[59, 3] }, 9, none, false⟩,
  ⟨some (8, false), .call { callee := .value (.func 47), args := #[.tmp 7], argTypes := #[9] }, 74, none, false⟩,
  ⟨some (9, false), .convert 74 3 (.tmp 8), 3, none, true⟩,
  ⟨some (4, true), .assign (.tmp 9), 3, none, true⟩] τ ρ h := _root_.id rfl
def cut_num : Cd := .seq (.region cut_num_r0) (.seq (.region cut_num_r1) (.ret))
theorem cut_num_go {Q : Ex → Env → Heap → Prop} {ρ : Env} {h : Heap} : Cd.vc Try.prog cut_num Q ρ h = Cd.vc Try.prog (.seq (.region cut_num_r0) (.seq (.region cut_num_r1) (.ret))) Q ρ h := _root_.id rfl
theorem cut_num_calls {args : List Value} {h : Heap} {R : Value → Heap → Prop} (hl : args.length = 2) (hv : Cd.vc Try.prog cut_num (retQ Try.prog [(4, none)] R) (initEnv args [0, 1, 4]) h) : HCalls Try.prog 38 args.toArray h R :=
  hcalls_of_vc (by kernel_rfl) Try.func38 (cd := cut_num) (L := [0, 1, 4]) (by kernel_rfl) (by kernel_rfl) ⟨by rw [hl, Try.ntmps38]; decide, by rw [Try.ntmps38]; decide⟩ hv
def cut_num_gos := And.intro @cut_num_go (And.intro @cut_num_r0_go (@cut_num_r1_go))

/-! (*jvmcore/jvmcoreref2.cut).signed: function 39: slots [0, 1, 4] -/
def cut_signed_r0 : List Sop := [
  ⟨some (4, true), .assign (.const (.int .i64 0)), 3, none, true⟩]
theorem cut_signed_r0_go {K : Env → Heap → Prop} {τ ρ : Env} {h : Heap} : vcOps Try.prog K cut_signed_r0 τ ρ h = vcOps Try.prog K [
  ⟨some (4, true), .assign (.const (.int .i64 0)), 3, none, true⟩] τ ρ h := _root_.id rfl
def cut_signed_r1 : List Sop := [
  ⟨some (5, false), .move (.tmp 0), 59, none, true⟩,
  ⟨some (6, false), .move (.tmp 1), 3, none, true⟩,
  ⟨some (7, false), .call { callee := .value (.func 48), args := #[.tmp 5, .tmp 6], argTypes := #[59, 3] }, 9, none, false⟩,
  ⟨some (8, false), .call { callee := .value (.func 49), args := #[.tmp 7], argTypes := #[9] }, 3, none, false⟩,
  ⟨some (4, true), .assign (.tmp 8), 3, none, true⟩]
theorem cut_signed_r1_go {K : Env → Heap → Prop} {τ ρ : Env} {h : Heap} : vcOps Try.prog K cut_signed_r1 τ ρ h = vcOps Try.prog K [
  ⟨some (5, false), .move (.tmp 0), 59, none, true⟩,
  ⟨some (6, false), .move (.tmp 1), 3, none, true⟩,
  ⟨some (7, false), .call { callee := .value (.func 48), args := #[.tmp 5, .tmp 6], argTypes := #[59, 3] }, 9, none, false⟩,
  ⟨some (8, false), .call { callee := .value (.func 49), args := #[.tmp 7], argTypes := #[9] }, 3, none, false⟩,
  ⟨some (4, true), .assign (.tmp 8), 3, none, true⟩] τ ρ h := _root_.id rfl
def cut_signed : Cd := .seq (.region cut_signed_r0) (.seq (.region cut_signed_r1) (.ret))
theorem cut_signed_go {Q : Ex → Env → Heap → Prop} {ρ : Env} {h : Heap} : Cd.vc Try.prog cut_signed Q ρ h = Cd.vc Try.prog (.seq (.region cut_signed_r0) (.seq (.region cut_signed_r1) (.ret))) Q ρ h := _root_.id rfl
theorem cut_signed_calls {args : List Value} {h : Heap} {R : Value → Heap → Prop} (hl : args.length = 2) (hv : Cd.vc Try.prog cut_signed (retQ Try.prog [(4, none)] R) (initEnv args [0, 1, 4]) h) : HCalls Try.prog 39 args.toArray h R :=
  hcalls_of_vc (by kernel_rfl) Try.func39 (cd := cut_signed) (L := [0, 1, 4]) (by kernel_rfl) (by kernel_rfl) ⟨by rw [hl, Try.ntmps39]; decide, by rw [Try.ntmps39]; decide⟩ hv
def cut_signed_gos := And.intro @cut_signed_go (And.intro @cut_signed_r0_go (@cut_signed_r1_go))

/-! (*jvmcore/jvmcoreref2.cut).choice: function 40: slots [0, 1, 2, 6, 7, 20, 23, 44, 55, 63, 79, 82, 113] -/
def cut_choice_r0 : List Sop := [
  ⟨some (8, false), .move (.tmp 0), 59, none, true⟩,
  ⟨some (9, false), .nilCheck (.tmp 8), 0, none, true⟩,
  ⟨some (10, false), .fieldAddr 61 (.tmp 9) 1, 0, none, true⟩,
  ⟨some (11, false), .load 3 (.tmp 10), 3, none, true⟩,
  ⟨some (12, false), .binOp .rem 3 (.tmp 11) (.const (.int .i64 4)) 3, 3, none, true⟩,
  ⟨some (13, false), .binOp .neq 3 (.tmp 12) (.const (.int .i64 0)) 3, 4, none, true⟩,
  ⟨some (14, false), .move (.tmp 13), 4, none, true⟩,
  ⟨some (15, false), .move (.tmp 0), 59, some (14, true), true⟩,
  ⟨some (16, false), .nilCheck (.tmp 15), 0, some (14, true), true⟩,
  ⟨some (17, false), .fieldAddr 61 (.tmp 16) 2, 0, some (14, true), true⟩,
  ⟨some (18, false), .load 25 (.tmp 17), 25, some (14, true), true⟩,
  ⟨some (19, false), .binOp .eql 25 (.tmp 18) (.const (.int .i64 0)) 25, 4, some (14, true), true⟩,
  ⟨some (20, true), .pick (.tmp 14) (.tmp 19) (.const (.bool false)), 4, none, true⟩]
theorem cut_choice_r0_go {K : Env → Heap → Prop} {τ ρ : Env} {h : Heap} : vcOps Try.prog K cut_choice_r0 τ ρ h = vcOps Try.prog K [
  ⟨some (8, false), .move (.tmp 0), 59, none, true⟩,
  ⟨some (9, false), .nilCheck (.tmp 8), 0, none, true⟩,
  ⟨some (10, false), .fieldAddr 61 (.tmp 9) 1, 0, none, true⟩,
  ⟨some (11, false), .load 3 (.tmp 10), 3, none, true⟩,
  ⟨some (12, false), .binOp .rem 3 (.tmp 11) (.const (.int .i64 4)) 3, 3, none, true⟩,
  ⟨some (13, false), .binOp .neq 3 (.tmp 12) (.const (.int .i64 0)) 3, 4, none, true⟩,
  ⟨some (14, false), .move (.tmp 13), 4, none, true⟩,
  ⟨some (15, false), .move (.tmp 0), 59, some (14, true), true⟩,
  ⟨some (16, false), .nilCheck (.tmp 15), 0, some (14, true), true⟩,
  ⟨some (17, false), .fieldAddr 61 (.tmp 16) 2, 0, some (14, true), true⟩,
  ⟨some (18, false), .load 25 (.tmp 17), 25, some (14, true), true⟩,
  ⟨some (19, false), .binOp .eql 25 (.tmp 18) (.const (.int .i64 0)) 25, 4, some (14, true), true⟩,
  ⟨some (20, true), .pick (.tmp 14) (.tmp 19) (.const (.bool false)), 4, none, true⟩] τ ρ h := _root_.id rfl
def cut_choice_r1 : List Sop := [
  ⟨some (21, false), .move (.tmp 0), 59, none, true⟩,
  ⟨some (22, false), .call { callee := .value (.func 38), args := #[.tmp 21, .const (.int .i64 1)], argTypes := #[59, 3] }, 3, none, false⟩,
  ⟨some (23, true), .binOp .neq 3 (.tmp 22) (.const (.int .i64 0)) 3, 4, none, true⟩]
theorem cut_choice_r1_go {K : Env → Heap → Prop} {τ ρ : Env} {h : Heap} : vcOps Try.prog K cut_choice_r1 τ ρ h = vcOps Try.prog K [
  ⟨some (21, false), .move (.tmp 0), 59, none, true⟩,
  ⟨some (22, false), .call { callee := .value (.func 38), args := #[.tmp 21, .const (.int .i64 1)], argTypes := #[59, 3] }, 3, none, false⟩,
  ⟨some (23, true), .binOp .neq 3 (.tmp 22) (.const (.int .i64 0)) 3, 4, none, true⟩] τ ρ h := _root_.id rfl
def cut_choice_r2 : List Sop := [
  ⟨some (24, false), .move (.tmp 0), 59, none, true⟩,
  ⟨some (25, false), .move (.tmp 1), 71, none, true⟩,
  ⟨some (26, false), .nilCheck (.tmp 25), 0, none, true⟩,
  ⟨some (27, false), .fieldAddr 35 (.tmp 26) 0, 0, none, true⟩,
  ⟨some (28, false), .load 3 (.tmp 27), 3, none, true⟩,
  ⟨some (29, false), .call { callee := .value (.func 27), args := #[.tmp 24, .const (.int .i64 15), .tmp 28], argTypes := #[59, 25, 3] }, 0, none, false⟩]
theorem cut_choice_r2_go {K : Env → Heap → Prop} {τ ρ : Env} {h : Heap} : vcOps Try.prog K cut_choice_r2 τ ρ h = vcOps Try.prog K [
  ⟨some (24, false), .move (.tmp 0), 59, none, true⟩,
  ⟨some (25, false), .move (.tmp 1), 71, none, true⟩,
  ⟨some (26, false), .nilCheck (.tmp 25), 0, none, true⟩,
  ⟨some (27, false), .fieldAddr 35 (.tmp 26) 0, 0, none, true⟩,
  ⟨some (28, false), .load 3 (.tmp 27), 3, none, true⟩,
  ⟨some (29, false), .call { callee := .value (.func 27), args := #[.tmp 24, .const (.int .i64 15), .tmp 28], argTypes := #[59, 25, 3] }, 0, none, false⟩] τ ρ h := _root_.id rfl
def cut_choice_r3 : List (Sop × List Sop) := [
  (⟨some (30, false), .move (.tmp 1), 71, none, true⟩, []),
  (⟨some (31, false), .move (.tmp 1), 71, none, true⟩, []),
  (⟨some (32, false), .nilCheck (.tmp 31), 0, none, true⟩, []),
  (⟨some (33, false), .fieldAddr 35 (.tmp 32) 0, 0, none, true⟩, []),
  (⟨some (34, false), .load 3 (.tmp 33), 3, none, true⟩, []),
  (⟨some (35, false), .move (.tmp 0), 59, none, true⟩, []),
  (⟨some (36, false), .call { callee := .value (.func 39), args := #[.tmp 35, .const (.int .i64 4)], argTypes := #[59, 3] }, 3, none, false⟩, [⟨some (32, false), .nilCheck (.tmp 31), 0, none, true⟩, ⟨some (33, false), .fieldAddr 35 (.tmp 32) 0, 0, none, true⟩, ⟨some (34, false), .load 3 (.tmp 33), 3, none, true⟩]),
  (⟨some (37, false), .binOp .add 3 (.tmp 34) (.tmp 36) 3, 3, none, true⟩, []),
  (⟨some (38, false), .buildSlice 33 1 #[(0, .tmp 37)], 33, none, false⟩, []),
  (⟨some (39, false), .nilCheck (.tmp 30), 0, none, true⟩, []),
  (⟨some (40, false), .fieldAddr 35 (.tmp 39) 7, 0, none, true⟩, []),
  (⟨none, .store 33 (.tmp 40) (.tmp 38), 0, none, false⟩, [])]
theorem cut_choice_r3_go {K : Env → Heap → Prop} {τ ρ : Env} {h : Heap} : vcDraw Try.prog K cut_choice_r3 τ ρ h = vcDraw Try.prog K [
  (⟨some (30, false), .move (.tmp 1), 71, none, true⟩, []),
  (⟨some (31, false), .move (.tmp 1), 71, none, true⟩, []),
  (⟨some (32, false), .nilCheck (.tmp 31), 0, none, true⟩, []),
  (⟨some (33, false), .fieldAddr 35 (.tmp 32) 0, 0, none, true⟩, []),
  (⟨some (34, false), .load 3 (.tmp 33), 3, none, true⟩, []),
  (⟨some (35, false), .move (.tmp 0), 59, none, true⟩, []),
  (⟨some (36, false), .call { callee := .value (.func 39), args := #[.tmp 35, .const (.int .i64 4)], argTypes := #[59, 3] }, 3, none, false⟩, [⟨some (32, false), .nilCheck (.tmp 31), 0, none, true⟩, ⟨some (33, false), .fieldAddr 35 (.tmp 32) 0, 0, none, true⟩, ⟨some (34, false), .load 3 (.tmp 33), 3, none, true⟩]),
  (⟨some (37, false), .binOp .add 3 (.tmp 34) (.tmp 36) 3, 3, none, true⟩, []),
  (⟨some (38, false), .buildSlice 33 1 #[(0, .tmp 37)], 33, none, false⟩, []),
  (⟨some (39, false), .nilCheck (.tmp 30), 0, none, true⟩, []),
  (⟨some (40, false), .fieldAddr 35 (.tmp 39) 7, 0, none, true⟩, []),
  (⟨none, .store 33 (.tmp 40) (.tmp 38), 0, none, false⟩, [])] τ ρ h := _root_.id rfl
def cut_choice_r4 : List Sop := [
  ⟨some (41, false), .move (.tmp 0), 59, none, true⟩,
  ⟨some (42, false), .call { callee := .value (.func 39), args := #[.tmp 41, .const (.int .i64 4)], argTypes := #[59, 3] }, 3, none, false⟩,
  ⟨some (6, true), .assign (.tmp 42), 3, none, true⟩]
theorem cut_choice_r4_go {K : Env → Heap → Prop} {τ ρ : Env} {h : Heap} : vcOps Try.prog K cut_choice_r4 τ ρ h = vcOps Try.prog K [
  ⟨some (41, false), .move (.tmp 0), 59, none, true⟩,
  ⟨some (42, false), .call { callee := .value (.func 39), args := #[.tmp 41, .const (.int .i64 4)], argTypes := #[59, 3] }, 3, none, false⟩,
  ⟨some (6, true), .assign (.tmp 42), 3, none, true⟩] τ ρ h := _root_.id rfl
def cut_choice_r5 : List Sop := [
  ⟨some (43, false), .move (.tmp 2), 4, none, true⟩,
  ⟨some (44, true), .unOp .not 4 (.tmp 43), 4, none, true⟩]
theorem cut_choice_r5_go {K : Env → Heap → Prop} {τ ρ : Env} {h : Heap} : vcOps Try.prog K cut_choice_r5 τ ρ h = vcOps Try.prog K [
  ⟨some (43, false), .move (.tmp 2), 4, none, true⟩,
  ⟨some (44, true), .unOp .not 4 (.tmp 43), 4, none, true⟩] τ ρ h := _root_.id rfl
def cut_choice_r6 : List Sop := [
  ⟨some (45, false), .move (.tmp 1), 71, none, true⟩,
  ⟨some (46, false), .move (.tmp 6), 3, none, true⟩,
  ⟨some (47, false), .nilCheck (.tmp 45), 0, none, true⟩,
  ⟨some (48, false), .fieldAddr 35 (.tmp 47) 5, 0, none, true⟩,
  ⟨none, .store 3 (.tmp 48) (.tmp 46), 0, none, false⟩]
theorem cut_choice_r6_go {K : Env → Heap → Prop} {τ ρ : Env} {h : Heap} : vcOps Try.prog K cut_choice_r6 τ ρ h = vcOps Try.prog K [
  ⟨some (45, false), .move (.tmp 1), 71, none, true⟩,
  ⟨some (46, false), .move (.tmp 6), 3, none, true⟩,
  ⟨some (47, false), .nilCheck (.tmp 45), 0, none, true⟩,
  ⟨some (48, false), .fieldAddr 35 (.tmp 47) 5, 0, none, true⟩,
  ⟨none, .store 3 (.tmp 48) (.tmp 46), 0, none, false⟩] τ ρ h := _root_.id rfl
def cut_choice_r7 : List Sop := [
  ⟨some (49, false), .move (.tmp 0), 59, none, true⟩,
  ⟨some (50, false), .call { callee := .value (.func 39), args := #[.tmp 49, .const (.int .i64 4)], argTypes := #[59, 3] }, 3, none, false⟩,
  ⟨some (51, false), .move (.tmp 6), 3, none, true⟩,
  ⟨some (52, false), .binOp .sub 3 (.tmp 50) (.tmp 51) 3, 3, none, true⟩,
  ⟨some (53, false), .binOp .add 3 (.tmp 52) (.const (.int .i64 1)) 3, 3, none, true⟩,
  ⟨some (6, true), .assign (.tmp 53), 3, none, true⟩]
theorem cut_choice_r7_go {K : Env → Heap → Prop} {τ ρ : Env} {h : Heap} : vcOps Try.prog K cut_choice_r7 τ ρ h = vcOps Try.prog K [
  ⟨some (49, false), .move (.tmp 0), 59, none, true⟩,
  ⟨some (50, false), .call { callee := .value (.func 39), args := #[.tmp 49, .const (.int .i64 4)], argTypes := #[59, 3] }, 3, none, false⟩,
  ⟨some (51, false), .move (.tmp 6), 3, none, true⟩,
  ⟨some (52, false), .binOp .sub 3 (.tmp 50) (.tmp 51) 3, 3, none, true⟩,
  ⟨some (53, false), .binOp .add 3 (.tmp 52) (.const (.int .i64 1)) 3, 3, none, true⟩,
  ⟨some (6, true), .assign (.tmp 53), 3, none, true⟩] τ ρ h := _root_.id rfl
def cut_choice_r8 : List Sop := [
  ⟨some (54, false), .move (.tmp 6), 3, none, true⟩,
  ⟨some (55, true), .binOp .lss 3 (.tmp 54) (.const (.int .i64 1)) 3, 4, none, true⟩]
theorem cut_choice_r8_go {K : Env → Heap → Prop} {τ ρ : Env} {h : Heap} : vcOps Try.prog K cut_choice_r8 τ ρ h = vcOps Try.prog K [
  ⟨some (54, false), .move (.tmp 6), 3, none, true⟩,
  ⟨some (55, true), .binOp .lss 3 (.tmp 54) (.const (.int .i64 1)) 3, 4, none, true⟩] τ ρ h := _root_.id rfl
def cut_choice_r9 : List Sop := [
  ⟨some (56, false), .move (.tmp 0), 59, none, true⟩,
  ⟨some (57, false), .move (.tmp 1), 71, none, true⟩,
  ⟨some (58, false), .nilCheck (.tmp 57), 0, none, true⟩,
  ⟨some (59, false), .fieldAddr 35 (.tmp 58) 0, 0, none, true⟩,
  ⟨some (60, false), .load 3 (.tmp 59), 3, none, true⟩,
  ⟨some (61, false), .call { callee := .value (.func 27), args := #[.tmp 56, .const (.int .i64 15), .tmp 60], argTypes := #[59, 25, 3] }, 0, none, false⟩]
theorem cut_choice_r9_go {K : Env → Heap → Prop} {τ ρ : Env} {h : Heap} : vcOps Try.prog K cut_choice_r9 τ ρ h = vcOps Try.prog K [
  ⟨some (56, false), .move (.tmp 0), 59, none, true⟩,
  ⟨some (57, false), .move (.tmp 1), 71, none, true⟩,
  ⟨some (58, false), .nilCheck (.tmp 57), 0, none, true⟩,
  ⟨some (59, false), .fieldAddr 35 (.tmp 58) 0, 0, none, true⟩,
  ⟨some (60, false), .load 3 (.tmp 59), 3, none, true⟩,
  ⟨some (61, false), .call { callee := .value (.func 27), args := #[.tmp 56, .const (.int .i64 15), .tmp 60], argTypes := #[59, 25, 3] }, 0, none, false⟩] τ ρ h := _root_.id rfl
def cut_choice_r10 : List Sop := [
  ⟨some (62, false), .move (.tmp 6), 3, none, true⟩,
  ⟨some (63, true), .binOp .lss 3 (.tmp 62) (.const (.int .i64 0)) 3, 4, none, true⟩]
theorem cut_choice_r10_go {K : Env → Heap → Prop} {τ ρ : Env} {h : Heap} : vcOps Try.prog K cut_choice_r10 τ ρ h = vcOps Try.prog K [
  ⟨some (62, false), .move (.tmp 6), 3, none, true⟩,
  ⟨some (63, true), .binOp .lss 3 (.tmp 62) (.const (.int .i64 0)) 3, 4, none, true⟩] τ ρ h := _root_.id rfl
def cut_choice_r11 : List Sop := [
  ⟨some (64, false), .move (.tmp 0), 59, none, true⟩,
  ⟨some (65, false), .move (.tmp 1), 71, none, true⟩,
  ⟨some (66, false), .nilCheck (.tmp 65), 0, none, true⟩,
  ⟨some (67, false), .fieldAddr 35 (.tmp 66) 0, 0, none, true⟩,
  ⟨some (68, false), .load 3 (.tmp 67), 3, none, true⟩,
  ⟨some (69, false), .call { callee := .value (.func 27), args := #[.tmp 64, .const (.int .i64 15), .tmp 68], argTypes := #[59, 25, 3] }, 0, none, false⟩]
theorem cut_choice_r11_go {K : Env → Heap → Prop} {τ ρ : Env} {h : Heap} : vcOps Try.prog K cut_choice_r11 τ ρ h = vcOps Try.prog K [
  ⟨some (64, false), .move (.tmp 0), 59, none, true⟩,
  ⟨some (65, false), .move (.tmp 1), 71, none, true⟩,
  ⟨some (66, false), .nilCheck (.tmp 65), 0, none, true⟩,
  ⟨some (67, false), .fieldAddr 35 (.tmp 66) 0, 0, none, true⟩,
  ⟨some (68, false), .load 3 (.tmp 67), 3, none, true⟩,
  ⟨some (69, false), .call { callee := .value (.func 27), args := #[.tmp 64, .const (.int .i64 15), .tmp 68], argTypes := #[59, 25, 3] }, 0, none, false⟩] τ ρ h := _root_.id rfl
def cut_choice_r12 : List Sop := [
  ⟨some (7, true), .assign (.const (.int .i64 0)), 3, none, true⟩]
theorem cut_choice_r12_go {K : Env → Heap → Prop} {τ ρ : Env} {h : Heap} : vcOps Try.prog K cut_choice_r12 τ ρ h = vcOps Try.prog K [
  ⟨some (7, true), .assign (.const (.int .i64 0)), 3, none, true⟩] τ ρ h := _root_.id rfl
def cut_choice_r13 : List Sop := [
  ⟨some (70, false), .move (.tmp 7), 3, none, true⟩,
  ⟨some (71, false), .move (.tmp 6), 3, none, true⟩,
  ⟨some (72, false), .binOp .lss 3 (.tmp 70) (.tmp 71) 3, 4, none, true⟩,
  ⟨some (73, false), .move (.tmp 72), 4, none, true⟩,
  ⟨some (74, false), .move (.tmp 0), 59, some (73, true), true⟩,
  ⟨some (75, false), .nilCheck (.tmp 74), 0, some (73, true), true⟩,
  ⟨some (76, false), .fieldAddr 61 (.tmp 75) 2, 0, some (73, true), true⟩,
  ⟨some (77, false), .load 25 (.tmp 76), 25, some (73, true), true⟩,
  ⟨some (78, false), .binOp .eql 25 (.tmp 77) (.const (.int .i64 0)) 25, 4, some (73, true), true⟩,
  ⟨some (79, true), .pick (.tmp 73) (.tmp 78) (.const (.bool false)), 4, none, true⟩]
theorem cut_choice_r13_go {K : Env → Heap → Prop} {τ ρ : Env} {h : Heap} : vcOps Try.prog K cut_choice_r13 τ ρ h = vcOps Try.prog K [
  ⟨some (70, false), .move (.tmp 7), 3, none, true⟩,
  ⟨some (71, false), .move (.tmp 6), 3, none, true⟩,
  ⟨some (72, false), .binOp .lss 3 (.tmp 70) (.tmp 71) 3, 4, none, true⟩,
  ⟨some (73, false), .move (.tmp 72), 4, none, true⟩,
  ⟨some (74, false), .move (.tmp 0), 59, some (73, true), true⟩,
  ⟨some (75, false), .nilCheck (.tmp 74), 0, some (73, true), true⟩,
  ⟨some (76, false), .fieldAddr 61 (.tmp 75) 2, 0, some (73, true), true⟩,
  ⟨some (77, false), .load 25 (.tmp 76), 25, some (73, true), true⟩,
  ⟨some (78, false), .binOp .eql 25 (.tmp 77) (.const (.int .i64 0)) 25, 4, some (73, true), true⟩,
  ⟨some (79, true), .pick (.tmp 73) (.tmp 78) (.const (.bool false)), 4, none, true⟩] τ ρ h := _root_.id rfl
def cut_choice_r14 : List Sop := [
  ⟨some (82, true), .move (.tmp 2), 4, none, true⟩]
theorem cut_choice_r14_go {K : Env → Heap → Prop} {τ ρ : Env} {h : Heap} : vcOps Try.prog K cut_choice_r14 τ ρ h = vcOps Try.prog K [
  ⟨some (82, true), .move (.tmp 2), 4, none, true⟩] τ ρ h := _root_.id rfl
def cut_choice_r15 : List (Sop × List Sop) := [
  (⟨some (83, false), .move (.tmp 1), 71, none, true⟩, []),
  (⟨some (84, false), .move (.tmp 1), 71, none, true⟩, []),
  (⟨some (85, false), .nilCheck (.tmp 84), 0, none, true⟩, []),
  (⟨some (86, false), .fieldAddr 35 (.tmp 85) 6, 0, none, true⟩, []),
  (⟨some (87, false), .load 33 (.tmp 86), 33, none, true⟩, []),
  (⟨some (88, false), .move (.tmp 0), 59, none, true⟩, []),
  (⟨some (89, false), .call { callee := .value (.func 39), args := #[.tmp 88, .const (.int .i64 4)], argTypes := #[59, 3] }, 3, none, false⟩, [⟨some (85, false), .nilCheck (.tmp 84), 0, none, true⟩, ⟨some (86, false), .fieldAddr 35 (.tmp 85) 6, 0, none, true⟩, ⟨some (87, false), .load 33 (.tmp 86), 33, none, true⟩]),
  (⟨some (90, false), .buildSlice 33 1 #[(0, .tmp 89)], 33, none, false⟩, [⟨some (85, false), .nilCheck (.tmp 84), 0, none, true⟩, ⟨some (86, false), .fieldAddr 35 (.tmp 85) 6, 0, none, true⟩, ⟨some (87, false), .load 33 (.tmp 86), 33, none, true⟩]),
  (⟨some (91, false), .call { callee := .builtin .append, args := #[.tmp 87, .tmp 90], argTypes := #[33, 33] }, 33, none, false⟩, []),
  (⟨some (92, false), .nilCheck (.tmp 83), 0, none, true⟩, []),
  (⟨some (93, false), .fieldAddr 35 (.tmp 92) 6, 0, none, true⟩, []),
  (⟨none, .store 33 (.tmp 93) (.tmp 91), 0, none, false⟩, [])]
theorem cut_choice_r15_go {K : Env → Heap → Prop} {τ ρ : Env} {h : Heap} : vcDraw Try.prog K cut_choice_r15 τ ρ h = vcDraw Try.prog K [
  (⟨some (83, false), .move (.tmp 1), 71, none, true⟩, []),
  (⟨some (84, false), .move (.tmp 1), 71, none, true⟩, []),
  (⟨some (85, false), .nilCheck (.tmp 84), 0, none, true⟩, []),
  (⟨some (86, false), .fieldAddr 35 (.tmp 85) 6, 0, none, true⟩, []),
  (⟨some (87, false), .load 33 (.tmp 86), 33, none, true⟩, []),
  (⟨some (88, false), .move (.tmp 0), 59, none, true⟩, []),
  (⟨some (89, false), .call { callee := .value (.func 39), args := #[.tmp 88, .const (.int .i64 4)], argTypes := #[59, 3] }, 3, none, false⟩, [⟨some (85, false), .nilCheck (.tmp 84), 0, none, true⟩, ⟨some (86, false), .fieldAddr 35 (.tmp 85) 6, 0, none, true⟩, ⟨some (87, false), .load 33 (.tmp 86), 33, none, true⟩]),
  (⟨some (90, false), .buildSlice 33 1 #[(0, .tmp 89)], 33, none, false⟩, [⟨some (85, false), .nilCheck (.tmp 84), 0, none, true⟩, ⟨some (86, false), .fieldAddr 35 (.tmp 85) 6, 0, none, true⟩, ⟨some (87, false), .load 33 (.tmp 86), 33, none, true⟩]),
  (⟨some (91, false), .call { callee := .builtin .append, args := #[.tmp 87, .tmp 90], argTypes := #[33, 33] }, 33, none, false⟩, []),
  (⟨some (92, false), .nilCheck (.tmp 83), 0, none, true⟩, []),
  (⟨some (93, false), .fieldAddr 35 (.tmp 92) 6, 0, none, true⟩, []),
  (⟨none, .store 33 (.tmp 93) (.tmp 91), 0, none, false⟩, [])] τ ρ h := _root_.id rfl
def cut_choice_r16 : List (Sop × List Sop) := [
  (⟨some (94, false), .move (.tmp 7), 3, none, true⟩, []),
  (⟨some (95, false), .binOp .gtr 3 (.tmp 94) (.const (.int .i64 0)) 3, 4, none, true⟩, []),
  (⟨some (96, false), .move (.tmp 95), 4, none, true⟩, []),
  (⟨some (97, false), .move (.tmp 1), 71, some (96, true), true⟩, []),
  (⟨some (98, false), .nilCheck (.tmp 97), 0, some (96, true), true⟩, []),
  (⟨some (99, false), .fieldAddr 35 (.tmp 98) 6, 0, some (96, true), true⟩, []),
  (⟨some (100, false), .load 33 (.tmp 99), 33, some (96, true), true⟩, []),
  (⟨some (101, false), .move (.tmp 7), 3, some (96, true), true⟩, []),
  (⟨some (102, false), .indexAddr 33 (.tmp 100) (.tmp 101), 0, some (96, true), true⟩, []),
  (⟨some (103, false), .load 3 (.tmp 102), 3, some (96, true), true⟩, []),
  (⟨some (104, false), .move (.tmp 1), 71, some (96, true), true⟩, []),
  (⟨some (105, false), .nilCheck (.tmp 104), 0, some (96, true), true⟩, []),
  (⟨some (106, false), .fieldAddr 35 (.tmp 105) 6, 0, some (96, true), true⟩, []),
  (⟨some (107, false), .load 33 (.tmp 106), 33, some (96, true), true⟩, []),
  (⟨some (108, false), .move (.tmp 7), 3, some (96, true), true⟩, []),
  (⟨some (109, false), .binOp .sub 3 (.tmp 108) (.const (.int .i64 1)) 3, 3, some (96, true), true⟩, []),
  (⟨some (110, false), .indexAddr 33 (.tmp 107) (.tmp 109), 0, some (96, true), true⟩, []),
  (⟨some (111, false), .load 3 (.tmp 110), 3, some (96, true), true⟩, []),
  (⟨some (112, false), .binOp .leq 3 (.tmp 103) (.tmp 111) 3, 4, some (96, true), true⟩, []),
  (⟨some (113, true), .pick (.tmp 96) (.tmp 112) (.const (.bool false)), 4, none, true⟩, [])]
theorem cut_choice_r16_go {K : Env → Heap → Prop} {τ ρ : Env} {h : Heap} : vcDraw Try.prog K cut_choice_r16 τ ρ h = vcDraw Try.prog K [
  (⟨some (94, false), .move (.tmp 7), 3, none, true⟩, []),
  (⟨some (95, false), .binOp .gtr 3 (.tmp 94) (.const (.int .i64 0)) 3, 4, none, true⟩, []),
  (⟨some (96, false), .move (.tmp 95), 4, none, true⟩, []),
  (⟨some (97, false), .move (.tmp 1), 71, some (96, true), true⟩, []),
  (⟨some (98, false), .nilCheck (.tmp 97), 0, some (96, true), true⟩, []),
  (⟨some (99, false), .fieldAddr 35 (.tmp 98) 6, 0, some (96, true), true⟩, []),
  (⟨some (100, false), .load 33 (.tmp 99), 33, some (96, true), true⟩, []),
  (⟨some (101, false), .move (.tmp 7), 3, some (96, true), true⟩, []),
  (⟨some (102, false), .indexAddr 33 (.tmp 100) (.tmp 101), 0, some (96, true), true⟩, []),
  (⟨some (103, false), .load 3 (.tmp 102), 3, some (96, true), true⟩, []),
  (⟨some (104, false), .move (.tmp 1), 71, some (96, true), true⟩, []),
  (⟨some (105, false), .nilCheck (.tmp 104), 0, some (96, true), true⟩, []),
  (⟨some (106, false), .fieldAddr 35 (.tmp 105) 6, 0, some (96, true), true⟩, []),
  (⟨some (107, false), .load 33 (.tmp 106), 33, some (96, true), true⟩, []),
  (⟨some (108, false), .move (.tmp 7), 3, some (96, true), true⟩, []),
  (⟨some (109, false), .binOp .sub 3 (.tmp 108) (.const (.int .i64 1)) 3, 3, some (96, true), true⟩, []),
  (⟨some (110, false), .indexAddr 33 (.tmp 107) (.tmp 109), 0, some (96, true), true⟩, []),
  (⟨some (111, false), .load 3 (.tmp 110), 3, some (96, true), true⟩, []),
  (⟨some (112, false), .binOp .leq 3 (.tmp 103) (.tmp 111) 3, 4, some (96, true), true⟩, []),
  (⟨some (113, true), .pick (.tmp 96) (.tmp 112) (.const (.bool false)), 4, none, true⟩, [])] τ ρ h := _root_.id rfl
def cut_choice_r17 : List Sop := [
  ⟨some (114, false), .move (.tmp 0), 59, none, true⟩,
  ⟨some (115, false), .move (.tmp 1), 71, none, true⟩,
  ⟨some (116, false), .nilCheck (.tmp 115), 0, none, true⟩,
  ⟨some (117, false), .fieldAddr 35 (.tmp 116) 0, 0, none, true⟩,
  ⟨some (118, false), .load 3 (.tmp 117), 3, none, true⟩,
  ⟨some (119, false), .call { callee := .value (.func 27), args := #[.tmp 114, .const (.int .i64 15), .tmp 118], argTypes := #[59, 25, 3] }, 0, none, false⟩]
theorem cut_choice_r17_go {K : Env → Heap → Prop} {τ ρ : Env} {h : Heap} : vcOps Try.prog K cut_choice_r17 τ ρ h = vcOps Try.prog K [
  ⟨some (114, false), .move (.tmp 0), 59, none, true⟩,
  ⟨some (115, false), .move (.tmp 1), 71, none, true⟩,
  ⟨some (116, false), .nilCheck (.tmp 115), 0, none, true⟩,
  ⟨some (117, false), .fieldAddr 35 (.tmp 116) 0, 0, none, true⟩,
  ⟨some (118, false), .load 3 (.tmp 117), 3, none, true⟩,
  ⟨some (119, false), .call { callee := .value (.func 27), args := #[.tmp 114, .const (.int .i64 15), .tmp 118], argTypes := #[59, 25, 3] }, 0, none, false⟩] τ ρ h := _root_.id rfl
def cut_choice_r18 : List (Sop × List Sop) := [
  (⟨some (120, false), .move (.tmp 1), 71, none, true⟩, []),
  (⟨some (121, false), .move (.tmp 1), 71, none, true⟩, []),
  (⟨some (122, false), .nilCheck (.tmp 121), 0, none, true⟩, []),
  (⟨some (123, false), .fieldAddr 35 (.tmp 122) 7, 0, none, true⟩, []),
  (⟨some (124, false), .load 33 (.tmp 123), 33, none, true⟩, []),
  (⟨some (125, false), .move (.tmp 1), 71, none, true⟩, []),
  (⟨some (126, false), .nilCheck (.tmp 125), 0, none, true⟩, []),
  (⟨some (127, false), .fieldAddr 35 (.tmp 126) 0, 0, none, true⟩, []),
  (⟨some (128, false), .load 3 (.tmp 127), 3, none, true⟩, []),
  (⟨some (129, false), .move (.tmp 0), 59, none, true⟩, []),
  (⟨some (130, false), .call { callee := .value (.func 39), args := #[.tmp 129, .const (.int .i64 4)], argTypes := #[59, 3] }, 3, none, false⟩, [⟨some (122, false), .nilCheck (.tmp 121), 0, none, true⟩, ⟨some (123, false), .fieldAddr 35 (.tmp 122) 7, 0, none, true⟩, ⟨some (124, false), .load 33 (.tmp 123), 33, none, true⟩, ⟨some (126, false), .nilCheck (.tmp 125), 0, none, true⟩, ⟨some (127, false), .fieldAddr 35 (.tmp 126) 0, 0, none, true⟩, ⟨some (128, false), .load 3 (.tmp 127), 3, none, true⟩]),
  (⟨some (131, false), .binOp .add 3 (.tmp 128) (.tmp 130) 3, 3, none, true⟩, []),
  (⟨some (132, false), .buildSlice 33 1 #[(0, .tmp 131)], 33, none, false⟩, [⟨some (122, false), .nilCheck (.tmp 121), 0, none, true⟩, ⟨some (123, false), .fieldAddr 35 (.tmp 122) 7, 0, none, true⟩, ⟨some (124, false), .load 33 (.tmp 123), 33, none, true⟩]),
  (⟨some (133, false), .call { callee := .builtin .append, args := #[.tmp 124, .tmp 132], argTypes := #[33, 33] }, 33, none, false⟩, []),
  (⟨some (134, false), .nilCheck (.tmp 120), 0, none, true⟩, []),
  (⟨some (135, false), .fieldAddr 35 (.tmp 134) 7, 0, none, true⟩, []),
  (⟨none, .store 33 (.tmp 135) (.tmp 133), 0, none, false⟩, [])]
theorem cut_choice_r18_go {K : Env → Heap → Prop} {τ ρ : Env} {h : Heap} : vcDraw Try.prog K cut_choice_r18 τ ρ h = vcDraw Try.prog K [
  (⟨some (120, false), .move (.tmp 1), 71, none, true⟩, []),
  (⟨some (121, false), .move (.tmp 1), 71, none, true⟩, []),
  (⟨some (122, false), .nilCheck (.tmp 121), 0, none, true⟩, []),
  (⟨some (123, false), .fieldAddr 35 (.tmp 122) 7, 0, none, true⟩, []),
  (⟨some (124, false), .load 33 (.tmp 123), 33, none, true⟩, []),
  (⟨some (125, false), .move (.tmp 1), 71, none, true⟩, []),
  (⟨some (126, false), .nilCheck (.tmp 125), 0, none, true⟩, []),
  (⟨some (127, false), .fieldAddr 35 (.tmp 126) 0, 0, none, true⟩, []),
  (⟨some (128, false), .load 3 (.tmp 127), 3, none, true⟩, []),
  (⟨some (129, false), .move (.tmp 0), 59, none, true⟩, []),
  (⟨some (130, false), .call { callee := .value (.func 39), args := #[.tmp 129, .const (.int .i64 4)], argTypes := #[59, 3] }, 3, none, false⟩, [⟨some (122, false), .nilCheck (.tmp 121), 0, none, true⟩, ⟨some (123, false), .fieldAddr 35 (.tmp 122) 7, 0, none, true⟩, ⟨some (124, false), .load 33 (.tmp 123), 33, none, true⟩, ⟨some (126, false), .nilCheck (.tmp 125), 0, none, true⟩, ⟨some (127, false), .fieldAddr 35 (.tmp 126) 0, 0, none, true⟩, ⟨some (128, false), .load 3 (.tmp 127), 3, none, true⟩]),
  (⟨some (131, false), .binOp .add 3 (.tmp 128) (.tmp 130) 3, 3, none, true⟩, []),
  (⟨some (132, false), .buildSlice 33 1 #[(0, .tmp 131)], 33, none, false⟩, [⟨some (122, false), .nilCheck (.tmp 121), 0, none, true⟩, ⟨some (123, false), .fieldAddr 35 (.tmp 122) 7, 0, none, true⟩, ⟨some (124, false), .load 33 (.tmp 123), 33, none, true⟩]),
  (⟨some (133, false), .call { callee := .builtin .append, args := #[.tmp 124, .tmp 132], argTypes := #[33, 33] }, 33, none, false⟩, []),
  (⟨some (134, false), .nilCheck (.tmp 120), 0, none, true⟩, []),
  (⟨some (135, false), .fieldAddr 35 (.tmp 134) 7, 0, none, true⟩, []),
  (⟨none, .store 33 (.tmp 135) (.tmp 133), 0, none, false⟩, [])] τ ρ h := _root_.id rfl
def cut_choice_r19 : List Sop := [
  ⟨some (80, false), .move (.tmp 7), 3, none, true⟩,
  ⟨some (81, false), .binOp .add 3 (.tmp 80) (.const (.int .i64 1)) 3, 3, none, true⟩,
  ⟨some (7, true), .assign (.tmp 81), 3, none, true⟩]
theorem cut_choice_r19_go {K : Env → Heap → Prop} {τ ρ : Env} {h : Heap} : vcOps Try.prog K cut_choice_r19 τ ρ h = vcOps Try.prog K [
  ⟨some (80, false), .move (.tmp 7), 3, none, true⟩,
  ⟨some (81, false), .binOp .add 3 (.tmp 80) (.const (.int .i64 1)) 3, 3, none, true⟩,
  ⟨some (7, true), .assign (.tmp 81), 3, none, true⟩] τ ρ h := _root_.id rfl
def cut_choice_l0 : Cd := .seq (.seq (.region cut_choice_r0) (.cond (.tmp 20) (.skip) (.exit 0))) (.block 1 (.seq (.region cut_choice_r1) (.cond (.tmp 23) (.region cut_choice_r2) (.skip))))
theorem cut_choice_l0_go {Q : Ex → Env → Heap → Prop} {ρ : Env} {h : Heap} : Cd.vc Try.prog cut_choice_l0 Q ρ h = Cd.vc Try.prog (.seq (.seq (.region cut_choice_r0) (.cond (.tmp 20) (.skip) (.exit 0))) (.block 1 (.seq (.region cut_choice_r1) (.cond (.tmp 23) (.region cut_choice_r2) (.skip))))) Q ρ h := _root_.id rfl
def cut_choice_l1 : Cd := .seq (.seq (.region cut_choice_r13) (.cond (.tmp 79) (.skip) (.exit 2))) (.seq (.block 3 (.seq (.seq (.region cut_choice_r14) (.cond (.tmp 82) (.seq (.draw cut_choice_r15) (.seq (.draw cut_choice_r16) (.cond (.tmp 113) (.region cut_choice_r17) (.skip)))) (.skip))) (.draw cut_choice_r18))) (.region cut_choice_r19))
theorem cut_choice_l1_go {Q : Ex → Env → Heap → Prop} {ρ : Env} {h : Heap} : Cd.vc Try.prog cut_choice_l1 Q ρ h = Cd.vc Try.prog (.seq (.seq (.region cut_choice_r13) (.cond (.tmp 79) (.skip) (.exit 2))) (.seq (.block 3 (.seq (.seq (.region cut_choice_r14) (.cond (.tmp 82) (.seq (.draw cut_choice_r15) (.seq (.draw cut_choice_r16) (.cond (.tmp 113) (.region cut_choice_r17) (.skip)))) (.skip))) (.draw cut_choice_r18))) (.region cut_choice_r19))) Q ρ h := _root_.id rfl
def cut_choice : Cd := .seq (.block 0 (.loop cut_choice_l0)) (.seq (.draw cut_choice_r3) (.seq (.region cut_choice_r4) (.seq (.seq (.region cut_choice_r5) (.cond (.tmp 44) (.seq (.region cut_choice_r6) (.seq (.region cut_choice_r7) (.seq (.region cut_choice_r8) (.cond (.tmp 55) (.region cut_choice_r9) (.skip))))) (.skip))) (.seq (.seq (.region cut_choice_r10) (.cond (.tmp 63) (.region cut_choice_r11) (.skip))) (.seq (.region cut_choice_r12) (.block 2 (.loop cut_choice_l1)))))))
theorem cut_choice_go {Q : Ex → Env → Heap → Prop} {ρ : Env} {h : Heap} : Cd.vc Try.prog cut_choice Q ρ h = Cd.vc Try.prog (.seq (.block 0 (.loop cut_choice_l0)) (.seq (.draw cut_choice_r3) (.seq (.region cut_choice_r4) (.seq (.seq (.region cut_choice_r5) (.cond (.tmp 44) (.seq (.region cut_choice_r6) (.seq (.region cut_choice_r7) (.seq (.region cut_choice_r8) (.cond (.tmp 55) (.region cut_choice_r9) (.skip))))) (.skip))) (.seq (.seq (.region cut_choice_r10) (.cond (.tmp 63) (.region cut_choice_r11) (.skip))) (.seq (.region cut_choice_r12) (.block 2 (.loop cut_choice_l1)))))))) Q ρ h := _root_.id rfl
theorem cut_choice_calls {args : List Value} {h : Heap} {R : Value → Heap → Prop} (hl : args.length = 3) (hv : Cd.vc Try.prog cut_choice (retQ Try.prog [] R) (initEnv args [0, 1, 2, 6, 7, 20, 23, 44, 55, 63, 79, 82, 113]) h) : HCalls Try.prog 40 args.toArray h R :=
  hcalls_of_vc (by kernel_rfl) Try.func40 (cd := cut_choice) (L := [0, 1, 2, 6, 7, 20, 23, 44, 55, 63, 79, 82, 113]) (by kernel_rfl) (by kernel_rfl) ⟨by rw [hl, Try.ntmps40]; decide, by rw [Try.ntmps40]; decide⟩ hv
def cut_choice_gos := And.intro @cut_choice_go (And.intro @cut_choice_r0_go (And.intro @cut_choice_r1_go (And.intro @cut_choice_r2_go (And.intro @cut_choice_r3_go (And.intro @cut_choice_r4_go (And.intro @cut_choice_r5_go (And.intro @cut_choice_r6_go (And.intro @cut_choice_r7_go (And.intro @cut_choice_r8_go (And.intro @cut_choice_r9_go (And.intro @cut_choice_r10_go (And.intro @cut_choice_r11_go (And.intro @cut_choice_r12_go (And.intro @cut_choice_r13_go (And.intro @cut_choice_r14_go (And.intro @cut_choice_r15_go (And.intro @cut_choice_r16_go (And.intro @cut_choice_r17_go (And.intro @cut_choice_r18_go (And.intro @cut_choice_r19_go (And.intro @cut_choice_l0_go (@cut_choice_l1_go))))))))))))))))))))))

/-! (*jvmcore/jvmcoreref2.cut).one: function 26: slots [0, 2, 3, 4, 5, 6, 17, 28, 36, 37, 43, 48, 53, 70, 75, 80, 86, 96, 105, 114, 134, 139] -/
def cut_one_r0 : List Sop := [
  ⟨some (2, true), .alloc 35, 0, none, false⟩]
theorem cut_one_r0_go {K : Env → Heap → Prop} {τ ρ : Env} {h : Heap} : vcOps Try.prog K cut_one_r0 τ ρ h = vcOps Try.prog K [
  ⟨some (2, true), .alloc 35, 0, none, false⟩] τ ρ h := _root_.id rfl
def cut_one_r1 : List Sop := [
  ⟨some (7, false), .move (.tmp 0), 59, none, true⟩,
  ⟨some (8, false), .nilCheck (.tmp 7), 0, none, true⟩,
  ⟨some (9, false), .fieldAddr 61 (.tmp 8) 1, 0, none, true⟩,
  ⟨some (10, false), .load 3 (.tmp 9), 3, none, true⟩,
  ⟨some (11, false), .build 35 #[(0, .tmp 10)], 35, none, true⟩,
  ⟨some (3, true), .alloc 35, 0, none, false⟩,
  ⟨none, .store 35 (.tmp 3) (.tmp 11), 0, none, false⟩]
theorem cut_one_r1_go {K : Env → Heap → Prop} {τ ρ : Env} {h : Heap} : vcOps Try.prog K cut_one_r1 τ ρ h = vcOps Try.prog K [
  ⟨some (7, false), .move (.tmp 0), 59, none, true⟩,
  ⟨some (8, false), .nilCheck (.tmp 7), 0, none, true⟩,
  ⟨some (9, false), .fieldAddr 61 (.tmp 8) 1, 0, none, true⟩,
  ⟨some (10, false), .load 3 (.tmp 9), 3, none, true⟩,
  ⟨some (11, false), .build 35 #[(0, .tmp 10)], 35, none, true⟩,
  ⟨some (3, true), .alloc 35, 0, none, false⟩,
  ⟨none, .store 35 (.tmp 3) (.tmp 11), 0, none, false⟩] τ ρ h := _root_.id rfl
def cut_one_r2 : List Sop := [
  ⟨some (12, false), .move (.tmp 0), 59, none, true⟩,
  ⟨some (13, false), .call { callee := .value (.func 38), args := #[.tmp 12, .const (.int .i64 1)], argTypes := #[59, 3] }, 3, none, false⟩,
  ⟨some (4, true), .assign (.tmp 13), 3, none, true⟩]
theorem cut_one_r2_go {K : Env → Heap → Prop} {τ ρ : Env} {h : Heap} : vcOps Try.prog K cut_one_r2 τ ρ h = vcOps Try.prog K [
  ⟨some (12, false), .move (.tmp 0), 59, none, true⟩,
  ⟨some (13, false), .call { callee := .value (.func 38), args := #[.tmp 12, .const (.int .i64 1)], argTypes := #[59, 3] }, 3, none, false⟩,
  ⟨some (4, true), .assign (.tmp 13), 3, none, true⟩] τ ρ h := _root_.id rfl
def cut_one_r3 : List Sop := [
  ⟨some (14, false), .move (.tmp 4), 3, none, true⟩,
  ⟨some (15, false), .call { callee := .value (.func 16), args := #[.tmp 14], argTypes := #[3] }, 9, none, false⟩,
  ⟨some (5, true), .assign (.tmp 15), 9, none, true⟩]
theorem cut_one_r3_go {K : Env → Heap → Prop} {τ ρ : Env} {h : Heap} : vcOps Try.prog K cut_one_r3 τ ρ h = vcOps Try.prog K [
  ⟨some (14, false), .move (.tmp 4), 3, none, true⟩,
  ⟨some (15, false), .call { callee := .value (.func 16), args := #[.tmp 14], argTypes := #[3] }, 9, none, false⟩,
  ⟨some (5, true), .assign (.tmp 15), 9, none, true⟩] τ ρ h := _root_.id rfl
def cut_one_r4 : List Sop := [
  ⟨some (6, true), .assign (.const (.int .i64 1)), 3, none, true⟩]
theorem cut_one_r4_go {K : Env → Heap → Prop} {τ ρ : Env} {h : Heap} : vcOps Try.prog K cut_one_r4 τ ρ h = vcOps Try.prog K [
  ⟨some (6, true), .assign (.const (.int .i64 1)), 3, none, true⟩] τ ρ h := _root_.id rfl
def cut_one_r5 : List Sop := [
  ⟨some (16, false), .move (.tmp 5), 9, none, true⟩,
  ⟨some (17, true), .binOp .eql 9 (.tmp 16) (.const (.string { data := #[119] })) 9, 4, none, true⟩]
theorem cut_one_r5_go {K : Env → Heap → Prop} {τ ρ : Env} {h : Heap} : vcOps Try.prog K cut_one_r5 τ ρ h = vcOps Try.prog K [
  ⟨some (16, false), .move (.tmp 5), 9, none, true⟩,
  ⟨some (17, true), .binOp .eql 9 (.tmp 16) (.const (.string { data := #[119] })) 9, 4, none, true⟩] τ ρ h := _root_.id rfl
def cut_one_r6 : List Sop := [
  ⟨some (18, false), .fieldAddr 35 (.tmp 3) 2, 0, none, true⟩,
  ⟨none, .store 4 (.tmp 18) (.const (.bool true)), 0, none, false⟩]
theorem cut_one_r6_go {K : Env → Heap → Prop} {τ ρ : Env} {h : Heap} : vcOps Try.prog K cut_one_r6 τ ρ h = vcOps Try.prog K [
  ⟨some (18, false), .fieldAddr 35 (.tmp 3) 2, 0, none, true⟩,
  ⟨none, .store 4 (.tmp 18) (.const (.bool true)), 0, none, false⟩] τ ρ h := _root_.id rfl
def cut_one_r7 : List Sop := [
  ⟨some (6, true), .assign (.const (.int .i64 2)), 3, none, true⟩]
theorem cut_one_r7_go {K : Env → Heap → Prop} {τ ρ : Env} {h : Heap} : vcOps Try.prog K cut_one_r7 τ ρ h = vcOps Try.prog K [
  ⟨some (6, true), .assign (.const (.int .i64 2)), 3, none, true⟩] τ ρ h := _root_.id rfl
def cut_one_r8 : List Sop := [
  ⟨some (19, false), .move (.tmp 0), 59, none, true⟩,
  ⟨some (20, false), .call { callee := .value (.func 38), args := #[.tmp 19, .const (.int .i64 1)], argTypes := #[59, 3] }, 3, none, false⟩,
  ⟨some (4, true), .assign (.tmp 20), 3, none, true⟩]
theorem cut_one_r8_go {K : Env → Heap → Prop} {τ ρ : Env} {h : Heap} : vcOps Try.prog K cut_one_r8 τ ρ h = vcOps Try.prog K [
  ⟨some (19, false), .move (.tmp 0), 59, none, true⟩,
  ⟨some (20, false), .call { callee := .value (.func 38), args := #[.tmp 19, .const (.int .i64 1)], argTypes := #[59, 3] }, 3, none, false⟩,
  ⟨some (4, true), .assign (.tmp 20), 3, none, true⟩] τ ρ h := _root_.id rfl
def cut_one_r9 : List Sop := [
  ⟨some (21, false), .move (.tmp 4), 3, none, true⟩,
  ⟨some (22, false), .call { callee := .value (.func 16), args := #[.tmp 21], argTypes := #[3] }, 9, none, false⟩,
  ⟨some (5, true), .assign (.tmp 22), 9, none, true⟩]
theorem cut_one_r9_go {K : Env → Heap → Prop} {τ ρ : Env} {h : Heap} : vcOps Try.prog K cut_one_r9 τ ρ h = vcOps Try.prog K [
  ⟨some (21, false), .move (.tmp 4), 3, none, true⟩,
  ⟨some (22, false), .call { callee := .value (.func 16), args := #[.tmp 21], argTypes := #[3] }, 9, none, false⟩,
  ⟨some (5, true), .assign (.tmp 22), 9, none, true⟩] τ ρ h := _root_.id rfl
def cut_one_r10 : List Sop := [
  ⟨some (23, false), .move (.tmp 5), 9, none, true⟩,
  ⟨some (24, false), .binOp .neq 9 (.tmp 23) (.const (.string { data := #[108] })) 9, 4, none, true⟩,
  ⟨some (25, false), .move (.tmp 24), 4, none, true⟩,
  ⟨some (26, false), .move (.tmp 5), 9, some (25, true), true⟩,
  ⟨some (27, false), .binOp .neq 9 (.tmp 26) (.const (.string { data := #[110] })) 9, 4, some (25, true), true⟩,
  ⟨some (28, true), .pick (.tmp 25) (.tmp 27) (.const (.bool false)), 4, none, true⟩]
theorem cut_one_r10_go {K : Env → Heap → Prop} {τ ρ : Env} {h : Heap} : vcOps Try.prog K cut_one_r10 τ ρ h = vcOps Try.prog K [
  ⟨some (23, false), .move (.tmp 5), 9, none, true⟩,
  ⟨some (24, false), .binOp .neq 9 (.tmp 23) (.const (.string { data := #[108] })) 9, 4, none, true⟩,
  ⟨some (25, false), .move (.tmp 24), 4, none, true⟩,
  ⟨some (26, false), .move (.tmp 5), 9, some (25, true), true⟩,
  ⟨some (27, false), .binOp .neq 9 (.tmp 26) (.const (.string { data := #[110] })) 9, 4, some (25, true), true⟩,
  ⟨some (28, true), .pick (.tmp 25) (.tmp 27) (.const (.bool false)), 4, none, true⟩] τ ρ h := _root_.id rfl
def cut_one_r11 : List Sop := [
  ⟨some (29, false), .move (.tmp 0), 59, none, true⟩,
  ⟨some (30, false), .fieldAddr 35 (.tmp 3) 0, 0, none, true⟩,
  ⟨some (31, false), .load 3 (.tmp 30), 3, none, true⟩,
  ⟨some (32, false), .call { callee := .value (.func 27), args := #[.tmp 29, .const (.int .i64 14), .tmp 31], argTypes := #[59, 25, 3] }, 0, none, false⟩]
theorem cut_one_r11_go {K : Env → Heap → Prop} {τ ρ : Env} {h : Heap} : vcOps Try.prog K cut_one_r11 τ ρ h = vcOps Try.prog K [
  ⟨some (29, false), .move (.tmp 0), 59, none, true⟩,
  ⟨some (30, false), .fieldAddr 35 (.tmp 3) 0, 0, none, true⟩,
  ⟨some (31, false), .load 3 (.tmp 30), 3, none, true⟩,
  ⟨some (32, false), .call { callee := .value (.func 27), args := #[.tmp 29, .const (.int .i64 14), .tmp 31], argTypes := #[59, 25, 3] }, 0, none, false⟩] τ ρ h := _root_.id rfl
def cut_one_r12 : List Sop := [
  ⟨some (5, true), .assign (.const (.string { data := #[46] })), 9, none, true⟩]
theorem cut_one_r12_go {K : Env → Heap → Prop} {τ ρ : Env} {h : Heap} : vcOps Try.prog K cut_one_r12 τ ρ h = vcOps Try.prog K [
  ⟨some (5, true), .assign (.const (.string { data := #[46] })), 9, none, true⟩] τ ρ h := _root_.id rfl
def cut_one_r13 : List Sop := [
  ⟨some (33, false), .move (.tmp 4), 3, none, true⟩,
  ⟨some (34, false), .convert 3 5 (.tmp 33), 5, none, true⟩,
  ⟨some (35, false), .fieldAddr 35 (.tmp 3) 1, 0, none, true⟩,
  ⟨none, .store 5 (.tmp 35) (.tmp 34), 0, none, false⟩]
theorem cut_one_r13_go {K : Env → Heap → Prop} {τ ρ : Env} {h : Heap} : vcOps Try.prog K cut_one_r13 τ ρ h = vcOps Try.prog K [
  ⟨some (33, false), .move (.tmp 4), 3, none, true⟩,
  ⟨some (34, false), .convert 3 5 (.tmp 33), 5, none, true⟩,
  ⟨some (35, false), .fieldAddr 35 (.tmp 3) 1, 0, none, true⟩,
  ⟨none, .store 5 (.tmp 35) (.tmp 34), 0, none, false⟩] τ ρ h := _root_.id rfl
def cut_one_r14 : List Sop := [
  ⟨some (36, true), .move (.tmp 5), 9, none, true⟩]
theorem cut_one_r14_go {K : Env → Heap → Prop} {τ ρ : Env} {h : Heap} : vcOps Try.prog K cut_one_r14 τ ρ h = vcOps Try.prog K [
  ⟨some (36, true), .move (.tmp 5), 9, none, true⟩] τ ρ h := _root_.id rfl
def cut_one_r15 : List Sop := [
  ⟨some (38, false), .binOp .eql 9 (.tmp 36) (.const (.string { data := #[120] })) 9, 4, none, true⟩,
  ⟨some (37, true), .assign (.tmp 38), 4, none, true⟩]
theorem cut_one_r15_go {K : Env → Heap → Prop} {τ ρ : Env} {h : Heap} : vcOps Try.prog K cut_one_r15 τ ρ h = vcOps Try.prog K [
  ⟨some (38, false), .binOp .eql 9 (.tmp 36) (.const (.string { data := #[120] })) 9, 4, none, true⟩,
  ⟨some (37, true), .assign (.tmp 38), 4, none, true⟩] τ ρ h := _root_.id rfl
def cut_one_r16 : List Sop := [
  ⟨some (39, false), .move (.tmp 0), 59, none, true⟩,
  ⟨some (40, false), .fieldAddr 35 (.tmp 3) 0, 0, none, true⟩,
  ⟨some (41, false), .load 3 (.tmp 40), 3, none, true⟩,
  ⟨some (42, false), .call { callee := .value (.func 27), args := #[.tmp 39, .const (.int .i64 14), .tmp 41], argTypes := #[59, 25, 3] }, 0, none, false⟩]
theorem cut_one_r16_go {K : Env → Heap → Prop} {τ ρ : Env} {h : Heap} : vcOps Try.prog K cut_one_r16 τ ρ h = vcOps Try.prog K [
  ⟨some (39, false), .move (.tmp 0), 59, none, true⟩,
  ⟨some (40, false), .fieldAddr 35 (.tmp 3) 0, 0, none, true⟩,
  ⟨some (41, false), .load 3 (.tmp 40), 3, none, true⟩,
  ⟨some (42, false), .call { callee := .value (.func 27), args := #[.tmp 39, .const (.int .i64 14), .tmp 41], argTypes := #[59, 25, 3] }, 0, none, false⟩] τ ρ h := _root_.id rfl
def cut_one_r17 : List Sop := [
  ⟨some (44, false), .binOp .eql 9 (.tmp 36) (.const (.string { data := #[98] })) 9, 4, none, true⟩,
  ⟨some (43, true), .assign (.tmp 44), 4, none, true⟩]
theorem cut_one_r17_go {K : Env → Heap → Prop} {τ ρ : Env} {h : Heap} : vcOps Try.prog K cut_one_r17 τ ρ h = vcOps Try.prog K [
  ⟨some (44, false), .binOp .eql 9 (.tmp 36) (.const (.string { data := #[98] })) 9, 4, none, true⟩,
  ⟨some (43, true), .assign (.tmp 44), 4, none, true⟩] τ ρ h := _root_.id rfl
def cut_one_r18 : List Sop := [
  ⟨some (45, false), .move (.tmp 0), 59, none, true⟩,
  ⟨some (46, false), .call { callee := .value (.func 39), args := #[.tmp 45, .const (.int .i64 1)], argTypes := #[59, 3] }, 3, none, false⟩,
  ⟨some (47, false), .fieldAddr 35 (.tmp 3) 3, 0, none, true⟩,
  ⟨none, .store 3 (.tmp 47) (.tmp 46), 0, none, false⟩]
theorem cut_one_r18_go {K : Env → Heap → Prop} {τ ρ : Env} {h : Heap} : vcOps Try.prog K cut_one_r18 τ ρ h = vcOps Try.prog K [
  ⟨some (45, false), .move (.tmp 0), 59, none, true⟩,
  ⟨some (46, false), .call { callee := .value (.func 39), args := #[.tmp 45, .const (.int .i64 1)], argTypes := #[59, 3] }, 3, none, false⟩,
  ⟨some (47, false), .fieldAddr 35 (.tmp 3) 3, 0, none, true⟩,
  ⟨none, .store 3 (.tmp 47) (.tmp 46), 0, none, false⟩] τ ρ h := _root_.id rfl
def cut_one_r19 : List Sop := [
  ⟨some (49, false), .binOp .eql 9 (.tmp 36) (.const (.string { data := #[115] })) 9, 4, none, true⟩,
  ⟨some (48, true), .assign (.tmp 49), 4, none, true⟩]
theorem cut_one_r19_go {K : Env → Heap → Prop} {τ ρ : Env} {h : Heap} : vcOps Try.prog K cut_one_r19 τ ρ h = vcOps Try.prog K [
  ⟨some (49, false), .binOp .eql 9 (.tmp 36) (.const (.string { data := #[115] })) 9, 4, none, true⟩,
  ⟨some (48, true), .assign (.tmp 49), 4, none, true⟩] τ ρ h := _root_.id rfl
def cut_one_r20 : List Sop := [
  ⟨some (50, false), .move (.tmp 0), 59, none, true⟩,
  ⟨some (51, false), .call { callee := .value (.func 39), args := #[.tmp 50, .const (.int .i64 2)], argTypes := #[59, 3] }, 3, none, false⟩,
  ⟨some (52, false), .fieldAddr 35 (.tmp 3) 3, 0, none, true⟩,
  ⟨none, .store 3 (.tmp 52) (.tmp 51), 0, none, false⟩]
theorem cut_one_r20_go {K : Env → Heap → Prop} {τ ρ : Env} {h : Heap} : vcOps Try.prog K cut_one_r20 τ ρ h = vcOps Try.prog K [
  ⟨some (50, false), .move (.tmp 0), 59, none, true⟩,
  ⟨some (51, false), .call { callee := .value (.func 39), args := #[.tmp 50, .const (.int .i64 2)], argTypes := #[59, 3] }, 3, none, false⟩,
  ⟨some (52, false), .fieldAddr 35 (.tmp 3) 3, 0, none, true⟩,
  ⟨none, .store 3 (.tmp 52) (.tmp 51), 0, none, false⟩] τ ρ h := _root_.id rfl
def cut_one_r21 : List Sop := [
  ⟨some (54, false), .binOp .eql 9 (.tmp 36) (.const (.string { data := #[99] })) 9, 4, none, true⟩,
  ⟨some (53, true), .assign (.tmp 54), 4, none, true⟩]
theorem cut_one_r21_go {K : Env → Heap → Prop} {τ ρ : Env} {h : Heap} : vcOps Try.prog K cut_one_r21 τ ρ h = vcOps Try.prog K [
  ⟨some (54, false), .binOp .eql 9 (.tmp 36) (.const (.string { data := #[99] })) 9, 4, none, true⟩,
  ⟨some (53, true), .assign (.tmp 54), 4, none, true⟩] τ ρ h := _root_.id rfl
def cut_one_r22 : List Sop := [
  ⟨some (55, false), .binOp .eql 9 (.tmp 36) (.const (.string { data := #[97] })) 9, 4, none, true⟩,
  ⟨some (53, true), .assign (.tmp 55), 4, none, true⟩]
theorem cut_one_r22_go {K : Env → Heap → Prop} {τ ρ : Env} {h : Heap} : vcOps Try.prog K cut_one_r22 τ ρ h = vcOps Try.prog K [
  ⟨some (55, false), .binOp .eql 9 (.tmp 36) (.const (.string { data := #[97] })) 9, 4, none, true⟩,
  ⟨some (53, true), .assign (.tmp 55), 4, none, true⟩] τ ρ h := _root_.id rfl
def cut_one_r23 : List Sop := [
  ⟨some (56, false), .move (.tmp 0), 59, none, true⟩,
  ⟨some (57, false), .call { callee := .value (.func 38), args := #[.tmp 56, .const (.int .i64 1)], argTypes := #[59, 3] }, 3, none, false⟩,
  ⟨some (58, false), .fieldAddr 35 (.tmp 3) 3, 0, none, true⟩,
  ⟨none, .store 3 (.tmp 58) (.tmp 57), 0, none, false⟩]
theorem cut_one_r23_go {K : Env → Heap → Prop} {τ ρ : Env} {h : Heap} : vcOps Try.prog K cut_one_r23 τ ρ h = vcOps Try.prog K [
  ⟨some (56, false), .move (.tmp 0), 59, none, true⟩,
  ⟨some (57, false), .call { callee := .value (.func 38), args := #[.tmp 56, .const (.int .i64 1)], argTypes := #[59, 3] }, 3, none, false⟩,
  ⟨some (58, false), .fieldAddr 35 (.tmp 3) 3, 0, none, true⟩,
  ⟨none, .store 3 (.tmp 58) (.tmp 57), 0, none, false⟩] τ ρ h := _root_.id rfl
def cut_one_r24 : List Sop := [
  ⟨some (59, false), .move (.tmp 5), 9, none, true⟩,
  ⟨some (60, false), .binOp .eql 9 (.tmp 59) (.const (.string { data := #[97] })) 9, 4, none, true⟩,
  ⟨some (61, false), .move (.tmp 60), 4, none, true⟩,
  ⟨some (62, false), .fieldAddr 35 (.tmp 3) 3, 0, some (61, true), true⟩,
  ⟨some (63, false), .load 3 (.tmp 62), 3, some (61, true), true⟩,
  ⟨some (64, false), .binOp .lss 3 (.tmp 63) (.const (.int .i64 4)) 3, 4, some (61, true), true⟩,
  ⟨some (65, false), .move (.tmp 64), 4, some (61, true), true⟩,
  ⟨some (66, false), .fieldAddr 35 (.tmp 3) 3, 0, some (65, false), true⟩,
  ⟨some (67, false), .load 3 (.tmp 66), 3, some (65, false), true⟩,
  ⟨some (68, false), .binOp .gtr 3 (.tmp 67) (.const (.int .i64 11)) 3, 4, some (65, false), true⟩,
  ⟨some (69, false), .pick (.tmp 65) (.const (.bool true)) (.tmp 68), 4, some (61, true), true⟩,
  ⟨some (70, true), .pick (.tmp 61) (.tmp 69) (.const (.bool false)), 4, none, true⟩]
theorem cut_one_r24_go {K : Env → Heap → Prop} {τ ρ : Env} {h : Heap} : vcOps Try.prog K cut_one_r24 τ ρ h = vcOps Try.prog K [
  ⟨some (59, false), .move (.tmp 5), 9, none, true⟩,
  ⟨some (60, false), .binOp .eql 9 (.tmp 59) (.const (.string { data := #[97] })) 9, 4, none, true⟩,
  ⟨some (61, false), .move (.tmp 60), 4, none, true⟩,
  ⟨some (62, false), .fieldAddr 35 (.tmp 3) 3, 0, some (61, true), true⟩,
  ⟨some (63, false), .load 3 (.tmp 62), 3, some (61, true), true⟩,
  ⟨some (64, false), .binOp .lss 3 (.tmp 63) (.const (.int .i64 4)) 3, 4, some (61, true), true⟩,
  ⟨some (65, false), .move (.tmp 64), 4, some (61, true), true⟩,
  ⟨some (66, false), .fieldAddr 35 (.tmp 3) 3, 0, some (65, false), true⟩,
  ⟨some (67, false), .load 3 (.tmp 66), 3, some (65, false), true⟩,
  ⟨some (68, false), .binOp .gtr 3 (.tmp 67) (.const (.int .i64 11)) 3, 4, some (65, false), true⟩,
  ⟨some (69, false), .pick (.tmp 65) (.const (.bool true)) (.tmp 68), 4, some (61, true), true⟩,
  ⟨some (70, true), .pick (.tmp 61) (.tmp 69) (.const (.bool false)), 4, none, true⟩] τ ρ h := _root_.id rfl
def cut_one_r25 : List Sop := [
  ⟨some (71, false), .move (.tmp 0), 59, none, true⟩,
  ⟨some (72, false), .fieldAddr 35 (.tmp 3) 0, 0, none, true⟩,
  ⟨some (73, false), .load 3 (.tmp 72), 3, none, true⟩,
  ⟨some (74, false), .call { callee := .value (.func 27), args := #[.tmp 71, .const (.int .i64 15), .tmp 73], argTypes := #[59, 25, 3] }, 0, none, false⟩]
theorem cut_one_r25_go {K : Env → Heap → Prop} {τ ρ : Env} {h : Heap} : vcOps Try.prog K cut_one_r25 τ ρ h = vcOps Try.prog K [
  ⟨some (71, false), .move (.tmp 0), 59, none, true⟩,
  ⟨some (72, false), .fieldAddr 35 (.tmp 3) 0, 0, none, true⟩,
  ⟨some (73, false), .load 3 (.tmp 72), 3, none, true⟩,
  ⟨some (74, false), .call { callee := .value (.func 27), args := #[.tmp 71, .const (.int .i64 15), .tmp 73], argTypes := #[59, 25, 3] }, 0, none, false⟩] τ ρ h := _root_.id rfl
def cut_one_r26 : List Sop := [
  ⟨some (76, false), .binOp .eql 9 (.tmp 36) (.const (.string { data := #[105] })) 9, 4, none, true⟩,
  ⟨some (75, true), .assign (.tmp 76), 4, none, true⟩]
theorem cut_one_r26_go {K : Env → Heap → Prop} {τ ρ : Env} {h : Heap} : vcOps Try.prog K cut_one_r26 τ ρ h = vcOps Try.prog K [
  ⟨some (76, false), .binOp .eql 9 (.tmp 36) (.const (.string { data := #[105] })) 9, 4, none, true⟩,
  ⟨some (75, true), .assign (.tmp 76), 4, none, true⟩] τ ρ h := _root_.id rfl
def cut_one_r27 : List Sop := [
  ⟨some (77, false), .move (.tmp 0), 59, none, true⟩,
  ⟨some (78, false), .call { callee := .value (.func 38), args := #[.tmp 77, .const (.int .i64 2)], argTypes := #[59, 3] }, 3, none, false⟩,
  ⟨some (79, false), .fieldAddr 35 (.tmp 3) 3, 0, none, true⟩,
  ⟨none, .store 3 (.tmp 79) (.tmp 78), 0, none, false⟩]
theorem cut_one_r27_go {K : Env → Heap → Prop} {τ ρ : Env} {h : Heap} : vcOps Try.prog K cut_one_r27 τ ρ h = vcOps Try.prog K [
  ⟨some (77, false), .move (.tmp 0), 59, none, true⟩,
  ⟨some (78, false), .call { callee := .value (.func 38), args := #[.tmp 77, .const (.int .i64 2)], argTypes := #[59, 3] }, 3, none, false⟩,
  ⟨some (79, false), .fieldAddr 35 (.tmp 3) 3, 0, none, true⟩,
  ⟨none, .store 3 (.tmp 79) (.tmp 78), 0, none, false⟩] τ ρ h := _root_.id rfl
def cut_one_r28 : List Sop := [
  ⟨some (81, false), .binOp .eql 9 (.tmp 36) (.const (.string { data := #[108] })) 9, 4, none, true⟩,
  ⟨some (80, true), .assign (.tmp 81), 4, none, true⟩]
theorem cut_one_r28_go {K : Env → Heap → Prop} {τ ρ : Env} {h : Heap} : vcOps Try.prog K cut_one_r28 τ ρ h = vcOps Try.prog K [
  ⟨some (81, false), .binOp .eql 9 (.tmp 36) (.const (.string { data := #[108] })) 9, 4, none, true⟩,
  ⟨some (80, true), .assign (.tmp 81), 4, none, true⟩] τ ρ h := _root_.id rfl
def cut_one_r29 : List Sop := [
  ⟨some (82, false), .move (.tmp 0), 59, none, true⟩,
  ⟨some (83, false), .move (.tmp 6), 3, none, true⟩,
  ⟨some (84, false), .call { callee := .value (.func 38), args := #[.tmp 82, .tmp 83], argTypes := #[59, 3] }, 3, none, false⟩,
  ⟨some (85, false), .fieldAddr 35 (.tmp 3) 3, 0, none, true⟩,
  ⟨none, .store 3 (.tmp 85) (.tmp 84), 0, none, false⟩]
theorem cut_one_r29_go {K : Env → Heap → Prop} {τ ρ : Env} {h : Heap} : vcOps Try.prog K cut_one_r29 τ ρ h = vcOps Try.prog K [
  ⟨some (82, false), .move (.tmp 0), 59, none, true⟩,
  ⟨some (83, false), .move (.tmp 6), 3, none, true⟩,
  ⟨some (84, false), .call { callee := .value (.func 38), args := #[.tmp 82, .tmp 83], argTypes := #[59, 3] }, 3, none, false⟩,
  ⟨some (85, false), .fieldAddr 35 (.tmp 3) 3, 0, none, true⟩,
  ⟨none, .store 3 (.tmp 85) (.tmp 84), 0, none, false⟩] τ ρ h := _root_.id rfl
def cut_one_r30 : List Sop := [
  ⟨some (87, false), .binOp .eql 9 (.tmp 36) (.const (.string { data := #[110] })) 9, 4, none, true⟩,
  ⟨some (86, true), .assign (.tmp 87), 4, none, true⟩]
theorem cut_one_r30_go {K : Env → Heap → Prop} {τ ρ : Env} {h : Heap} : vcOps Try.prog K cut_one_r30 τ ρ h = vcOps Try.prog K [
  ⟨some (87, false), .binOp .eql 9 (.tmp 36) (.const (.string { data := #[110] })) 9, 4, none, true⟩,
  ⟨some (86, true), .assign (.tmp 87), 4, none, true⟩] τ ρ h := _root_.id rfl
def cut_one_r31 : List Sop := [
  ⟨some (88, false), .move (.tmp 0), 59, none, true⟩,
  ⟨some (89, false), .move (.tmp 6), 3, none, true⟩,
  ⟨some (90, false), .call { callee := .value (.func 38), args := #[.tmp 88, .tmp 89], argTypes := #[59, 3] }, 3, none, false⟩,
  ⟨some (91, false), .fieldAddr 35 (.tmp 3) 3, 0, none, true⟩,
  ⟨none, .store 3 (.tmp 91) (.tmp 90), 0, none, false⟩]
theorem cut_one_r31_go {K : Env → Heap → Prop} {τ ρ : Env} {h : Heap} : vcOps Try.prog K cut_one_r31 τ ρ h = vcOps Try.prog K [
  ⟨some (88, false), .move (.tmp 0), 59, none, true⟩,
  ⟨some (89, false), .move (.tmp 6), 3, none, true⟩,
  ⟨some (90, false), .call { callee := .value (.func 38), args := #[.tmp 88, .tmp 89], argTypes := #[59, 3] }, 3, none, false⟩,
  ⟨some (91, false), .fieldAddr 35 (.tmp 3) 3, 0, none, true⟩,
  ⟨none, .store 3 (.tmp 91) (.tmp 90), 0, none, false⟩] τ ρ h := _root_.id rfl
def cut_one_r32 : List Sop := [
  ⟨some (92, false), .move (.tmp 0), 59, none, true⟩,
  ⟨some (93, false), .move (.tmp 6), 3, none, true⟩,
  ⟨some (94, false), .call { callee := .value (.func 39), args := #[.tmp 92, .tmp 93], argTypes := #[59, 3] }, 3, none, false⟩,
  ⟨some (95, false), .fieldAddr 35 (.tmp 3) 4, 0, none, true⟩,
  ⟨none, .store 3 (.tmp 95) (.tmp 94), 0, none, false⟩]
theorem cut_one_r32_go {K : Env → Heap → Prop} {τ ρ : Env} {h : Heap} : vcOps Try.prog K cut_one_r32 τ ρ h = vcOps Try.prog K [
  ⟨some (92, false), .move (.tmp 0), 59, none, true⟩,
  ⟨some (93, false), .move (.tmp 6), 3, none, true⟩,
  ⟨some (94, false), .call { callee := .value (.func 39), args := #[.tmp 92, .tmp 93], argTypes := #[59, 3] }, 3, none, false⟩,
  ⟨some (95, false), .fieldAddr 35 (.tmp 3) 4, 0, none, true⟩,
  ⟨none, .store 3 (.tmp 95) (.tmp 94), 0, none, false⟩] τ ρ h := _root_.id rfl
def cut_one_r33 : List Sop := [
  ⟨some (97, false), .binOp .eql 9 (.tmp 36) (.const (.string { data := #[106] })) 9, 4, none, true⟩,
  ⟨some (96, true), .assign (.tmp 97), 4, none, true⟩]
theorem cut_one_r33_go {K : Env → Heap → Prop} {τ ρ : Env} {h : Heap} : vcOps Try.prog K cut_one_r33 τ ρ h = vcOps Try.prog K [
  ⟨some (97, false), .binOp .eql 9 (.tmp 36) (.const (.string { data := #[106] })) 9, 4, none, true⟩,
  ⟨some (96, true), .assign (.tmp 97), 4, none, true⟩] τ ρ h := _root_.id rfl
def cut_one_r34 : List (Sop × List Sop) := [
  (⟨some (98, false), .fieldAddr 35 (.tmp 3) 0, 0, none, true⟩, []),
  (⟨some (99, false), .load 3 (.tmp 98), 3, none, true⟩, []),
  (⟨some (100, false), .move (.tmp 0), 59, none, true⟩, []),
  (⟨some (101, false), .call { callee := .value (.func 39), args := #[.tmp 100, .const (.int .i64 2)], argTypes := #[59, 3] }, 3, none, false⟩, [⟨some (98, false), .fieldAddr 35 (.tmp 3) 0, 0, none, true⟩, ⟨some (99, false), .load 3 (.tmp 98), 3, none, true⟩]),
  (⟨some (102, false), .binOp .add 3 (.tmp 99) (.tmp 101) 3, 3, none, true⟩, []),
  (⟨some (103, false), .buildSlice 33 1 #[(0, .tmp 102)], 33, none, false⟩, []),
  (⟨some (104, false), .fieldAddr 35 (.tmp 3) 7, 0, none, true⟩, []),
  (⟨none, .store 33 (.tmp 104) (.tmp 103), 0, none, false⟩, [])]
theorem cut_one_r34_go {K : Env → Heap → Prop} {τ ρ : Env} {h : Heap} : vcDraw Try.prog K cut_one_r34 τ ρ h = vcDraw Try.prog K [
  (⟨some (98, false), .fieldAddr 35 (.tmp 3) 0, 0, none, true⟩, []),
  (⟨some (99, false), .load 3 (.tmp 98), 3, none, true⟩, []),
  (⟨some (100, false), .move (.tmp 0), 59, none, true⟩, []),
  (⟨some (101, false), .call { callee := .value (.func 39), args := #[.tmp 100, .const (.int .i64 2)], argTypes := #[59, 3] }, 3, none, false⟩, [⟨some (98, false), .fieldAddr 35 (.tmp 3) 0, 0, none, true⟩, ⟨some (99, false), .load 3 (.tmp 98), 3, none, true⟩]),
  (⟨some (102, false), .binOp .add 3 (.tmp 99) (.tmp 101) 3, 3, none, true⟩, []),
  (⟨some (103, false), .buildSlice 33 1 #[(0, .tmp 102)], 33, none, false⟩, []),
  (⟨some (104, false), .fieldAddr 35 (.tmp 3) 7, 0, none, true⟩, []),
  (⟨none, .store 33 (.tmp 104) (.tmp 103), 0, none, false⟩, [])] τ ρ h := _root_.id rfl
def cut_one_r35 : List Sop := [
  ⟨some (106, false), .binOp .eql 9 (.tmp 36) (.const (.string { data := #[74] })) 9, 4, none, true⟩,
  ⟨some (105, true), .assign (.tmp 106), 4, none, true⟩]
theorem cut_one_r35_go {K : Env → Heap → Prop} {τ ρ : Env} {h : Heap} : vcOps Try.prog K cut_one_r35 τ ρ h = vcOps Try.prog K [
  ⟨some (106, false), .binOp .eql 9 (.tmp 36) (.const (.string { data := #[74] })) 9, 4, none, true⟩,
  ⟨some (105, true), .assign (.tmp 106), 4, none, true⟩] τ ρ h := _root_.id rfl
def cut_one_r36 : List (Sop × List Sop) := [
  (⟨some (107, false), .fieldAddr 35 (.tmp 3) 0, 0, none, true⟩, []),
  (⟨some (108, false), .load 3 (.tmp 107), 3, none, true⟩, []),
  (⟨some (109, false), .move (.tmp 0), 59, none, true⟩, []),
  (⟨some (110, false), .call { callee := .value (.func 39), args := #[.tmp 109, .const (.int .i64 4)], argTypes := #[59, 3] }, 3, none, false⟩, [⟨some (107, false), .fieldAddr 35 (.tmp 3) 0, 0, none, true⟩, ⟨some (108, false), .load 3 (.tmp 107), 3, none, true⟩]),
  (⟨some (111, false), .binOp .add 3 (.tmp 108) (.tmp 110) 3, 3, none, true⟩, []),
  (⟨some (112, false), .buildSlice 33 1 #[(0, .tmp 111)], 33, none, false⟩, []),
  (⟨some (113, false), .fieldAddr 35 (.tmp 3) 7, 0, none, true⟩, []),
  (⟨none, .store 33 (.tmp 113) (.tmp 112), 0, none, false⟩, [])]
theorem cut_one_r36_go {K : Env → Heap → Prop} {τ ρ : Env} {h : Heap} : vcDraw Try.prog K cut_one_r36 τ ρ h = vcDraw Try.prog K [
  (⟨some (107, false), .fieldAddr 35 (.tmp 3) 0, 0, none, true⟩, []),
  (⟨some (108, false), .load 3 (.tmp 107), 3, none, true⟩, []),
  (⟨some (109, false), .move (.tmp 0), 59, none, true⟩, []),
  (⟨some (110, false), .call { callee := .value (.func 39), args := #[.tmp 109, .const (.int .i64 4)], argTypes := #[59, 3] }, 3, none, false⟩, [⟨some (107, false), .fieldAddr 35 (.tmp 3) 0, 0, none, true⟩, ⟨some (108, false), .load 3 (.tmp 107), 3, none, true⟩]),
  (⟨some (111, false), .binOp .add 3 (.tmp 108) (.tmp 110) 3, 3, none, true⟩, []),
  (⟨some (112, false), .buildSlice 33 1 #[(0, .tmp 111)], 33, none, false⟩, []),
  (⟨some (113, false), .fieldAddr 35 (.tmp 3) 7, 0, none, true⟩, []),
  (⟨none, .store 33 (.tmp 113) (.tmp 112), 0, none, false⟩, [])] τ ρ h := _root_.id rfl
def cut_one_r37 : List Sop := [
  ⟨some (115, false), .binOp .eql 9 (.tmp 36) (.const (.string { data := #[102] })) 9, 4, none, true⟩,
  ⟨some (114, true), .assign (.tmp 115), 4, none, true⟩]
theorem cut_one_r37_go {K : Env → Heap → Prop} {τ ρ : Env} {h : Heap} : vcOps Try.prog K cut_one_r37 τ ρ h = vcOps Try.prog K [
  ⟨some (115, false), .binOp .eql 9 (.tmp 36) (.const (.string { data := #[102] })) 9, 4, none, true⟩,
  ⟨some (114, true), .assign (.tmp 115), 4, none, true⟩] τ ρ h := _root_.id rfl
def cut_one_r38 : List Sop := [
  ⟨some (116, false), .binOp .eql 9 (.tmp 36) (.const (.string { data := #[109] })) 9, 4, none, true⟩,
  ⟨some (114, true), .assign (.tmp 116), 4, none, true⟩]
theorem cut_one_r38_go {K : Env → Heap → Prop} {τ ρ : Env} {h : Heap} : vcOps Try.prog K cut_one_r38 τ ρ h = vcOps Try.prog K [
  ⟨some (116, false), .binOp .eql 9 (.tmp 36) (.const (.string { data := #[109] })) 9, 4, none, true⟩,
  ⟨some (114, true), .assign (.tmp 116), 4, none, true⟩] τ ρ h := _root_.id rfl
def cut_one_r39 : List Sop := [
  ⟨some (117, false), .move (.tmp 0), 59, none, true⟩,
  ⟨some (118, false), .call { callee := .value (.func 38), args := #[.tmp 117, .const (.int .i64 2)], argTypes := #[59, 3] }, 3, none, false⟩,
  ⟨some (119, false), .fieldAddr 35 (.tmp 3) 3, 0, none, true⟩,
  ⟨none, .store 3 (.tmp 119) (.tmp 118), 0, none, false⟩]
theorem cut_one_r39_go {K : Env → Heap → Prop} {τ ρ : Env} {h : Heap} : vcOps Try.prog K cut_one_r39 τ ρ h = vcOps Try.prog K [
  ⟨some (117, false), .move (.tmp 0), 59, none, true⟩,
  ⟨some (118, false), .call { callee := .value (.func 38), args := #[.tmp 117, .const (.int .i64 2)], argTypes := #[59, 3] }, 3, none, false⟩,
  ⟨some (119, false), .fieldAddr 35 (.tmp 3) 3, 0, none, true⟩,
  ⟨none, .store 3 (.tmp 119) (.tmp 118), 0, none, false⟩] τ ρ h := _root_.id rfl
def cut_one_r40 : List Sop := [
  ⟨some (120, false), .move (.tmp 0), 59, none, true⟩,
  ⟨some (121, false), .call { callee := .value (.func 38), args := #[.tmp 120, .const (.int .i64 1)], argTypes := #[59, 3] }, 3, none, false⟩,
  ⟨some (122, false), .fieldAddr 35 (.tmp 3) 4, 0, none, true⟩,
  ⟨none, .store 3 (.tmp 122) (.tmp 121), 0, none, false⟩]
theorem cut_one_r40_go {K : Env → Heap → Prop} {τ ρ : Env} {h : Heap} : vcOps Try.prog K cut_one_r40 τ ρ h = vcOps Try.prog K [
  ⟨some (120, false), .move (.tmp 0), 59, none, true⟩,
  ⟨some (121, false), .call { callee := .value (.func 38), args := #[.tmp 120, .const (.int .i64 1)], argTypes := #[59, 3] }, 3, none, false⟩,
  ⟨some (122, false), .fieldAddr 35 (.tmp 3) 4, 0, none, true⟩,
  ⟨none, .store 3 (.tmp 122) (.tmp 121), 0, none, false⟩] τ ρ h := _root_.id rfl
def cut_one_r41 : List Sop := [
  ⟨some (123, false), .move (.tmp 5), 9, none, true⟩,
  ⟨some (124, false), .binOp .eql 9 (.tmp 123) (.const (.string { data := #[102] })) 9, 4, none, true⟩,
  ⟨some (125, false), .move (.tmp 124), 4, none, true⟩,
  ⟨some (126, false), .move (.tmp 0), 59, some (125, true), true⟩,
  ⟨some (127, false), .call { callee := .value (.func 38), args := #[.tmp 126, .const (.int .i64 1)], argTypes := #[59, 3] }, 3, some (125, true), false⟩,
  ⟨some (128, false), .binOp .neq 3 (.tmp 127) (.const (.int .i64 0)) 3, 4, some (125, true), true⟩,
  ⟨some (129, false), .pick (.tmp 125) (.tmp 128) (.const (.bool false)), 4, none, true⟩,
  ⟨some (130, false), .move (.tmp 129), 4, none, true⟩,
  ⟨some (131, false), .fieldAddr 35 (.tmp 3) 4, 0, some (130, false), true⟩,
  ⟨some (132, false), .load 3 (.tmp 131), 3, some (130, false), true⟩,
  ⟨some (133, false), .binOp .eql 3 (.tmp 132) (.const (.int .i64 0)) 3, 4, some (130, false), true⟩,
  ⟨some (134, true), .pick (.tmp 130) (.const (.bool true)) (.tmp 133), 4, none, true⟩]
theorem cut_one_r41_go {K : Env → Heap → Prop} {τ ρ : Env} {h : Heap} : vcOps Try.prog K cut_one_r41 τ ρ h = vcOps Try.prog K [
  ⟨some (123, false), .move (.tmp 5), 9, none, true⟩,
  ⟨some (124, false), .binOp .eql 9 (.tmp 123) (.const (.string { data := #[102] })) 9, 4, none, true⟩,
  ⟨some (125, false), .move (.tmp 124), 4, none, true⟩,
  ⟨some (126, false), .move (.tmp 0), 59, some (125, true), true⟩,
  ⟨some (127, false), .call { callee := .value (.func 38), args := #[.tmp 126, .const (.int .i64 1)], argTypes := #[59, 3] }, 3, some (125, true), false⟩,
  ⟨some (128, false), .binOp .neq 3 (.tmp 127) (.const (.int .i64 0)) 3, 4, some (125, true), true⟩,
  ⟨some (129, false), .pick (.tmp 125) (.tmp 128) (.const (.bool false)), 4, none, true⟩,
  ⟨some (130, false), .move (.tmp 129), 4, none, true⟩,
  ⟨some (131, false), .fieldAddr 35 (.tmp 3) 4, 0, some (130, false), true⟩,
  ⟨some (132, false), .load 3 (.tmp 131), 3, some (130, false), true⟩,
  ⟨some (133, false), .binOp .eql 3 (.tmp 132) (.const (.int .i64 0)) 3, 4, some (130, false), true⟩,
  ⟨some (134, true), .pick (.tmp 130) (.const (.bool true)) (.tmp 133), 4, none, true⟩] τ ρ h := _root_.id rfl
def cut_one_r42 : List Sop := [
  ⟨some (135, false), .move (.tmp 0), 59, none, true⟩,
  ⟨some (136, false), .fieldAddr 35 (.tmp 3) 0, 0, none, true⟩,
  ⟨some (137, false), .load 3 (.tmp 136), 3, none, true⟩,
  ⟨some (138, false), .call { callee := .value (.func 27), args := #[.tmp 135, .const (.int .i64 15), .tmp 137], argTypes := #[59, 25, 3] }, 0, none, false⟩]
theorem cut_one_r42_go {K : Env → Heap → Prop} {τ ρ : Env} {h : Heap} : vcOps Try.prog K cut_one_r42 τ ρ h = vcOps Try.prog K [
  ⟨some (135, false), .move (.tmp 0), 59, none, true⟩,
  ⟨some (136, false), .fieldAddr 35 (.tmp 3) 0, 0, none, true⟩,
  ⟨some (137, false), .load 3 (.tmp 136), 3, none, true⟩,
  ⟨some (138, false), .call { callee := .value (.func 27), args := #[.tmp 135, .const (.int .i64 15), .tmp 137], argTypes := #[59, 25, 3] }, 0, none, false⟩] τ ρ h := _root_.id rfl
def cut_one_r43 : List Sop := [
  ⟨some (140, false), .binOp .eql 9 (.tmp 36) (.const (.string { data := #[116] })) 9, 4, none, true⟩,
  ⟨some (139, true), .assign (.tmp 140), 4, none, true⟩]
theorem cut_one_r43_go {K : Env → Heap → Prop} {τ ρ : Env} {h : Heap} : vcOps Try.prog K cut_one_r43 τ ρ h = vcOps Try.prog K [
  ⟨some (140, false), .binOp .eql 9 (.tmp 36) (.const (.string { data := #[116] })) 9, 4, none, true⟩,
  ⟨some (139, true), .assign (.tmp 140), 4, none, true⟩] τ ρ h := _root_.id rfl
def cut_one_r44 : List Sop := [
  ⟨some (141, false), .binOp .eql 9 (.tmp 36) (.const (.string { data := #[107] })) 9, 4, none, true⟩,
  ⟨some (139, true), .assign (.tmp 141), 4, none, true⟩]
theorem cut_one_r44_go {K : Env → Heap → Prop} {τ ρ : Env} {h : Heap} : vcOps Try.prog K cut_one_r44 τ ρ h = vcOps Try.prog K [
  ⟨some (141, false), .binOp .eql 9 (.tmp 36) (.const (.string { data := #[107] })) 9, 4, none, true⟩,
  ⟨some (139, true), .assign (.tmp 141), 4, none, true⟩] τ ρ h := _root_.id rfl
def cut_one_r45 : List Sop := [
  ⟨some (142, false), .move (.tmp 0), 59, none, true⟩,
  ⟨some (143, false), .move (.tmp 5), 9, none, true⟩,
  ⟨some (144, false), .binOp .eql 9 (.tmp 143) (.const (.string { data := #[107] })) 9, 4, none, true⟩,
  ⟨some (145, false), .call { callee := .value (.func 40), args := #[.tmp 142, .tmp 3, .tmp 144], argTypes := #[59, 71, 4] }, 0, none, false⟩]
theorem cut_one_r45_go {K : Env → Heap → Prop} {τ ρ : Env} {h : Heap} : vcOps Try.prog K cut_one_r45 τ ρ h = vcOps Try.prog K [
  ⟨some (142, false), .move (.tmp 0), 59, none, true⟩,
  ⟨some (143, false), .move (.tmp 5), 9, none, true⟩,
  ⟨some (144, false), .binOp .eql 9 (.tmp 143) (.const (.string { data := #[107] })) 9, 4, none, true⟩,
  ⟨some (145, false), .call { callee := .value (.func 40), args := #[.tmp 142, .tmp 3, .tmp 144], argTypes := #[59, 71, 4] }, 0, none, false⟩] τ ρ h := _root_.id rfl
def cut_one_r46 : List Sop := [
  ⟨some (146, false), .load 35 (.tmp 3), 35, none, true⟩,
  ⟨none, .store 35 (.tmp 2) (.tmp 146), 0, none, false⟩]
theorem cut_one_r46_go {K : Env → Heap → Prop} {τ ρ : Env} {h : Heap} : vcOps Try.prog K cut_one_r46 τ ρ h = vcOps Try.prog K [
  ⟨some (146, false), .load 35 (.tmp 3), 35, none, true⟩,
  ⟨none, .store 35 (.tmp 2) (.tmp 146), 0, none, false⟩] τ ρ h := _root_.id rfl
def cut_one_t0 : Cd := .seq (.seq (.region cut_one_r14) (.block 0 (.seq (.region cut_one_r15) (.cond (.tmp 37) (.region cut_one_r16) (.seq (.region cut_one_r17) (.cond (.tmp 43) (.region cut_one_r18) (.seq (.region cut_one_r19) (.cond (.tmp 48) (.region cut_one_r20) (.seq (.seq (.region cut_one_r21) (.cond (.tmp 53) (.skip) (.region cut_one_r22))) (.cond (.tmp 53) (.seq (.region cut_one_r23) (.seq (.region cut_one_r24) (.cond (.tmp 70) (.region cut_one_r25) (.skip)))) (.seq (.region cut_one_r26) (.cond (.tmp 75) (.region cut_one_r27) (.seq (.region cut_one_r28) (.cond (.tmp 80) (.region cut_one_r29) (.seq (.region cut_one_r30) (.cond (.tmp 86) (.seq (.region cut_one_r31) (.region cut_one_r32)) (.seq (.region cut_one_r33) (.cond (.tmp 96) (.draw cut_one_r34) (.seq (.region cut_one_r35) (.cond (.tmp 105) (.draw cut_one_r36) (.seq (.seq (.region cut_one_r37) (.cond (.tmp 114) (.skip) (.region cut_one_r38))) (.cond (.tmp 114) (.seq (.region cut_one_r39) (.seq (.region cut_one_r40) (.seq (.region cut_one_r41) (.cond (.tmp 134) (.region cut_one_r42) (.skip))))) (.seq (.seq (.region cut_one_r43) (.cond (.tmp 139) (.skip) (.region cut_one_r44))) (.cond (.tmp 139) (.region cut_one_r45) (.skip))))))))))))))))))))))))) (.seq (.region cut_one_r46) (.ret))
theorem cut_one_t0_go {Q : Ex → Env → Heap → Prop} {ρ : Env} {h : Heap} : Cd.vc Try.prog cut_one_t0 Q ρ h = Cd.vc Try.prog (.seq (.seq (.region cut_one_r14) (.block 0 (.seq (.region cut_one_r15) (.cond (.tmp 37) (.region cut_one_r16) (.seq (.region cut_one_r17) (.cond (.tmp 43) (.region cut_one_r18) (.seq (.region cut_one_r19) (.cond (.tmp 48) (.region cut_one_r20) (.seq (.seq (.region cut_one_r21) (.cond (.tmp 53) (.skip) (.region cut_one_r22))) (.cond (.tmp 53) (.seq (.region cut_one_r23) (.seq (.region cut_one_r24) (.cond (.tmp 70) (.region cut_one_r25) (.skip)))) (.seq (.region cut_one_r26) (.cond (.tmp 75) (.region cut_one_r27) (.seq (.region cut_one_r28) (.cond (.tmp 80) (.region cut_one_r29) (.seq (.region cut_one_r30) (.cond (.tmp 86) (.seq (.region cut_one_r31) (.region cut_one_r32)) (.seq (.region cut_one_r33) (.cond (.tmp 96) (.draw cut_one_r34) (.seq (.region cut_one_r35) (.cond (.tmp 105) (.draw cut_one_r36) (.seq (.seq (.region cut_one_r37) (.cond (.tmp 114) (.skip) (.region cut_one_r38))) (.cond (.tmp 114) (.seq (.region cut_one_r39) (.seq (.region cut_one_r40) (.seq (.region cut_one_r41) (.cond (.tmp 134) (.region cut_one_r42) (.skip))))) (.seq (.seq (.region cut_one_r43) (.cond (.tmp 139) (.skip) (.region cut_one_r44))) (.cond (.tmp 139) (.region cut_one_r45) (.skip))))))))))))))))))))))))) (.seq (.region cut_one_r46) (.ret))) Q ρ h := _root_.id rfl
def cut_one : Cd := .seq (.region cut_one_r0) (.seq (.region cut_one_r1) (.seq (.region cut_one_r2) (.seq (.region cut_one_r3) (.seq (.region cut_one_r4) (.seq (.seq (.region cut_one_r5) (.cond (.tmp 17) (.seq (.region cut_one_r6) (.seq (.region cut_one_r7) (.seq (.region cut_one_r8) (.seq (.region cut_one_r9) (.seq (.region cut_one_r10) (.cond (.tmp 28) (.seq (.region cut_one_r11) (.region cut_one_r12)) (.skip))))))) (.skip))) (.seq (.region cut_one_r13) (cut_one_t0)))))))
theorem cut_one_go {Q : Ex → Env → Heap → Prop} {ρ : Env} {h : Heap} : Cd.vc Try.prog cut_one Q ρ h = Cd.vc Try.prog (.seq (.region cut_one_r0) (.seq (.region cut_one_r1) (.seq (.region cut_one_r2) (.seq (.region cut_one_r3) (.seq (.region cut_one_r4) (.seq (.seq (.region cut_one_r5) (.cond (.tmp 17) (.seq (.region cut_one_r6) (.seq (.region cut_one_r7) (.seq (.region cut_one_r8) (.seq (.region cut_one_r9) (.seq (.region cut_one_r10) (.cond (.tmp 28) (.seq (.region cut_one_r11) (.region cut_one_r12)) (.skip))))))) (.skip))) (.seq (.region cut_one_r13) (cut_one_t0)))))))) Q ρ h := _root_.id rfl
theorem cut_one_calls {args : List Value} {h : Heap} {R : Value → Heap → Prop} (hl : args.length = 1) (hv : Cd.vc Try.prog cut_one (retQ Try.prog [(2, some 35)] R) (initEnv args [0, 2, 3, 4, 5, 6, 17, 28, 36, 37, 43, 48, 53, 70, 75, 80, 86, 96, 105, 114, 134, 139]) h) : HCalls Try.prog 26 args.toArray h R :=
  hcalls_of_vc (by kernel_rfl) Try.func26 (cd := cut_one) (L := [0, 2, 3, 4, 5, 6, 17, 28, 36, 37, 43, 48, 53, 70, 75, 80, 86, 96, 105, 114, 134, 139]) (by kernel_rfl) (by kernel_rfl) ⟨by rw [hl, Try.ntmps26]; decide, by rw [Try.ntmps26]; decide⟩ hv
def cut_one_gos := And.intro @cut_one_go (And.intro @cut_one_r0_go (And.intro @cut_one_r1_go (And.intro @cut_one_r2_go (And.intro @cut_one_r3_go (And.intro @cut_one_r4_go (And.intro @cut_one_r5_go (And.intro @cut_one_r6_go (And.intro @cut_one_r7_go (And.intro @cut_one_r8_go (And.intro @cut_one_r9_go (And.intro @cut_one_r10_go (And.intro @cut_one_r11_go (And.intro @cut_one_r12_go (And.intro @cut_one_r13_go (And.intro @cut_one_r14_go (And.intro @cut_one_r15_go (And.intro @cut_one_r16_go (And.intro @cut_one_r17_go (And.intro @cut_one_r18_go (And.intro @cut_one_r19_go (And.intro @cut_one_r20_go (And.intro @cut_one_r21_go (And.intro @cut_one_r22_go (And.intro @cut_one_r23_go (And.intro @cut_one_r24_go (And.intro @cut_one_r25_go (And.intro @cut_one_r26_go (And.intro @cut_one_r27_go (And.intro @cut_one_r28_go (And.intro @cut_one_r29_go (And.intro @cut_one_r30_go (And.intro @cut_one_r31_go (And.intro @cut_one_r32_go (And.intro @cut_one_r33_go (And.intro @cut_one_r34_go (And.intro @cut_one_r35_go (And.intro @cut_one_r36_go (And.intro @cut_one_r37_go (And.intro @cut_one_r38_go (And.intro @cut_one_r39_go (And.intro @cut_one_r40_go (And.intro @cut_one_r41_go (And.intro @cut_one_r42_go (And.intro @cut_one_r43_go (And.intro @cut_one_r44_go (And.intro @cut_one_r45_go (@cut_one_r46_go)))))))))))))))))))))))))))))))))))))))))))))))

/-! jvmcore/jvmcoreref2.Decode: function 12: slots [0, 2, 3, 4, 5, 6, 7, 9, 11, 19, 39, 51, 52, 53, 54, 58, 59, 60, 61, 78, 89] -/
def ref2_Decode_r0 : List Sop := [
  ⟨some (2, true), .assign (.const (.slice none 0 0)), 22, none, true⟩,
  ⟨some (3, true), .assign (.const (.int .i64 0)), 25, none, true⟩,
  ⟨some (4, true), .assign (.const (.int .i64 0)), 3, none, true⟩]
theorem ref2_Decode_r0_go {K : Env → Heap → Prop} {τ ρ : Env} {h : Heap} : vcOps Try.prog K ref2_Decode_r0 τ ρ h = vcOps Try.prog K [
  ⟨some (2, true), .assign (.const (.slice none 0 0)), 22, none, true⟩,
  ⟨some (3, true), .assign (.const (.int .i64 0)), 25, none, true⟩,
  ⟨some (4, true), .assign (.const (.int .i64 0)), 3, none, true⟩] τ ρ h := _root_.id rfl
def ref2_Decode_r1 : List Sop := [
  ⟨some (12, false), .move (.tmp 0), 9, none, true⟩,
  ⟨some (13, false), .call { callee := .builtin .len, args := #[.tmp 12], argTypes := #[9] }, 3, none, true⟩,
  ⟨some (14, false), .binOp .lss 3 (.tmp 13) (.const (.int .i64 1)) 3, 4, none, true⟩,
  ⟨some (15, false), .move (.tmp 14), 4, none, true⟩,
  ⟨some (16, false), .move (.tmp 0), 9, some (15, false), true⟩,
  ⟨some (17, false), .call { callee := .builtin .len, args := #[.tmp 16], argTypes := #[9] }, 3, some (15, false), true⟩,
  ⟨some (18, false), .binOp .gtr 3 (.tmp 17) (.const (.int .i64 65535)) 3, 4, some (15, false), true⟩,
  ⟨some (19, true), .pick (.tmp 15) (.const (.bool true)) (.tmp 18), 4, none, true⟩]
theorem ref2_Decode_r1_go {K : Env → Heap → Prop} {τ ρ : Env} {h : Heap} : vcOps Try.prog K ref2_Decode_r1 τ ρ h = vcOps Try.prog K [
  ⟨some (12, false), .move (.tmp 0), 9, none, true⟩,
  ⟨some (13, false), .call { callee := .builtin .len, args := #[.tmp 12], argTypes := #[9] }, 3, none, true⟩,
  ⟨some (14, false), .binOp .lss 3 (.tmp 13) (.const (.int .i64 1)) 3, 4, none, true⟩,
  ⟨some (15, false), .move (.tmp 14), 4, none, true⟩,
  ⟨some (16, false), .move (.tmp 0), 9, some (15, false), true⟩,
  ⟨some (17, false), .call { callee := .builtin .len, args := #[.tmp 16], argTypes := #[9] }, 3, some (15, false), true⟩,
  ⟨some (18, false), .binOp .gtr 3 (.tmp 17) (.const (.int .i64 65535)) 3, 4, some (15, false), true⟩,
  ⟨some (19, true), .pick (.tmp 15) (.const (.bool true)) (.tmp 18), 4, none, true⟩] τ ρ h := _root_.id rfl
def ref2_Decode_r2 : List Sop := [
  ⟨some (2, true), .assign (.const (.slice none 0 0)), 22, none, true⟩,
  ⟨some (3, true), .assign (.const (.int .i64 12)), 25, none, true⟩,
  ⟨some (4, true), .assign (.const (.int .i64 0)), 3, none, true⟩]
theorem ref2_Decode_r2_go {K : Env → Heap → Prop} {τ ρ : Env} {h : Heap} : vcOps Try.prog K ref2_Decode_r2 τ ρ h = vcOps Try.prog K [
  ⟨some (2, true), .assign (.const (.slice none 0 0)), 22, none, true⟩,
  ⟨some (3, true), .assign (.const (.int .i64 12)), 25, none, true⟩,
  ⟨some (4, true), .assign (.const (.int .i64 0)), 3, none, true⟩] τ ρ h := _root_.id rfl
def ref2_Decode_r3 : List Sop := [
  ⟨some (20, false), .move (.tmp 0), 9, none, true⟩,
  ⟨some (21, false), .build 61 #[(0, .tmp 20)], 61, none, true⟩,
  ⟨some (22, false), .box 61 (.tmp 21), 59, none, false⟩,
  ⟨some (5, true), .assign (.tmp 22), 59, none, true⟩]
theorem ref2_Decode_r3_go {K : Env → Heap → Prop} {τ ρ : Env} {h : Heap} : vcOps Try.prog K ref2_Decode_r3 τ ρ h = vcOps Try.prog K [
  ⟨some (20, false), .move (.tmp 0), 9, none, true⟩,
  ⟨some (21, false), .build 61 #[(0, .tmp 20)], 61, none, true⟩,
  ⟨some (22, false), .box 61 (.tmp 21), 59, none, false⟩,
  ⟨some (5, true), .assign (.tmp 22), 59, none, true⟩] τ ρ h := _root_.id rfl
def ref2_Decode_r4 : List Sop := [
  ⟨some (23, false), .move (.tmp 0), 9, none, true⟩,
  ⟨some (24, false), .call { callee := .builtin .len, args := #[.tmp 23], argTypes := #[9] }, 3, none, true⟩,
  ⟨some (25, false), .makeSlice 47 (.tmp 24) (.tmp 24), 47, none, false⟩,
  ⟨some (6, true), .assign (.tmp 25), 47, none, true⟩]
theorem ref2_Decode_r4_go {K : Env → Heap → Prop} {τ ρ : Env} {h : Heap} : vcOps Try.prog K ref2_Decode_r4 τ ρ h = vcOps Try.prog K [
  ⟨some (23, false), .move (.tmp 0), 9, none, true⟩,
  ⟨some (24, false), .call { callee := .builtin .len, args := #[.tmp 23], argTypes := #[9] }, 3, none, true⟩,
  ⟨some (25, false), .makeSlice 47 (.tmp 24) (.tmp 24), 47, none, false⟩,
  ⟨some (6, true), .assign (.tmp 25), 47, none, true⟩] τ ρ h := _root_.id rfl
def ref2_Decode_r5 : List Sop := [
  ⟨some (7, true), .assign (.const (.slice none 0 0)), 22, none, true⟩]
theorem ref2_Decode_r5_go {K : Env → Heap → Prop} {τ ρ : Env} {h : Heap} : vcOps Try.prog K ref2_Decode_r5 τ ρ h = vcOps Try.prog K [
  ⟨some (7, true), .assign (.const (.slice none 0 0)), 22, none, true⟩] τ ρ h := _root_.id rfl
def ref2_Decode_r6 : List Sop := [
  ⟨some (26, false), .move (.tmp 5), 59, none, true⟩,
  ⟨some (27, false), .nilCheck (.tmp 26), 0, none, true⟩,
  ⟨some (28, false), .fieldAddr 61 (.tmp 27) 1, 0, none, true⟩,
  ⟨some (29, false), .load 3 (.tmp 28), 3, none, true⟩,
  ⟨some (30, false), .move (.tmp 0), 9, none, true⟩,
  ⟨some (31, false), .call { callee := .builtin .len, args := #[.tmp 30], argTypes := #[9] }, 3, none, true⟩,
  ⟨some (32, false), .binOp .lss 3 (.tmp 29) (.tmp 31) 3, 4, none, true⟩,
  ⟨some (33, false), .move (.tmp 32), 4, none, true⟩,
  ⟨some (34, false), .move (.tmp 5), 59, some (33, true), true⟩,
  ⟨some (35, false), .nilCheck (.tmp 34), 0, some (33, true), true⟩,
  ⟨some (36, false), .fieldAddr 61 (.tmp 35) 2, 0, some (33, true), true⟩,
  ⟨some (37, false), .load 25 (.tmp 36), 25, some (33, true), true⟩,
  ⟨some (38, false), .binOp .eql 25 (.tmp 37) (.const (.int .i64 0)) 25, 4, some (33, true), true⟩,
  ⟨some (39, true), .pick (.tmp 33) (.tmp 38) (.const (.bool false)), 4, none, true⟩]
theorem ref2_Decode_r6_go {K : Env → Heap → Prop} {τ ρ : Env} {h : Heap} : vcOps Try.prog K ref2_Decode_r6 τ ρ h = vcOps Try.prog K [
  ⟨some (26, false), .move (.tmp 5), 59, none, true⟩,
  ⟨some (27, false), .nilCheck (.tmp 26), 0, none, true⟩,
  ⟨some (28, false), .fieldAddr 61 (.tmp 27) 1, 0, none, true⟩,
  ⟨some (29, false), .load 3 (.tmp 28), 3, none, true⟩,
  ⟨some (30, false), .move (.tmp 0), 9, none, true⟩,
  ⟨some (31, false), .call { callee := .builtin .len, args := #[.tmp 30], argTypes := #[9] }, 3, none, true⟩,
  ⟨some (32, false), .binOp .lss 3 (.tmp 29) (.tmp 31) 3, 4, none, true⟩,
  ⟨some (33, false), .move (.tmp 32), 4, none, true⟩,
  ⟨some (34, false), .move (.tmp 5), 59, some (33, true), true⟩,
  ⟨some (35, false), .nilCheck (.tmp 34), 0, some (33, true), true⟩,
  ⟨some (36, false), .fieldAddr 61 (.tmp 35) 2, 0, some (33, true), true⟩,
  ⟨some (37, false), .load 25 (.tmp 36), 25, some (33, true), true⟩,
  ⟨some (38, false), .binOp .eql 25 (.tmp 37) (.const (.int .i64 0)) 25, 4, some (33, true), true⟩,
  ⟨some (39, true), .pick (.tmp 33) (.tmp 38) (.const (.bool false)), 4, none, true⟩] τ ρ h := _root_.id rfl
def ref2_Decode_r7 : List Sop := [
  ⟨some (40, false), .move (.tmp 6), 47, none, true⟩,
  ⟨some (41, false), .move (.tmp 5), 59, none, true⟩,
  ⟨some (42, false), .nilCheck (.tmp 41), 0, none, true⟩,
  ⟨some (43, false), .fieldAddr 61 (.tmp 42) 1, 0, none, true⟩,
  ⟨some (44, false), .load 3 (.tmp 43), 3, none, true⟩,
  ⟨some (45, false), .indexAddr 47 (.tmp 40) (.tmp 44), 0, none, true⟩,
  ⟨none, .store 4 (.tmp 45) (.const (.bool true)), 0, none, false⟩]
theorem ref2_Decode_r7_go {K : Env → Heap → Prop} {τ ρ : Env} {h : Heap} : vcOps Try.prog K ref2_Decode_r7 τ ρ h = vcOps Try.prog K [
  ⟨some (40, false), .move (.tmp 6), 47, none, true⟩,
  ⟨some (41, false), .move (.tmp 5), 59, none, true⟩,
  ⟨some (42, false), .nilCheck (.tmp 41), 0, none, true⟩,
  ⟨some (43, false), .fieldAddr 61 (.tmp 42) 1, 0, none, true⟩,
  ⟨some (44, false), .load 3 (.tmp 43), 3, none, true⟩,
  ⟨some (45, false), .indexAddr 47 (.tmp 40) (.tmp 44), 0, none, true⟩,
  ⟨none, .store 4 (.tmp 45) (.const (.bool true)), 0, none, false⟩] τ ρ h := _root_.id rfl
def ref2_Decode_r8 : List Sop := [
  ⟨some (46, false), .move (.tmp 7), 22, none, true⟩,
  ⟨some (47, false), .move (.tmp 5), 59, none, true⟩,
  ⟨some (48, false), .call { callee := .value (.func 26), args := #[.tmp 47], argTypes := #[59] }, 35, none, false⟩,
  ⟨some (49, false), .buildSlice 22 1 #[(0, .tmp 48)], 22, none, false⟩,
  ⟨some (50, false), .call { callee := .builtin .append, args := #[.tmp 46, .tmp 49], argTypes := #[22, 22] }, 22, none, false⟩,
  ⟨some (7, true), .assign (.tmp 50), 22, none, true⟩]
theorem ref2_Decode_r8_go {K : Env → Heap → Prop} {τ ρ : Env} {h : Heap} : vcOps Try.prog K ref2_Decode_r8 τ ρ h = vcOps Try.prog K [
  ⟨some (46, false), .move (.tmp 7), 22, none, true⟩,
  ⟨some (47, false), .move (.tmp 5), 59, none, true⟩,
  ⟨some (48, false), .call { callee := .value (.func 26), args := #[.tmp 47], argTypes := #[59] }, 35, none, false⟩,
  ⟨some (49, false), .buildSlice 22 1 #[(0, .tmp 48)], 22, none, false⟩,
  ⟨some (50, false), .call { callee := .builtin .append, args := #[.tmp 46, .tmp 49], argTypes := #[22, 22] }, 22, none, false⟩,
  ⟨some (7, true), .assign (.tmp 50), 22, none, true⟩] τ ρ h := _root_.id rfl
def ref2_Decode_r9 : List Sop := [
  ⟨some (51, true), .move (.tmp 7), 22, none, true⟩,
  ⟨some (52, true), .call { callee := .builtin .len, args := #[.tmp 51], argTypes := #[22] }, 3, none, true⟩,
  ⟨some (53, true), .move (.const (.int .i64 0)), 3, none, true⟩]
theorem ref2_Decode_r9_go {K : Env → Heap → Prop} {τ ρ : Env} {h : Heap} : vcOps Try.prog K ref2_Decode_r9 τ ρ h = vcOps Try.prog K [
  ⟨some (51, true), .move (.tmp 7), 22, none, true⟩,
  ⟨some (52, true), .call { callee := .builtin .len, args := #[.tmp 51], argTypes := #[22] }, 3, none, true⟩,
  ⟨some (53, true), .move (.const (.int .i64 0)), 3, none, true⟩] τ ρ h := _root_.id rfl
def ref2_Decode_r10 : List Sop := [
  ⟨some (54, true), .binOp .lss 3 (.tmp 53) (.tmp 52) 3, 0, none, true⟩]
theorem ref2_Decode_r10_go {K : Env → Heap → Prop} {τ ρ : Env} {h : Heap} : vcOps Try.prog K ref2_Decode_r10 τ ρ h = vcOps Try.prog K [
  ⟨some (54, true), .binOp .lss 3 (.tmp 53) (.tmp 52) 3, 0, none, true⟩] τ ρ h := _root_.id rfl
def ref2_Decode_r11 : List Sop := [
  ⟨some (55, false), .indexAddr 22 (.tmp 51) (.tmp 53), 0, none, true⟩,
  ⟨some (56, false), .load 35 (.tmp 55), 35, none, true⟩,
  ⟨some (9, true), .alloc 35, 0, none, false⟩,
  ⟨none, .store 35 (.tmp 9) (.tmp 56), 0, none, false⟩]
theorem ref2_Decode_r11_go {K : Env → Heap → Prop} {τ ρ : Env} {h : Heap} : vcOps Try.prog K ref2_Decode_r11 τ ρ h = vcOps Try.prog K [
  ⟨some (55, false), .indexAddr 22 (.tmp 51) (.tmp 53), 0, none, true⟩,
  ⟨some (56, false), .load 35 (.tmp 55), 35, none, true⟩,
  ⟨some (9, true), .alloc 35, 0, none, false⟩,
  ⟨none, .store 35 (.tmp 9) (.tmp 56), 0, none, false⟩] τ ρ h := _root_.id rfl
def ref2_Decode_r12 : List Sop := [
  ⟨some (57, false), .fieldAddr 35 (.tmp 9) 7, 0, none, true⟩,
  ⟨some (58, true), .load 33 (.tmp 57), 33, none, true⟩,
  ⟨some (59, true), .call { callee := .builtin .len, args := #[.tmp 58], argTypes := #[33] }, 3, none, true⟩,
  ⟨some (60, true), .move (.const (.int .i64 0)), 3, none, true⟩]
theorem ref2_Decode_r12_go {K : Env → Heap → Prop} {τ ρ : Env} {h : Heap} : vcOps Try.prog K ref2_Decode_r12 τ ρ h = vcOps Try.prog K [
  ⟨some (57, false), .fieldAddr 35 (.tmp 9) 7, 0, none, true⟩,
  ⟨some (58, true), .load 33 (.tmp 57), 33, none, true⟩,
  ⟨some (59, true), .call { callee := .builtin .len, args := #[.tmp 58], argTypes := #[33] }, 3, none, true⟩,
  ⟨some (60, true), .move (.const (.int .i64 0)), 3, none, true⟩] τ ρ h := _root_.id rfl
def ref2_Decode_r13 : List Sop := [
  ⟨some (61, true), .binOp .lss 3 (.tmp 60) (.tmp 59) 3, 0, none, true⟩]
theorem ref2_Decode_r13_go {K : Env → Heap → Prop} {τ ρ : Env} {h : Heap} : vcOps Try.prog K ref2_Decode_r13 τ ρ h = vcOps Try.prog K [
  ⟨some (61, true), .binOp .lss 3 (.tmp 60) (.tmp 59) 3, 0, none, true⟩] τ ρ h := _root_.id rfl
def ref2_Decode_r14 : List Sop := [
  ⟨some (62, false), .indexAddr 33 (.tmp 58) (.tmp 60), 0, none, true⟩,
  ⟨some (63, false), .load 3 (.tmp 62), 3, none, true⟩,
  ⟨some (11, true), .assign (.tmp 63), 3, none, true⟩]
theorem ref2_Decode_r14_go {K : Env → Heap → Prop} {τ ρ : Env} {h : Heap} : vcOps Try.prog K ref2_Decode_r14 τ ρ h = vcOps Try.prog K [
  ⟨some (62, false), .indexAddr 33 (.tmp 58) (.tmp 60), 0, none, true⟩,
  ⟨some (63, false), .load 3 (.tmp 62), 3, none, true⟩,
  ⟨some (11, true), .assign (.tmp 63), 3, none, true⟩] τ ρ h := _root_.id rfl
def ref2_Decode_r15 : List Sop := [
  ⟨some (64, false), .move (.tmp 11), 3, none, true⟩,
  ⟨some (65, false), .binOp .lss 3 (.tmp 64) (.const (.int .i64 0)) 3, 4, none, true⟩,
  ⟨some (66, false), .move (.tmp 65), 4, none, true⟩,
  ⟨some (67, false), .move (.tmp 11), 3, some (66, false), true⟩,
  ⟨some (68, false), .move (.tmp 0), 9, some (66, false), true⟩,
  ⟨some (69, false), .call { callee := .builtin .len, args := #[.tmp 68], argTypes := #[9] }, 3, some (66, false), true⟩,
  ⟨some (70, false), .binOp .geq 3 (.tmp 67) (.tmp 69) 3, 4, some (66, false), true⟩,
  ⟨some (71, false), .pick (.tmp 66) (.const (.bool true)) (.tmp 70), 4, none, true⟩,
  ⟨some (72, false), .move (.tmp 71), 4, none, true⟩,
  ⟨some (73, false), .move (.tmp 6), 47, some (72, false), true⟩,
  ⟨some (74, false), .move (.tmp 11), 3, some (72, false), true⟩,
  ⟨some (75, false), .indexAddr 47 (.tmp 73) (.tmp 74), 0, some (72, false), true⟩,
  ⟨some (76, false), .load 4 (.tmp 75), 4, some (72, false), true⟩,
  ⟨some (77, false), .unOp .not 4 (.tmp 76), 4, some (72, false), true⟩,
  ⟨some (78, true), .pick (.tmp 72) (.const (.bool true)) (.tmp 77), 4, none, true⟩]
theorem ref2_Decode_r15_go {K : Env → Heap → Prop} {τ ρ : Env} {h : Heap} : vcOps Try.prog K ref2_Decode_r15 τ ρ h = vcOps Try.prog K [
  ⟨some (64, false), .move (.tmp 11), 3, none, true⟩,
  ⟨some (65, false), .binOp .lss 3 (.tmp 64) (.const (.int .i64 0)) 3, 4, none, true⟩,
  ⟨some (66, false), .move (.tmp 65), 4, none, true⟩,
  ⟨some (67, false), .move (.tmp 11), 3, some (66, false), true⟩,
  ⟨some (68, false), .move (.tmp 0), 9, some (66, false), true⟩,
  ⟨some (69, false), .call { callee := .builtin .len, args := #[.tmp 68], argTypes := #[9] }, 3, some (66, false), true⟩,
  ⟨some (70, false), .binOp .geq 3 (.tmp 67) (.tmp 69) 3, 4, some (66, false), true⟩,
  ⟨some (71, false), .pick (.tmp 66) (.const (.bool true)) (.tmp 70), 4, none, true⟩,
  ⟨some (72, false), .move (.tmp 71), 4, none, true⟩,
  ⟨some (73, false), .move (.tmp 6), 47, some (72, false), true⟩,
  ⟨some (74, false), .move (.tmp 11), 3, some (72, false), true⟩,
  ⟨some (75, false), .indexAddr 47 (.tmp 73) (.tmp 74), 0, some (72, false), true⟩,
  ⟨some (76, false), .load 4 (.tmp 75), 4, some (72, false), true⟩,
  ⟨some (77, false), .unOp .not 4 (.tmp 76), 4, some (72, false), true⟩,
  ⟨some (78, true), .pick (.tmp 72) (.const (.bool true)) (.tmp 77), 4, none, true⟩] τ ρ h := _root_.id rfl
def ref2_Decode_r16 : List Sop := [
  ⟨some (79, false), .move (.tmp 5), 59, none, true⟩,
  ⟨some (80, false), .fieldAddr 35 (.tmp 9) 0, 0, none, true⟩,
  ⟨some (81, false), .load 3 (.tmp 80), 3, none, true⟩,
  ⟨some (82, false), .call { callee := .value (.func 27), args := #[.tmp 79, .const (.int .i64 16), .tmp 81], argTypes := #[59, 25, 3] }, 0, none, false⟩]
theorem ref2_Decode_r16_go {K : Env → Heap → Prop} {τ ρ : Env} {h : Heap} : vcOps Try.prog K ref2_Decode_r16 τ ρ h = vcOps Try.prog K [
  ⟨some (79, false), .move (.tmp 5), 59, none, true⟩,
  ⟨some (80, false), .fieldAddr 35 (.tmp 9) 0, 0, none, true⟩,
  ⟨some (81, false), .load 3 (.tmp 80), 3, none, true⟩,
  ⟨some (82, false), .call { callee := .value (.func 27), args := #[.tmp 79, .const (.int .i64 16), .tmp 81], argTypes := #[59, 25, 3] }, 0, none, false⟩] τ ρ h := _root_.id rfl
def ref2_Decode_r17 : List Sop := [
  ⟨some (83, false), .binOp .add 3 (.tmp 60) (.const (.int .i64 1)) 3, 3, none, true⟩,
  ⟨some (60, true), .move (.tmp 83), 3, none, true⟩]
theorem ref2_Decode_r17_go {K : Env → Heap → Prop} {τ ρ : Env} {h : Heap} : vcOps Try.prog K ref2_Decode_r17 τ ρ h = vcOps Try.prog K [
  ⟨some (83, false), .binOp .add 3 (.tmp 60) (.const (.int .i64 1)) 3, 3, none, true⟩,
  ⟨some (60, true), .move (.tmp 83), 3, none, true⟩] τ ρ h := _root_.id rfl
def ref2_Decode_r18 : List Sop := [
  ⟨some (84, false), .binOp .add 3 (.tmp 53) (.const (.int .i64 1)) 3, 3, none, true⟩,
  ⟨some (53, true), .move (.tmp 84), 3, none, true⟩]
theorem ref2_Decode_r18_go {K : Env → Heap → Prop} {τ ρ : Env} {h : Heap} : vcOps Try.prog K ref2_Decode_r18 τ ρ h = vcOps Try.prog K [
  ⟨some (84, false), .binOp .add 3 (.tmp 53) (.const (.int .i64 1)) 3, 3, none, true⟩,
  ⟨some (53, true), .move (.tmp 84), 3, none, true⟩] τ ρ h := _root_.id rfl
def ref2_Decode_r19 : List Sop := [
  ⟨some (85, false), .move (.tmp 5), 59, none, true⟩,
  ⟨some (86, false), .nilCheck (.tmp 85), 0, none, true⟩,
  ⟨some (87, false), .fieldAddr 61 (.tmp 86) 2, 0, none, true⟩,
  ⟨some (88, false), .load 25 (.tmp 87), 25, none, true⟩,
  ⟨some (89, true), .binOp .neq 25 (.tmp 88) (.const (.int .i64 0)) 25, 4, none, true⟩]
theorem ref2_Decode_r19_go {K : Env → Heap → Prop} {τ ρ : Env} {h : Heap} : vcOps Try.prog K ref2_Decode_r19 τ ρ h = vcOps Try.prog K [
  ⟨some (85, false), .move (.tmp 5), 59, none, true⟩,
  ⟨some (86, false), .nilCheck (.tmp 85), 0, none, true⟩,
  ⟨some (87, false), .fieldAddr 61 (.tmp 86) 2, 0, none, true⟩,
  ⟨some (88, false), .load 25 (.tmp 87), 25, none, true⟩,
  ⟨some (89, true), .binOp .neq 25 (.tmp 88) (.const (.int .i64 0)) 25, 4, none, true⟩] τ ρ h := _root_.id rfl
def ref2_Decode_r20 : List (Sop × List Sop) := [
  (⟨some (90, false), .move (.tmp 5), 59, none, true⟩, []),
  (⟨some (91, false), .nilCheck (.tmp 90), 0, none, true⟩, []),
  (⟨some (92, false), .fieldAddr 61 (.tmp 91) 2, 0, none, true⟩, []),
  (⟨some (93, false), .load 25 (.tmp 92), 25, none, true⟩, []),
  (⟨some (94, false), .move (.tmp 5), 59, none, true⟩, []),
  (⟨some (95, false), .nilCheck (.tmp 94), 0, none, true⟩, []),
  (⟨some (96, false), .fieldAddr 61 (.tmp 95) 3, 0, none, true⟩, []),
  (⟨some (97, false), .load 3 (.tmp 96), 3, none, true⟩, []),
  (⟨some (2, true), .assign (.const (.slice none 0 0)), 22, none, true⟩, []),
  (⟨some (3, true), .assign (.tmp 93), 25, none, true⟩, []),
  (⟨some (4, true), .assign (.tmp 97), 3, none, true⟩, [])]
theorem ref2_Decode_r20_go {K : Env → Heap → Prop} {τ ρ : Env} {h : Heap} : vcDraw Try.prog K ref2_Decode_r20 τ ρ h = vcDraw Try.prog K [
  (⟨some (90, false), .move (.tmp 5), 59, none, true⟩, []),
  (⟨some (91, false), .nilCheck (.tmp 90), 0, none, true⟩, []),
  (⟨some (92, false), .fieldAddr 61 (.tmp 91) 2, 0, none, true⟩, []),
  (⟨some (93, false), .load 25 (.tmp 92), 25, none, true⟩, []),
  (⟨some (94, false), .move (.tmp 5), 59, none, true⟩, []),
  (⟨some (95, false), .nilCheck (.tmp 94), 0, none, true⟩, []),
  (⟨some (96, false), .fieldAddr 61 (.tmp 95) 3, 0, none, true⟩, []),
  (⟨some (97, false), .load 3 (.tmp 96), 3, none, true⟩, []),
  (⟨some (2, true), .assign (.const (.slice none 0 0)), 22, none, true⟩, []),
  (⟨some (3, true), .assign (.tmp 93), 25, none, true⟩, []),
  (⟨some (4, true), .assign (.tmp 97), 3, none, true⟩, [])] τ ρ h := _root_.id rfl
def ref2_Decode_r21 : List Sop := [
  ⟨some (98, false), .move (.tmp 7), 22, none, true⟩,
  ⟨some (2, true), .assign (.tmp 98), 22, none, true⟩,
  ⟨some (3, true), .assign (.const (.int .i64 0)), 25, none, true⟩,
  ⟨some (4, true), .assign (.const (.int .i64 0)), 3, none, true⟩]
theorem ref2_Decode_r21_go {K : Env → Heap → Prop} {τ ρ : Env} {h : Heap} : vcOps Try.prog K ref2_Decode_r21 τ ρ h = vcOps Try.prog K [
  ⟨some (98, false), .move (.tmp 7), 22, none, true⟩,
  ⟨some (2, true), .assign (.tmp 98), 22, none, true⟩,
  ⟨some (3, true), .assign (.const (.int .i64 0)), 25, none, true⟩,
  ⟨some (4, true), .assign (.const (.int .i64 0)), 3, none, true⟩] τ ρ h := _root_.id rfl
def ref2_Decode_l0 : Cd := .seq (.seq (.region ref2_Decode_r6) (.cond (.tmp 39) (.skip) (.exit 0))) (.block 1 (.seq (.region ref2_Decode_r7) (.region ref2_Decode_r8)))
theorem ref2_Decode_l0_go {Q : Ex → Env → Heap → Prop} {ρ : Env} {h : Heap} : Cd.vc Try.prog ref2_Decode_l0 Q ρ h = Cd.vc Try.prog (.seq (.seq (.region ref2_Decode_r6) (.cond (.tmp 39) (.skip) (.exit 0))) (.block 1 (.seq (.region ref2_Decode_r7) (.region ref2_Decode_r8)))) Q ρ h := _root_.id rfl
def ref2_Decode_l1 : Cd := .seq (.region ref2_Decode_r13) (.seq (.cond (.tmp 61) (.skip) (.exit 4)) (.seq (.block 5 (.seq (.region ref2_Decode_r14) (.seq (.region ref2_Decode_r15) (.cond (.tmp 78) (.region ref2_Decode_r16) (.skip))))) (.region ref2_Decode_r17)))
theorem ref2_Decode_l1_go {Q : Ex → Env → Heap → Prop} {ρ : Env} {h : Heap} : Cd.vc Try.prog ref2_Decode_l1 Q ρ h = Cd.vc Try.prog (.seq (.region ref2_Decode_r13) (.seq (.cond (.tmp 61) (.skip) (.exit 4)) (.seq (.block 5 (.seq (.region ref2_Decode_r14) (.seq (.region ref2_Decode_r15) (.cond (.tmp 78) (.region ref2_Decode_r16) (.skip))))) (.region ref2_Decode_r17)))) Q ρ h := _root_.id rfl
def ref2_Decode_l2 : Cd := .seq (.region ref2_Decode_r10) (.seq (.cond (.tmp 54) (.skip) (.exit 2)) (.seq (.block 3 (.seq (.region ref2_Decode_r11) (.seq (.region ref2_Decode_r12) (.block 4 (.loop ref2_Decode_l1))))) (.region ref2_Decode_r18)))
theorem ref2_Decode_l2_go {Q : Ex → Env → Heap → Prop} {ρ : Env} {h : Heap} : Cd.vc Try.prog ref2_Decode_l2 Q ρ h = Cd.vc Try.prog (.seq (.region ref2_Decode_r10) (.seq (.cond (.tmp 54) (.skip) (.exit 2)) (.seq (.block 3 (.seq (.region ref2_Decode_r11) (.seq (.region ref2_Decode_r12) (.block 4 (.loop ref2_Decode_l1))))) (.region ref2_Decode_r18)))) Q ρ h := _root_.id rfl
def ref2_Decode : Cd := .seq (.region ref2_Decode_r0) (.seq (.seq (.region ref2_Decode_r1) (.cond (.tmp 19) (.seq (.region ref2_Decode_r2) (.ret)) (.skip))) (.seq (.region ref2_Decode_r3) (.seq (.region ref2_Decode_r4) (.seq (.region ref2_Decode_r5) (.seq (.block 0 (.loop ref2_Decode_l0)) (.seq (.seq (.region ref2_Decode_r9) (.block 2 (.loop ref2_Decode_l2))) (.seq (.seq (.region ref2_Decode_r19) (.cond (.tmp 89) (.seq (.draw ref2_Decode_r20) (.ret)) (.skip))) (.seq (.region ref2_Decode_r21) (.ret)))))))))
theorem ref2_Decode_go {Q : Ex → Env → Heap → Prop} {ρ : Env} {h : Heap} : Cd.vc Try.prog ref2_Decode Q ρ h = Cd.vc Try.prog (.seq (.region ref2_Decode_r0) (.seq (.seq (.region ref2_Decode_r1) (.cond (.tmp 19) (.seq (.region ref2_Decode_r2) (.ret)) (.skip))) (.seq (.region ref2_Decode_r3) (.seq (.region ref2_Decode_r4) (.seq (.region ref2_Decode_r5) (.seq (.block 0 (.loop ref2_Decode_l0)) (.seq (.seq (.region ref2_Decode_r9) (.block 2 (.loop ref2_Decode_l2))) (.seq (.seq (.region ref2_Decode_r19) (.cond (.tmp 89) (.seq (.draw ref2_Decode_r20) (.ret)) (.skip))) (.seq (.region ref2_Decode_r21) (.ret)))))))))) Q ρ h := _root_.id rfl
theorem ref2_Decode_calls {args : List Value} {h : Heap} {R : Value → Heap → Prop} (hl : args.length = 1) (hv : Cd.vc Try.prog ref2_Decode (retQ Try.prog [(2, none), (3, none), (4, none)] R) (initEnv args [0, 2, 3, 4, 5, 6, 7, 9, 11, 19, 39, 51, 52, 53, 54, 58, 59, 60, 61, 78, 89]) h) : HCalls Try.prog 12 args.toArray h R :=
  hcalls_of_vc (by kernel_rfl) Try.func12 (cd := ref2_Decode) (L := [0, 2, 3, 4, 5, 6, 7, 9, 11, 19, 39, 51, 52, 53, 54, 58, 59, 60, 61, 78, 89]) (by kernel_rfl) (by kernel_rfl) ⟨by rw [hl, Try.ntmps12]; decide, by rw [Try.ntmps12]; decide⟩ hv
def ref2_Decode_gos := And.intro @ref2_Decode_go (And.intro @ref2_Decode_r0_go (And.intro @ref2_Decode_r1_go (And.intro @ref2_Decode_r2_go (And.intro @ref2_Decode_r3_go (And.intro @ref2_Decode_r4_go (And.intro @ref2_Decode_r5_go (And.intro @ref2_Decode_r6_go (And.intro @ref2_Decode_r7_go (And.intro @ref2_Decode_r8_go (And.intro @ref2_Decode_r9_go (And.intro @ref2_Decode_r10_go (And.intro @ref2_Decode_r11_go (And.intro @ref2_Decode_r12_go (And.intro @ref2_Decode_r13_go (And.intro @ref2_Decode_r14_go (And.intro @ref2_Decode_r15_go (And.intro @ref2_Decode_r16_go (And.intro @ref2_Decode_r17_go (And.intro @ref2_Decode_r18_go (And.intro @ref2_Decode_r19_go (And.intro @ref2_Decode_r20_go (And.intro @ref2_Decode_r21_go (And.intro @ref2_Decode_l0_go (And.intro @ref2_Decode_l1_go (@ref2_Decode_l2_go)))))))))))))))))))))))))

end Go.Proofs.Ytjpcpkhegjndeaa.C
