/- The stripped code of some functions of this seat's program, printed by a program; that it is that code is proved by the kernel. No condition. -/

import Derived.Test.YtnpgmbpialokcaaProg

import Derived.Test.YtnpgmbpialokcaaVcH

set_option maxRecDepth 100000

set_option linter.defProp false

namespace Go.Proofs.Ytnpgmbpialokcaa.C

open Go.Vc

/-! jvmcore/pool.Read: function 16: slots [0, 2, 3, 4, 5, 6, 7, 8, 9, 20] -/
def pool_Read_r0 : List Sop := [
  ⟨some (2, true), .assign (.const (.slice none 0 0)), 34, none, true⟩,
  ⟨some (3, true), .assign (.const (.int .i64 0)), 3, none, true⟩,
  ⟨some (4, true), .assign (.const (.int .i64 0)), 38, none, true⟩,
  ⟨some (5, true), .assign (.const (.int .i64 0)), 3, none, true⟩]
theorem pool_Read_r0_go {K : Env → Heap → Prop} {τ ρ : Env} {h : Heap} : vcOps Try.prog K pool_Read_r0 τ ρ h = vcOps Try.prog K [
  ⟨some (2, true), .assign (.const (.slice none 0 0)), 34, none, true⟩,
  ⟨some (3, true), .assign (.const (.int .i64 0)), 3, none, true⟩,
  ⟨some (4, true), .assign (.const (.int .i64 0)), 38, none, true⟩,
  ⟨some (5, true), .assign (.const (.int .i64 0)), 3, none, true⟩] τ ρ h := _root_.id rfl
def pool_Read_r1 : List Sop := [
  ⟨some (10, false), .move (.tmp 0), 9, none, true⟩,
  ⟨some (11, false), .call { callee := .value (.func 24), args := #[.tmp 10], argTypes := #[9] }, 52, none, false⟩,
  ⟨some (6, true), .assign (.tmp 11), 52, none, true⟩]
theorem pool_Read_r1_go {K : Env → Heap → Prop} {τ ρ : Env} {h : Heap} : vcOps Try.prog K pool_Read_r1 τ ρ h = vcOps Try.prog K [
  ⟨some (10, false), .move (.tmp 0), 9, none, true⟩,
  ⟨some (11, false), .call { callee := .value (.func 24), args := #[.tmp 10], argTypes := #[9] }, 52, none, false⟩,
  ⟨some (6, true), .assign (.tmp 11), 52, none, true⟩] τ ρ h := _root_.id rfl
def pool_Read_r2 : List Sop := [
  ⟨some (12, false), .move (.tmp 6), 52, none, true⟩,
  ⟨some (13, false), .call { callee := .value (.func 25), args := #[.tmp 12], argTypes := #[52] }, 34, none, false⟩,
  ⟨some (7, true), .assign (.tmp 13), 34, none, true⟩]
theorem pool_Read_r2_go {K : Env → Heap → Prop} {τ ρ : Env} {h : Heap} : vcOps Try.prog K pool_Read_r2 τ ρ h = vcOps Try.prog K [
  ⟨some (12, false), .move (.tmp 6), 52, none, true⟩,
  ⟨some (13, false), .call { callee := .value (.func 25), args := #[.tmp 12], argTypes := #[52] }, 34, none, false⟩,
  ⟨some (7, true), .assign (.tmp 13), 34, none, true⟩] τ ρ h := _root_.id rfl
def pool_Read_r3 : List Sop := [
  ⟨some (15, false), .move (.tmp 6), 52, none, true⟩,
  ⟨some (16, false), .call { callee := .value (.func 26), args := #[.tmp 15], argTypes := #[52] }, 55, none, false⟩,
  ⟨some (14, false), .move (.tmp 16), 55, none, true⟩,
  ⟨some (17, false), .extract (.tmp 14) 0, 38, none, true⟩,
  ⟨some (18, false), .extract (.tmp 14) 1, 3, none, true⟩,
  ⟨some (8, true), .assign (.tmp 17), 38, none, true⟩,
  ⟨some (9, true), .assign (.tmp 18), 3, none, true⟩]
theorem pool_Read_r3_go {K : Env → Heap → Prop} {τ ρ : Env} {h : Heap} : vcOps Try.prog K pool_Read_r3 τ ρ h = vcOps Try.prog K [
  ⟨some (15, false), .move (.tmp 6), 52, none, true⟩,
  ⟨some (16, false), .call { callee := .value (.func 26), args := #[.tmp 15], argTypes := #[52] }, 55, none, false⟩,
  ⟨some (14, false), .move (.tmp 16), 55, none, true⟩,
  ⟨some (17, false), .extract (.tmp 14) 0, 38, none, true⟩,
  ⟨some (18, false), .extract (.tmp 14) 1, 3, none, true⟩,
  ⟨some (8, true), .assign (.tmp 17), 38, none, true⟩,
  ⟨some (9, true), .assign (.tmp 18), 3, none, true⟩] τ ρ h := _root_.id rfl
def pool_Read_r4 : List Sop := [
  ⟨some (19, false), .move (.tmp 8), 38, none, true⟩,
  ⟨some (20, true), .binOp .neq 38 (.tmp 19) (.const (.int .i64 0)) 38, 4, none, true⟩]
theorem pool_Read_r4_go {K : Env → Heap → Prop} {τ ρ : Env} {h : Heap} : vcOps Try.prog K pool_Read_r4 τ ρ h = vcOps Try.prog K [
  ⟨some (19, false), .move (.tmp 8), 38, none, true⟩,
  ⟨some (20, true), .binOp .neq 38 (.tmp 19) (.const (.int .i64 0)) 38, 4, none, true⟩] τ ρ h := _root_.id rfl
def pool_Read_r5 : List Sop := [
  ⟨some (21, false), .move (.tmp 8), 38, none, true⟩,
  ⟨some (22, false), .move (.tmp 9), 3, none, true⟩,
  ⟨some (2, true), .assign (.const (.slice none 0 0)), 34, none, true⟩,
  ⟨some (3, true), .assign (.const (.int .i64 0)), 3, none, true⟩,
  ⟨some (4, true), .assign (.tmp 21), 38, none, true⟩,
  ⟨some (5, true), .assign (.tmp 22), 3, none, true⟩]
theorem pool_Read_r5_go {K : Env → Heap → Prop} {τ ρ : Env} {h : Heap} : vcOps Try.prog K pool_Read_r5 τ ρ h = vcOps Try.prog K [
  ⟨some (21, false), .move (.tmp 8), 38, none, true⟩,
  ⟨some (22, false), .move (.tmp 9), 3, none, true⟩,
  ⟨some (2, true), .assign (.const (.slice none 0 0)), 34, none, true⟩,
  ⟨some (3, true), .assign (.const (.int .i64 0)), 3, none, true⟩,
  ⟨some (4, true), .assign (.tmp 21), 38, none, true⟩,
  ⟨some (5, true), .assign (.tmp 22), 3, none, true⟩] τ ρ h := _root_.id rfl
def pool_Read_r6 : List Sop := [
  ⟨some (23, false), .move (.tmp 7), 34, none, true⟩,
  ⟨some (24, false), .move (.tmp 6), 52, none, true⟩,
  ⟨some (25, false), .call { callee := .value (.func 27), args := #[.tmp 24], argTypes := #[52] }, 3, none, false⟩,
  ⟨some (2, true), .assign (.tmp 23), 34, none, true⟩,
  ⟨some (3, true), .assign (.tmp 25), 3, none, true⟩,
  ⟨some (4, true), .assign (.const (.int .i64 0)), 38, none, true⟩,
  ⟨some (5, true), .assign (.const (.int .i64 0)), 3, none, true⟩]
theorem pool_Read_r6_go {K : Env → Heap → Prop} {τ ρ : Env} {h : Heap} : vcOps Try.prog K pool_Read_r6 τ ρ h = vcOps Try.prog K [
  ⟨some (23, false), .move (.tmp 7), 34, none, true⟩,
  ⟨some (24, false), .move (.tmp 6), 52, none, true⟩,
  ⟨some (25, false), .call { callee := .value (.func 27), args := #[.tmp 24], argTypes := #[52] }, 3, none, false⟩,
  ⟨some (2, true), .assign (.tmp 23), 34, none, true⟩,
  ⟨some (3, true), .assign (.tmp 25), 3, none, true⟩,
  ⟨some (4, true), .assign (.const (.int .i64 0)), 38, none, true⟩,
  ⟨some (5, true), .assign (.const (.int .i64 0)), 3, none, true⟩] τ ρ h := _root_.id rfl
def pool_Read : Cd := .seq (.region pool_Read_r0) (.seq (.region pool_Read_r1) (.seq (.region pool_Read_r2) (.seq (.seq (.region pool_Read_r3) (.seq (.region pool_Read_r4) (.cond (.tmp 20) (.seq (.region pool_Read_r5) (.ret)) (.skip)))) (.seq (.region pool_Read_r6) (.ret)))))
theorem pool_Read_go {Q : Ex → Env → Heap → Prop} {ρ : Env} {h : Heap} : Cd.vc Try.prog pool_Read Q ρ h = Cd.vc Try.prog (.seq (.region pool_Read_r0) (.seq (.region pool_Read_r1) (.seq (.region pool_Read_r2) (.seq (.seq (.region pool_Read_r3) (.seq (.region pool_Read_r4) (.cond (.tmp 20) (.seq (.region pool_Read_r5) (.ret)) (.skip)))) (.seq (.region pool_Read_r6) (.ret)))))) Q ρ h := _root_.id rfl
theorem pool_Read_calls {args : List Value} {h : Heap} {R : Value → Heap → Prop} (hl : args.length = 1) (hv : Cd.vc Try.prog pool_Read (retQ Try.prog [(2, none), (3, none), (4, none), (5, none)] R) (initEnv args [0, 2, 3, 4, 5, 6, 7, 8, 9, 20]) h) : HCalls Try.prog 16 args.toArray h R :=
  hcalls_of_vc (by kernel_rfl) Try.func16 (cd := pool_Read) (L := [0, 2, 3, 4, 5, 6, 7, 8, 9, 20]) (by kernel_rfl) (by kernel_rfl) ⟨by rw [hl, Try.ntmps16]; decide, by rw [Try.ntmps16]; decide⟩ hv
def pool_Read_gos := And.intro @pool_Read_go (And.intro @pool_Read_r0_go (And.intro @pool_Read_r1_go (And.intro @pool_Read_r2_go (And.intro @pool_Read_r3_go (And.intro @pool_Read_r4_go (And.intro @pool_Read_r5_go (@pool_Read_r6_go)))))))

/-! jvmcore/jvmcoreref1.Read: function 17: slots [0, 2, 3, 4, 5, 6, 7, 8, 9, 10, 11, 12, 13, 15, 18, 26, 32, 36, 47, 57, 70, 81, 91, 111, 113, 121, 139, 147] -/
def ref1_Read_r0 : List Sop := [
  ⟨some (2, true), .assign (.const (.slice none 0 0)), 34, none, true⟩,
  ⟨some (3, true), .assign (.const (.int .i64 0)), 3, none, true⟩,
  ⟨some (4, true), .assign (.const (.int .i64 0)), 38, none, true⟩,
  ⟨some (5, true), .assign (.const (.int .i64 0)), 3, none, true⟩]
theorem ref1_Read_r0_go {K : Env → Heap → Prop} {τ ρ : Env} {h : Heap} : vcOps Try.prog K ref1_Read_r0 τ ρ h = vcOps Try.prog K [
  ⟨some (2, true), .assign (.const (.slice none 0 0)), 34, none, true⟩,
  ⟨some (3, true), .assign (.const (.int .i64 0)), 3, none, true⟩,
  ⟨some (4, true), .assign (.const (.int .i64 0)), 38, none, true⟩,
  ⟨some (5, true), .assign (.const (.int .i64 0)), 3, none, true⟩] τ ρ h := _root_.id rfl
def ref1_Read_r1 : List Sop := [
  ⟨some (16, false), .move (.tmp 0), 9, none, true⟩,
  ⟨some (17, false), .call { callee := .builtin .len, args := #[.tmp 16], argTypes := #[9] }, 3, none, true⟩,
  ⟨some (18, true), .binOp .lss 3 (.tmp 17) (.const (.int .i64 2)) 3, 4, none, true⟩]
theorem ref1_Read_r1_go {K : Env → Heap → Prop} {τ ρ : Env} {h : Heap} : vcOps Try.prog K ref1_Read_r1 τ ρ h = vcOps Try.prog K [
  ⟨some (16, false), .move (.tmp 0), 9, none, true⟩,
  ⟨some (17, false), .call { callee := .builtin .len, args := #[.tmp 16], argTypes := #[9] }, 3, none, true⟩,
  ⟨some (18, true), .binOp .lss 3 (.tmp 17) (.const (.int .i64 2)) 3, 4, none, true⟩] τ ρ h := _root_.id rfl
def ref1_Read_r2 : List Sop := [
  ⟨some (19, false), .move (.tmp 0), 9, none, true⟩,
  ⟨some (20, false), .call { callee := .builtin .len, args := #[.tmp 19], argTypes := #[9] }, 3, none, true⟩,
  ⟨some (2, true), .assign (.const (.slice none 0 0)), 34, none, true⟩,
  ⟨some (3, true), .assign (.const (.int .i64 0)), 3, none, true⟩,
  ⟨some (4, true), .assign (.const (.int .i64 1)), 38, none, true⟩,
  ⟨some (5, true), .assign (.tmp 20), 3, none, true⟩]
theorem ref1_Read_r2_go {K : Env → Heap → Prop} {τ ρ : Env} {h : Heap} : vcOps Try.prog K ref1_Read_r2 τ ρ h = vcOps Try.prog K [
  ⟨some (19, false), .move (.tmp 0), 9, none, true⟩,
  ⟨some (20, false), .call { callee := .builtin .len, args := #[.tmp 19], argTypes := #[9] }, 3, none, true⟩,
  ⟨some (2, true), .assign (.const (.slice none 0 0)), 34, none, true⟩,
  ⟨some (3, true), .assign (.const (.int .i64 0)), 3, none, true⟩,
  ⟨some (4, true), .assign (.const (.int .i64 1)), 38, none, true⟩,
  ⟨some (5, true), .assign (.tmp 20), 3, none, true⟩] τ ρ h := _root_.id rfl
def ref1_Read_r3 : List Sop := [
  ⟨some (21, false), .move (.tmp 0), 9, none, true⟩,
  ⟨some (22, false), .slice 9 (.tmp 21) none (some (.const (.int .i64 2))) none, 9, none, true⟩,
  ⟨some (23, false), .call { callee := .value (.func 28), args := #[.tmp 22], argTypes := #[9] }, 35, none, false⟩,
  ⟨some (24, false), .convert 35 3 (.tmp 23), 3, none, true⟩,
  ⟨some (6, true), .assign (.tmp 24), 3, none, true⟩]
theorem ref1_Read_r3_go {K : Env → Heap → Prop} {τ ρ : Env} {h : Heap} : vcOps Try.prog K ref1_Read_r3 τ ρ h = vcOps Try.prog K [
  ⟨some (21, false), .move (.tmp 0), 9, none, true⟩,
  ⟨some (22, false), .slice 9 (.tmp 21) none (some (.const (.int .i64 2))) none, 9, none, true⟩,
  ⟨some (23, false), .call { callee := .value (.func 28), args := #[.tmp 22], argTypes := #[9] }, 35, none, false⟩,
  ⟨some (24, false), .convert 35 3 (.tmp 23), 3, none, true⟩,
  ⟨some (6, true), .assign (.tmp 24), 3, none, true⟩] τ ρ h := _root_.id rfl
def ref1_Read_r4 : List Sop := [
  ⟨some (25, false), .move (.tmp 6), 3, none, true⟩,
  ⟨some (26, true), .binOp .eql 3 (.tmp 25) (.const (.int .i64 0)) 3, 4, none, true⟩]
theorem ref1_Read_r4_go {K : Env → Heap → Prop} {τ ρ : Env} {h : Heap} : vcOps Try.prog K ref1_Read_r4 τ ρ h = vcOps Try.prog K [
  ⟨some (25, false), .move (.tmp 6), 3, none, true⟩,
  ⟨some (26, true), .binOp .eql 3 (.tmp 25) (.const (.int .i64 0)) 3, 4, none, true⟩] τ ρ h := _root_.id rfl
def ref1_Read_r5 : List Sop := [
  ⟨some (2, true), .assign (.const (.slice none 0 0)), 34, none, true⟩,
  ⟨some (3, true), .assign (.const (.int .i64 0)), 3, none, true⟩,
  ⟨some (4, true), .assign (.const (.int .i64 12)), 38, none, true⟩,
  ⟨some (5, true), .assign (.const (.int .i64 0)), 3, none, true⟩]
theorem ref1_Read_r5_go {K : Env → Heap → Prop} {τ ρ : Env} {h : Heap} : vcOps Try.prog K ref1_Read_r5 τ ρ h = vcOps Try.prog K [
  ⟨some (2, true), .assign (.const (.slice none 0 0)), 34, none, true⟩,
  ⟨some (3, true), .assign (.const (.int .i64 0)), 3, none, true⟩,
  ⟨some (4, true), .assign (.const (.int .i64 12)), 38, none, true⟩,
  ⟨some (5, true), .assign (.const (.int .i64 0)), 3, none, true⟩] τ ρ h := _root_.id rfl
def ref1_Read_r6 : List Sop := [
  ⟨some (27, false), .build 37 #[], 37, none, true⟩,
  ⟨some (28, false), .buildSlice 34 1 #[(0, .tmp 27)], 34, none, false⟩,
  ⟨some (7, true), .assign (.tmp 28), 34, none, true⟩]
theorem ref1_Read_r6_go {K : Env → Heap → Prop} {τ ρ : Env} {h : Heap} : vcOps Try.prog K ref1_Read_r6 τ ρ h = vcOps Try.prog K [
  ⟨some (27, false), .build 37 #[], 37, none, true⟩,
  ⟨some (28, false), .buildSlice 34 1 #[(0, .tmp 27)], 34, none, false⟩,
  ⟨some (7, true), .assign (.tmp 28), 34, none, true⟩] τ ρ h := _root_.id rfl
def ref1_Read_r7 : List Sop := [
  ⟨some (8, true), .assign (.const (.int .i64 2)), 3, none, true⟩]
theorem ref1_Read_r7_go {K : Env → Heap → Prop} {τ ρ : Env} {h : Heap} : vcOps Try.prog K ref1_Read_r7 τ ρ h = vcOps Try.prog K [
  ⟨some (8, true), .assign (.const (.int .i64 2)), 3, none, true⟩] τ ρ h := _root_.id rfl
def ref1_Read_r8 : List Sop := [
  ⟨some (29, false), .move (.tmp 7), 34, none, true⟩,
  ⟨some (30, false), .call { callee := .builtin .len, args := #[.tmp 29], argTypes := #[34] }, 3, none, true⟩,
  ⟨some (31, false), .move (.tmp 6), 3, none, true⟩,
  ⟨some (32, true), .binOp .lss 3 (.tmp 30) (.tmp 31) 3, 4, none, true⟩]
theorem ref1_Read_r8_go {K : Env → Heap → Prop} {τ ρ : Env} {h : Heap} : vcOps Try.prog K ref1_Read_r8 τ ρ h = vcOps Try.prog K [
  ⟨some (29, false), .move (.tmp 7), 34, none, true⟩,
  ⟨some (30, false), .call { callee := .builtin .len, args := #[.tmp 29], argTypes := #[34] }, 3, none, true⟩,
  ⟨some (31, false), .move (.tmp 6), 3, none, true⟩,
  ⟨some (32, true), .binOp .lss 3 (.tmp 30) (.tmp 31) 3, 4, none, true⟩] τ ρ h := _root_.id rfl
def ref1_Read_r9 : List Sop := [
  ⟨some (33, false), .move (.tmp 8), 3, none, true⟩,
  ⟨some (34, false), .move (.tmp 0), 9, none, true⟩,
  ⟨some (35, false), .call { callee := .builtin .len, args := #[.tmp 34], argTypes := #[9] }, 3, none, true⟩,
  ⟨some (36, true), .binOp .geq 3 (.tmp 33) (.tmp 35) 3, 4, none, true⟩]
theorem ref1_Read_r9_go {K : Env → Heap → Prop} {τ ρ : Env} {h : Heap} : vcOps Try.prog K ref1_Read_r9 τ ρ h = vcOps Try.prog K [
  ⟨some (33, false), .move (.tmp 8), 3, none, true⟩,
  ⟨some (34, false), .move (.tmp 0), 9, none, true⟩,
  ⟨some (35, false), .call { callee := .builtin .len, args := #[.tmp 34], argTypes := #[9] }, 3, none, true⟩,
  ⟨some (36, true), .binOp .geq 3 (.tmp 33) (.tmp 35) 3, 4, none, true⟩] τ ρ h := _root_.id rfl
def ref1_Read_r10 : List Sop := [
  ⟨some (37, false), .move (.tmp 0), 9, none, true⟩,
  ⟨some (38, false), .call { callee := .builtin .len, args := #[.tmp 37], argTypes := #[9] }, 3, none, true⟩,
  ⟨some (2, true), .assign (.const (.slice none 0 0)), 34, none, true⟩,
  ⟨some (3, true), .assign (.const (.int .i64 0)), 3, none, true⟩,
  ⟨some (4, true), .assign (.const (.int .i64 1)), 38, none, true⟩,
  ⟨some (5, true), .assign (.tmp 38), 3, none, true⟩]
theorem ref1_Read_r10_go {K : Env → Heap → Prop} {τ ρ : Env} {h : Heap} : vcOps Try.prog K ref1_Read_r10 τ ρ h = vcOps Try.prog K [
  ⟨some (37, false), .move (.tmp 0), 9, none, true⟩,
  ⟨some (38, false), .call { callee := .builtin .len, args := #[.tmp 37], argTypes := #[9] }, 3, none, true⟩,
  ⟨some (2, true), .assign (.const (.slice none 0 0)), 34, none, true⟩,
  ⟨some (3, true), .assign (.const (.int .i64 0)), 3, none, true⟩,
  ⟨some (4, true), .assign (.const (.int .i64 1)), 38, none, true⟩,
  ⟨some (5, true), .assign (.tmp 38), 3, none, true⟩] τ ρ h := _root_.id rfl
def ref1_Read_r11 : List Sop := [
  ⟨some (39, false), .move (.tmp 0), 9, none, true⟩,
  ⟨some (40, false), .move (.tmp 8), 3, none, true⟩,
  ⟨some (41, false), .index 9 (.tmp 39) (.tmp 40), 5, none, true⟩,
  ⟨some (42, false), .build 37 #[(0, .tmp 41)], 37, none, true⟩,
  ⟨some (9, true), .alloc 37, 0, none, false⟩,
  ⟨none, .store 37 (.tmp 9) (.tmp 42), 0, none, false⟩]
theorem ref1_Read_r11_go {K : Env → Heap → Prop} {τ ρ : Env} {h : Heap} : vcOps Try.prog K ref1_Read_r11 τ ρ h = vcOps Try.prog K [
  ⟨some (39, false), .move (.tmp 0), 9, none, true⟩,
  ⟨some (40, false), .move (.tmp 8), 3, none, true⟩,
  ⟨some (41, false), .index 9 (.tmp 39) (.tmp 40), 5, none, true⟩,
  ⟨some (42, false), .build 37 #[(0, .tmp 41)], 37, none, true⟩,
  ⟨some (9, true), .alloc 37, 0, none, false⟩,
  ⟨none, .store 37 (.tmp 9) (.tmp 42), 0, none, false⟩] τ ρ h := _root_.id rfl
def ref1_Read_r12 : List Sop := [
  ⟨some (43, false), .fieldAddr 37 (.tmp 9) 0, 0, none, true⟩,
  ⟨some (44, false), .load 5 (.tmp 43), 5, none, true⟩,
  ⟨some (45, false), .call { callee := .value (.func 23), args := #[.tmp 44], argTypes := #[5] }, 3, none, false⟩,
  ⟨some (10, true), .assign (.tmp 45), 3, none, true⟩]
theorem ref1_Read_r12_go {K : Env → Heap → Prop} {τ ρ : Env} {h : Heap} : vcOps Try.prog K ref1_Read_r12 τ ρ h = vcOps Try.prog K [
  ⟨some (43, false), .fieldAddr 37 (.tmp 9) 0, 0, none, true⟩,
  ⟨some (44, false), .load 5 (.tmp 43), 5, none, true⟩,
  ⟨some (45, false), .call { callee := .value (.func 23), args := #[.tmp 44], argTypes := #[5] }, 3, none, false⟩,
  ⟨some (10, true), .assign (.tmp 45), 3, none, true⟩] τ ρ h := _root_.id rfl
def ref1_Read_r13 : List Sop := [
  ⟨some (46, false), .move (.tmp 10), 3, none, true⟩,
  ⟨some (47, true), .binOp .lss 3 (.tmp 46) (.const (.int .i64 0)) 3, 4, none, true⟩]
theorem ref1_Read_r13_go {K : Env → Heap → Prop} {τ ρ : Env} {h : Heap} : vcOps Try.prog K ref1_Read_r13 τ ρ h = vcOps Try.prog K [
  ⟨some (46, false), .move (.tmp 10), 3, none, true⟩,
  ⟨some (47, true), .binOp .lss 3 (.tmp 46) (.const (.int .i64 0)) 3, 4, none, true⟩] τ ρ h := _root_.id rfl
def ref1_Read_r14 : List Sop := [
  ⟨some (48, false), .move (.tmp 8), 3, none, true⟩,
  ⟨some (2, true), .assign (.const (.slice none 0 0)), 34, none, true⟩,
  ⟨some (3, true), .assign (.const (.int .i64 0)), 3, none, true⟩,
  ⟨some (4, true), .assign (.const (.int .i64 5)), 38, none, true⟩,
  ⟨some (5, true), .assign (.tmp 48), 3, none, true⟩]
theorem ref1_Read_r14_go {K : Env → Heap → Prop} {τ ρ : Env} {h : Heap} : vcOps Try.prog K ref1_Read_r14 τ ρ h = vcOps Try.prog K [
  ⟨some (48, false), .move (.tmp 8), 3, none, true⟩,
  ⟨some (2, true), .assign (.const (.slice none 0 0)), 34, none, true⟩,
  ⟨some (3, true), .assign (.const (.int .i64 0)), 3, none, true⟩,
  ⟨some (4, true), .assign (.const (.int .i64 5)), 38, none, true⟩,
  ⟨some (5, true), .assign (.tmp 48), 3, none, true⟩] τ ρ h := _root_.id rfl
def ref1_Read_r15 : List Sop := [
  ⟨some (49, false), .move (.tmp 8), 3, none, true⟩,
  ⟨some (11, true), .assign (.tmp 49), 3, none, true⟩]
theorem ref1_Read_r15_go {K : Env → Heap → Prop} {τ ρ : Env} {h : Heap} : vcOps Try.prog K ref1_Read_r15 τ ρ h = vcOps Try.prog K [
  ⟨some (49, false), .move (.tmp 8), 3, none, true⟩,
  ⟨some (11, true), .assign (.tmp 49), 3, none, true⟩] τ ρ h := _root_.id rfl
def ref1_Read_r16 : List Sop := [
  ⟨some (50, false), .move (.tmp 8), 3, none, true⟩,
  ⟨some (51, false), .binOp .add 3 (.tmp 50) (.const (.int .i64 1)) 3, 3, none, true⟩,
  ⟨some (8, true), .assign (.tmp 51), 3, none, true⟩]
theorem ref1_Read_r16_go {K : Env → Heap → Prop} {τ ρ : Env} {h : Heap} : vcOps Try.prog K ref1_Read_r16 τ ρ h = vcOps Try.prog K [
  ⟨some (50, false), .move (.tmp 8), 3, none, true⟩,
  ⟨some (51, false), .binOp .add 3 (.tmp 50) (.const (.int .i64 1)) 3, 3, none, true⟩,
  ⟨some (8, true), .assign (.tmp 51), 3, none, true⟩] τ ρ h := _root_.id rfl
def ref1_Read_r17 : List Sop := [
  ⟨some (52, false), .move (.tmp 8), 3, none, true⟩,
  ⟨some (53, false), .move (.tmp 10), 3, none, true⟩,
  ⟨some (54, false), .binOp .add 3 (.tmp 52) (.tmp 53) 3, 3, none, true⟩,
  ⟨some (55, false), .move (.tmp 0), 9, none, true⟩,
  ⟨some (56, false), .call { callee := .builtin .len, args := #[.tmp 55], argTypes := #[9] }, 3, none, true⟩,
  ⟨some (57, true), .binOp .gtr 3 (.tmp 54) (.tmp 56) 3, 4, none, true⟩]
theorem ref1_Read_r17_go {K : Env → Heap → Prop} {τ ρ : Env} {h : Heap} : vcOps Try.prog K ref1_Read_r17 τ ρ h = vcOps Try.prog K [
  ⟨some (52, false), .move (.tmp 8), 3, none, true⟩,
  ⟨some (53, false), .move (.tmp 10), 3, none, true⟩,
  ⟨some (54, false), .binOp .add 3 (.tmp 52) (.tmp 53) 3, 3, none, true⟩,
  ⟨some (55, false), .move (.tmp 0), 9, none, true⟩,
  ⟨some (56, false), .call { callee := .builtin .len, args := #[.tmp 55], argTypes := #[9] }, 3, none, true⟩,
  ⟨some (57, true), .binOp .gtr 3 (.tmp 54) (.tmp 56) 3, 4, none, true⟩] τ ρ h := _root_.id rfl
def ref1_Read_r18 : List Sop := [
  ⟨some (58, false), .move (.tmp 0), 9, none, true⟩,
  ⟨some (59, false), .call { callee := .builtin .len, args := #[.tmp 58], argTypes := #[9] }, 3, none, true⟩,
  ⟨some (2, true), .assign (.const (.slice none 0 0)), 34, none, true⟩,
  ⟨some (3, true), .assign (.const (.int .i64 0)), 3, none, true⟩,
  ⟨some (4, true), .assign (.const (.int .i64 1)), 38, none, true⟩,
  ⟨some (5, true), .assign (.tmp 59), 3, none, true⟩]
theorem ref1_Read_r18_go {K : Env → Heap → Prop} {τ ρ : Env} {h : Heap} : vcOps Try.prog K ref1_Read_r18 τ ρ h = vcOps Try.prog K [
  ⟨some (58, false), .move (.tmp 0), 9, none, true⟩,
  ⟨some (59, false), .call { callee := .builtin .len, args := #[.tmp 58], argTypes := #[9] }, 3, none, true⟩,
  ⟨some (2, true), .assign (.const (.slice none 0 0)), 34, none, true⟩,
  ⟨some (3, true), .assign (.const (.int .i64 0)), 3, none, true⟩,
  ⟨some (4, true), .assign (.const (.int .i64 1)), 38, none, true⟩,
  ⟨some (5, true), .assign (.tmp 59), 3, none, true⟩] τ ρ h := _root_.id rfl
def ref1_Read_r19 : List Sop := [
  ⟨some (60, false), .move (.tmp 0), 9, none, true⟩,
  ⟨some (61, false), .move (.tmp 8), 3, none, true⟩,
  ⟨some (62, false), .move (.tmp 8), 3, none, true⟩,
  ⟨some (63, false), .move (.tmp 10), 3, none, true⟩,
  ⟨some (64, false), .binOp .add 3 (.tmp 62) (.tmp 63) 3, 3, none, true⟩,
  ⟨some (65, false), .slice 9 (.tmp 60) (some (.tmp 61)) (some (.tmp 64)) none, 9, none, true⟩,
  ⟨some (12, true), .assign (.tmp 65), 9, none, true⟩]
theorem ref1_Read_r19_go {K : Env → Heap → Prop} {τ ρ : Env} {h : Heap} : vcOps Try.prog K ref1_Read_r19 τ ρ h = vcOps Try.prog K [
  ⟨some (60, false), .move (.tmp 0), 9, none, true⟩,
  ⟨some (61, false), .move (.tmp 8), 3, none, true⟩,
  ⟨some (62, false), .move (.tmp 8), 3, none, true⟩,
  ⟨some (63, false), .move (.tmp 10), 3, none, true⟩,
  ⟨some (64, false), .binOp .add 3 (.tmp 62) (.tmp 63) 3, 3, none, true⟩,
  ⟨some (65, false), .slice 9 (.tmp 60) (some (.tmp 61)) (some (.tmp 64)) none, 9, none, true⟩,
  ⟨some (12, true), .assign (.tmp 65), 9, none, true⟩] τ ρ h := _root_.id rfl
def ref1_Read_r20 : List Sop := [
  ⟨some (66, false), .move (.tmp 8), 3, none, true⟩,
  ⟨some (67, false), .move (.tmp 10), 3, none, true⟩,
  ⟨some (68, false), .binOp .add 3 (.tmp 66) (.tmp 67) 3, 3, none, true⟩,
  ⟨some (8, true), .assign (.tmp 68), 3, none, true⟩]
theorem ref1_Read_r20_go {K : Env → Heap → Prop} {τ ρ : Env} {h : Heap} : vcOps Try.prog K ref1_Read_r20 τ ρ h = vcOps Try.prog K [
  ⟨some (66, false), .move (.tmp 8), 3, none, true⟩,
  ⟨some (67, false), .move (.tmp 10), 3, none, true⟩,
  ⟨some (68, false), .binOp .add 3 (.tmp 66) (.tmp 67) 3, 3, none, true⟩,
  ⟨some (8, true), .assign (.tmp 68), 3, none, true⟩] τ ρ h := _root_.id rfl
def ref1_Read_r21 : List Sop := [
  ⟨some (69, false), .fieldAddr 37 (.tmp 9) 0, 0, none, true⟩,
  ⟨some (70, true), .load 5 (.tmp 69), 5, none, true⟩]
theorem ref1_Read_r21_go {K : Env → Heap → Prop} {τ ρ : Env} {h : Heap} : vcOps Try.prog K ref1_Read_r21 τ ρ h = vcOps Try.prog K [
  ⟨some (69, false), .fieldAddr 37 (.tmp 9) 0, 0, none, true⟩,
  ⟨some (70, true), .load 5 (.tmp 69), 5, none, true⟩] τ ρ h := _root_.id rfl
def ref1_Read_r22 : List Sop := [
  ⟨some (82, false), .binOp .eql 5 (.tmp 70) (.const (.int .u8 1)) 5, 4, none, true⟩,
  ⟨some (81, true), .assign (.tmp 82), 4, none, true⟩]
theorem ref1_Read_r22_go {K : Env → Heap → Prop} {τ ρ : Env} {h : Heap} : vcOps Try.prog K ref1_Read_r22 τ ρ h = vcOps Try.prog K [
  ⟨some (82, false), .binOp .eql 5 (.tmp 70) (.const (.int .u8 1)) 5, 4, none, true⟩,
  ⟨some (81, true), .assign (.tmp 82), 4, none, true⟩] τ ρ h := _root_.id rfl
def ref1_Read_r23 : List Sop := [
  ⟨some (83, false), .move (.tmp 12), 9, none, true⟩,
  ⟨some (84, false), .call { callee := .value (.func 28), args := #[.tmp 83], argTypes := #[9] }, 35, none, false⟩,
  ⟨some (85, false), .convert 35 3 (.tmp 84), 3, none, true⟩,
  ⟨some (13, true), .assign (.tmp 85), 3, none, true⟩]
theorem ref1_Read_r23_go {K : Env → Heap → Prop} {τ ρ : Env} {h : Heap} : vcOps Try.prog K ref1_Read_r23 τ ρ h = vcOps Try.prog K [
  ⟨some (83, false), .move (.tmp 12), 9, none, true⟩,
  ⟨some (84, false), .call { callee := .value (.func 28), args := #[.tmp 83], argTypes := #[9] }, 35, none, false⟩,
  ⟨some (85, false), .convert 35 3 (.tmp 84), 3, none, true⟩,
  ⟨some (13, true), .assign (.tmp 85), 3, none, true⟩] τ ρ h := _root_.id rfl
def ref1_Read_r24 : List Sop := [
  ⟨some (86, false), .move (.tmp 8), 3, none, true⟩,
  ⟨some (87, false), .move (.tmp 13), 3, none, true⟩,
  ⟨some (88, false), .binOp .add 3 (.tmp 86) (.tmp 87) 3, 3, none, true⟩,
  ⟨some (89, false), .move (.tmp 0), 9, none, true⟩,
  ⟨some (90, false), .call { callee := .builtin .len, args := #[.tmp 89], argTypes := #[9] }, 3, none, true⟩,
  ⟨some (91, true), .binOp .gtr 3 (.tmp 88) (.tmp 90) 3, 4, none, true⟩]
theorem ref1_Read_r24_go {K : Env → Heap → Prop} {τ ρ : Env} {h : Heap} : vcOps Try.prog K ref1_Read_r24 τ ρ h = vcOps Try.prog K [
  ⟨some (86, false), .move (.tmp 8), 3, none, true⟩,
  ⟨some (87, false), .move (.tmp 13), 3, none, true⟩,
  ⟨some (88, false), .binOp .add 3 (.tmp 86) (.tmp 87) 3, 3, none, true⟩,
  ⟨some (89, false), .move (.tmp 0), 9, none, true⟩,
  ⟨some (90, false), .call { callee := .builtin .len, args := #[.tmp 89], argTypes := #[9] }, 3, none, true⟩,
  ⟨some (91, true), .binOp .gtr 3 (.tmp 88) (.tmp 90) 3, 4, none, true⟩] τ ρ h := _root_.id rfl
def ref1_Read_r25 : List Sop := [
  ⟨some (92, false), .move (.tmp 0), 9, none, true⟩,
  ⟨some (93, false), .call { callee := .builtin .len, args := #[.tmp 92], argTypes := #[9] }, 3, none, true⟩,
  ⟨some (2, true), .assign (.const (.slice none 0 0)), 34, none, true⟩,
  ⟨some (3, true), .assign (.const (.int .i64 0)), 3, none, true⟩,
  ⟨some (4, true), .assign (.const (.int .i64 1)), 38, none, true⟩,
  ⟨some (5, true), .assign (.tmp 93), 3, none, true⟩]
theorem ref1_Read_r25_go {K : Env → Heap → Prop} {τ ρ : Env} {h : Heap} : vcOps Try.prog K ref1_Read_r25 τ ρ h = vcOps Try.prog K [
  ⟨some (92, false), .move (.tmp 0), 9, none, true⟩,
  ⟨some (93, false), .call { callee := .builtin .len, args := #[.tmp 92], argTypes := #[9] }, 3, none, true⟩,
  ⟨some (2, true), .assign (.const (.slice none 0 0)), 34, none, true⟩,
  ⟨some (3, true), .assign (.const (.int .i64 0)), 3, none, true⟩,
  ⟨some (4, true), .assign (.const (.int .i64 1)), 38, none, true⟩,
  ⟨some (5, true), .assign (.tmp 93), 3, none, true⟩] τ ρ h := _root_.id rfl
def ref1_Read_r26 : List Sop := [
  ⟨some (94, false), .move (.tmp 0), 9, none, true⟩,
  ⟨some (95, false), .move (.tmp 8), 3, none, true⟩,
  ⟨some (96, false), .move (.tmp 8), 3, none, true⟩,
  ⟨some (97, false), .move (.tmp 13), 3, none, true⟩,
  ⟨some (98, false), .binOp .add 3 (.tmp 96) (.tmp 97) 3, 3, none, true⟩,
  ⟨some (99, false), .slice 9 (.tmp 94) (some (.tmp 95)) (some (.tmp 98)) none, 9, none, true⟩,
  ⟨some (100, false), .fieldAddr 37 (.tmp 9) 1, 0, none, true⟩,
  ⟨none, .store 9 (.tmp 100) (.tmp 99), 0, none, false⟩]
theorem ref1_Read_r26_go {K : Env → Heap → Prop} {τ ρ : Env} {h : Heap} : vcOps Try.prog K ref1_Read_r26 τ ρ h = vcOps Try.prog K [
  ⟨some (94, false), .move (.tmp 0), 9, none, true⟩,
  ⟨some (95, false), .move (.tmp 8), 3, none, true⟩,
  ⟨some (96, false), .move (.tmp 8), 3, none, true⟩,
  ⟨some (97, false), .move (.tmp 13), 3, none, true⟩,
  ⟨some (98, false), .binOp .add 3 (.tmp 96) (.tmp 97) 3, 3, none, true⟩,
  ⟨some (99, false), .slice 9 (.tmp 94) (some (.tmp 95)) (some (.tmp 98)) none, 9, none, true⟩,
  ⟨some (100, false), .fieldAddr 37 (.tmp 9) 1, 0, none, true⟩,
  ⟨none, .store 9 (.tmp 100) (.tmp 99), 0, none, false⟩] τ ρ h := _root_.id rfl
def ref1_Read_r27 : List Sop := [
  ⟨some (101, false), .move (.tmp 8), 3, none, true⟩,
  ⟨some (102, false), .move (.tmp 13), 3, none, true⟩,
  ⟨some (103, false), .binOp .add 3 (.tmp 101) (.tmp 102) 3, 3, none, true⟩,
  ⟨some (8, true), .assign (.tmp 103), 3, none, true⟩]
theorem ref1_Read_r27_go {K : Env → Heap → Prop} {τ ρ : Env} {h : Heap} : vcOps Try.prog K ref1_Read_r27 τ ρ h = vcOps Try.prog K [
  ⟨some (101, false), .move (.tmp 8), 3, none, true⟩,
  ⟨some (102, false), .move (.tmp 13), 3, none, true⟩,
  ⟨some (103, false), .binOp .add 3 (.tmp 101) (.tmp 102) 3, 3, none, true⟩,
  ⟨some (8, true), .assign (.tmp 103), 3, none, true⟩] τ ρ h := _root_.id rfl
def ref1_Read_r28 : List Sop := [
  ⟨some (105, false), .fieldAddr 37 (.tmp 9) 1, 0, none, true⟩,
  ⟨some (106, false), .load 9 (.tmp 105), 9, none, true⟩,
  ⟨some (107, false), .call { callee := .value (.func 10), args := #[.tmp 106], argTypes := #[9] }, 27, none, false⟩,
  ⟨some (104, false), .move (.tmp 107), 27, none, true⟩,
  ⟨some (108, false), .extract (.tmp 104) 0, 22, none, true⟩,
  ⟨some (109, false), .extract (.tmp 104) 1, 4, none, true⟩,
  ⟨some (14, false), .assign (.tmp 108), 22, none, true⟩,
  ⟨some (15, true), .assign (.tmp 109), 4, none, true⟩]
theorem ref1_Read_r28_go {K : Env → Heap → Prop} {τ ρ : Env} {h : Heap} : vcOps Try.prog K ref1_Read_r28 τ ρ h = vcOps Try.prog K [
  ⟨some (105, false), .fieldAddr 37 (.tmp 9) 1, 0, none, true⟩,
  ⟨some (106, false), .load 9 (.tmp 105), 9, none, true⟩,
  ⟨some (107, false), .call { callee := .value (.func 10), args := #[.tmp 106], argTypes := #[9] }, 27, none, false⟩,
  ⟨some (104, false), .move (.tmp 107), 27, none, true⟩,
  ⟨some (108, false), .extract (.tmp 104) 0, 22, none, true⟩,
  ⟨some (109, false), .extract (.tmp 104) 1, 4, none, true⟩,
  ⟨some (14, false), .assign (.tmp 108), 22, none, true⟩,
  ⟨some (15, true), .assign (.tmp 109), 4, none, true⟩] τ ρ h := _root_.id rfl
def ref1_Read_r29 : List Sop := [
  ⟨some (110, false), .move (.tmp 15), 4, none, true⟩,
  ⟨some (111, true), .unOp .not 4 (.tmp 110), 4, none, true⟩]
theorem ref1_Read_r29_go {K : Env → Heap → Prop} {τ ρ : Env} {h : Heap} : vcOps Try.prog K ref1_Read_r29 τ ρ h = vcOps Try.prog K [
  ⟨some (110, false), .move (.tmp 15), 4, none, true⟩,
  ⟨some (111, true), .unOp .not 4 (.tmp 110), 4, none, true⟩] τ ρ h := _root_.id rfl
def ref1_Read_r30 : List Sop := [
  ⟨some (112, false), .move (.tmp 11), 3, none, true⟩,
  ⟨some (2, true), .assign (.const (.slice none 0 0)), 34, none, true⟩,
  ⟨some (3, true), .assign (.const (.int .i64 0)), 3, none, true⟩,
  ⟨some (4, true), .assign (.const (.int .i64 6)), 38, none, true⟩,
  ⟨some (5, true), .assign (.tmp 112), 3, none, true⟩]
theorem ref1_Read_r30_go {K : Env → Heap → Prop} {τ ρ : Env} {h : Heap} : vcOps Try.prog K ref1_Read_r30 τ ρ h = vcOps Try.prog K [
  ⟨some (112, false), .move (.tmp 11), 3, none, true⟩,
  ⟨some (2, true), .assign (.const (.slice none 0 0)), 34, none, true⟩,
  ⟨some (3, true), .assign (.const (.int .i64 0)), 3, none, true⟩,
  ⟨some (4, true), .assign (.const (.int .i64 6)), 38, none, true⟩,
  ⟨some (5, true), .assign (.tmp 112), 3, none, true⟩] τ ρ h := _root_.id rfl
def ref1_Read_r31 : List Sop := [
  ⟨some (114, false), .binOp .eql 5 (.tmp 70) (.const (.int .u8 3)) 5, 4, none, true⟩,
  ⟨some (113, true), .assign (.tmp 114), 4, none, true⟩]
theorem ref1_Read_r31_go {K : Env → Heap → Prop} {τ ρ : Env} {h : Heap} : vcOps Try.prog K ref1_Read_r31 τ ρ h = vcOps Try.prog K [
  ⟨some (114, false), .binOp .eql 5 (.tmp 70) (.const (.int .u8 3)) 5, 4, none, true⟩,
  ⟨some (113, true), .assign (.tmp 114), 4, none, true⟩] τ ρ h := _root_.id rfl
def ref1_Read_r32 : List Sop := [
  ⟨some (115, false), .binOp .eql 5 (.tmp 70) (.const (.int .u8 4)) 5, 4, none, true⟩,
  ⟨some (113, true), .assign (.tmp 115), 4, none, true⟩]
theorem ref1_Read_r32_go {K : Env → Heap → Prop} {τ ρ : Env} {h : Heap} : vcOps Try.prog K ref1_Read_r32 τ ρ h = vcOps Try.prog K [
  ⟨some (115, false), .binOp .eql 5 (.tmp 70) (.const (.int .u8 4)) 5, 4, none, true⟩,
  ⟨some (113, true), .assign (.tmp 115), 4, none, true⟩] τ ρ h := _root_.id rfl
def ref1_Read_r33 : List Sop := [
  ⟨some (116, false), .binOp .eql 5 (.tmp 70) (.const (.int .u8 5)) 5, 4, none, true⟩,
  ⟨some (113, true), .assign (.tmp 116), 4, none, true⟩]
theorem ref1_Read_r33_go {K : Env → Heap → Prop} {τ ρ : Env} {h : Heap} : vcOps Try.prog K ref1_Read_r33 τ ρ h = vcOps Try.prog K [
  ⟨some (116, false), .binOp .eql 5 (.tmp 70) (.const (.int .u8 5)) 5, 4, none, true⟩,
  ⟨some (113, true), .assign (.tmp 116), 4, none, true⟩] τ ρ h := _root_.id rfl
def ref1_Read_r34 : List Sop := [
  ⟨some (117, false), .binOp .eql 5 (.tmp 70) (.const (.int .u8 6)) 5, 4, none, true⟩,
  ⟨some (113, true), .assign (.tmp 117), 4, none, true⟩]
theorem ref1_Read_r34_go {K : Env → Heap → Prop} {τ ρ : Env} {h : Heap} : vcOps Try.prog K ref1_Read_r34 τ ρ h = vcOps Try.prog K [
  ⟨some (117, false), .binOp .eql 5 (.tmp 70) (.const (.int .u8 6)) 5, 4, none, true⟩,
  ⟨some (113, true), .assign (.tmp 117), 4, none, true⟩] τ ρ h := _root_.id rfl
def ref1_Read_r35 : List Sop := [
  ⟨some (118, false), .move (.tmp 12), 9, none, true⟩,
  ⟨some (119, false), .call { callee := .value (.func 28), args := #[.tmp 118], argTypes := #[9] }, 35, none, false⟩,
  ⟨some (120, false), .fieldAddr 37 (.tmp 9) 2, 0, none, true⟩,
  ⟨none, .store 35 (.tmp 120) (.tmp 119), 0, none, false⟩]
theorem ref1_Read_r35_go {K : Env → Heap → Prop} {τ ρ : Env} {h : Heap} : vcOps Try.prog K ref1_Read_r35 τ ρ h = vcOps Try.prog K [
  ⟨some (118, false), .move (.tmp 12), 9, none, true⟩,
  ⟨some (119, false), .call { callee := .value (.func 28), args := #[.tmp 118], argTypes := #[9] }, 35, none, false⟩,
  ⟨some (120, false), .fieldAddr 37 (.tmp 9) 2, 0, none, true⟩,
  ⟨none, .store 35 (.tmp 120) (.tmp 119), 0, none, false⟩] τ ρ h := _root_.id rfl
def ref1_Read_r36 : List Sop := [
  ⟨some (122, false), .binOp .eql 5 (.tmp 70) (.const (.int .u8 7)) 5, 4, none, true⟩,
  ⟨some (121, true), .assign (.tmp 122), 4, none, true⟩]
theorem ref1_Read_r36_go {K : Env → Heap → Prop} {τ ρ : Env} {h : Heap} : vcOps Try.prog K ref1_Read_r36 τ ρ h = vcOps Try.prog K [
  ⟨some (122, false), .binOp .eql 5 (.tmp 70) (.const (.int .u8 7)) 5, 4, none, true⟩,
  ⟨some (121, true), .assign (.tmp 122), 4, none, true⟩] τ ρ h := _root_.id rfl
def ref1_Read_r37 : List Sop := [
  ⟨some (123, false), .binOp .eql 5 (.tmp 70) (.const (.int .u8 8)) 5, 4, none, true⟩,
  ⟨some (121, true), .assign (.tmp 123), 4, none, true⟩]
theorem ref1_Read_r37_go {K : Env → Heap → Prop} {τ ρ : Env} {h : Heap} : vcOps Try.prog K ref1_Read_r37 τ ρ h = vcOps Try.prog K [
  ⟨some (123, false), .binOp .eql 5 (.tmp 70) (.const (.int .u8 8)) 5, 4, none, true⟩,
  ⟨some (121, true), .assign (.tmp 123), 4, none, true⟩] τ ρ h := _root_.id rfl
def ref1_Read_r38 : List Sop := [
  ⟨some (124, false), .move (.tmp 12), 9, none, true⟩,
  ⟨some (125, false), .call { callee := .value (.func 28), args := #[.tmp 124], argTypes := #[9] }, 35, none, false⟩,
  ⟨some (126, false), .convert 35 29 (.tmp 125), 29, none, true⟩,
  ⟨some (127, false), .fieldAddr 37 (.tmp 9) 3, 0, none, true⟩,
  ⟨none, .store 29 (.tmp 127) (.tmp 126), 0, none, false⟩]
theorem ref1_Read_r38_go {K : Env → Heap → Prop} {τ ρ : Env} {h : Heap} : vcOps Try.prog K ref1_Read_r38 τ ρ h = vcOps Try.prog K [
  ⟨some (124, false), .move (.tmp 12), 9, none, true⟩,
  ⟨some (125, false), .call { callee := .value (.func 28), args := #[.tmp 124], argTypes := #[9] }, 35, none, false⟩,
  ⟨some (126, false), .convert 35 29 (.tmp 125), 29, none, true⟩,
  ⟨some (127, false), .fieldAddr 37 (.tmp 9) 3, 0, none, true⟩,
  ⟨none, .store 29 (.tmp 127) (.tmp 126), 0, none, false⟩] τ ρ h := _root_.id rfl
def ref1_Read_r39 : List Sop := [
  ⟨some (71, false), .move (.tmp 12), 9, none, true⟩,
  ⟨some (72, false), .slice 9 (.tmp 71) none (some (.const (.int .i64 2))) none, 9, none, true⟩,
  ⟨some (73, false), .call { callee := .value (.func 28), args := #[.tmp 72], argTypes := #[9] }, 35, none, false⟩,
  ⟨some (74, false), .convert 35 29 (.tmp 73), 29, none, true⟩,
  ⟨some (75, false), .fieldAddr 37 (.tmp 9) 3, 0, none, true⟩,
  ⟨none, .store 29 (.tmp 75) (.tmp 74), 0, none, false⟩]
theorem ref1_Read_r39_go {K : Env → Heap → Prop} {τ ρ : Env} {h : Heap} : vcOps Try.prog K ref1_Read_r39 τ ρ h = vcOps Try.prog K [
  ⟨some (71, false), .move (.tmp 12), 9, none, true⟩,
  ⟨some (72, false), .slice 9 (.tmp 71) none (some (.const (.int .i64 2))) none, 9, none, true⟩,
  ⟨some (73, false), .call { callee := .value (.func 28), args := #[.tmp 72], argTypes := #[9] }, 35, none, false⟩,
  ⟨some (74, false), .convert 35 29 (.tmp 73), 29, none, true⟩,
  ⟨some (75, false), .fieldAddr 37 (.tmp 9) 3, 0, none, true⟩,
  ⟨none, .store 29 (.tmp 75) (.tmp 74), 0, none, false⟩] τ ρ h := _root_.id rfl
def ref1_Read_r40 : List Sop := [
  ⟨some (76, false), .move (.tmp 12), 9, none, true⟩,
  ⟨some (77, false), .slice 9 (.tmp 76) (some (.const (.int .i64 2))) none none, 9, none, true⟩,
  ⟨some (78, false), .call { callee := .value (.func 28), args := #[.tmp 77], argTypes := #[9] }, 35, none, false⟩,
  ⟨some (79, false), .convert 35 29 (.tmp 78), 29, none, true⟩,
  ⟨some (80, false), .fieldAddr 37 (.tmp 9) 4, 0, none, true⟩,
  ⟨none, .store 29 (.tmp 80) (.tmp 79), 0, none, false⟩]
theorem ref1_Read_r40_go {K : Env → Heap → Prop} {τ ρ : Env} {h : Heap} : vcOps Try.prog K ref1_Read_r40 τ ρ h = vcOps Try.prog K [
  ⟨some (76, false), .move (.tmp 12), 9, none, true⟩,
  ⟨some (77, false), .slice 9 (.tmp 76) (some (.const (.int .i64 2))) none none, 9, none, true⟩,
  ⟨some (78, false), .call { callee := .value (.func 28), args := #[.tmp 77], argTypes := #[9] }, 35, none, false⟩,
  ⟨some (79, false), .convert 35 29 (.tmp 78), 29, none, true⟩,
  ⟨some (80, false), .fieldAddr 37 (.tmp 9) 4, 0, none, true⟩,
  ⟨none, .store 29 (.tmp 80) (.tmp 79), 0, none, false⟩] τ ρ h := _root_.id rfl
def ref1_Read_r41 : List Sop := [
  ⟨some (128, false), .move (.tmp 7), 34, none, true⟩,
  ⟨some (129, false), .load 37 (.tmp 9), 37, none, true⟩,
  ⟨some (130, false), .buildSlice 34 1 #[(0, .tmp 129)], 34, none, false⟩,
  ⟨some (131, false), .call { callee := .builtin .append, args := #[.tmp 128, .tmp 130], argTypes := #[34, 34] }, 34, none, false⟩,
  ⟨some (7, true), .assign (.tmp 131), 34, none, true⟩]
theorem ref1_Read_r41_go {K : Env → Heap → Prop} {τ ρ : Env} {h : Heap} : vcOps Try.prog K ref1_Read_r41 τ ρ h = vcOps Try.prog K [
  ⟨some (128, false), .move (.tmp 7), 34, none, true⟩,
  ⟨some (129, false), .load 37 (.tmp 9), 37, none, true⟩,
  ⟨some (130, false), .buildSlice 34 1 #[(0, .tmp 129)], 34, none, false⟩,
  ⟨some (131, false), .call { callee := .builtin .append, args := #[.tmp 128, .tmp 130], argTypes := #[34, 34] }, 34, none, false⟩,
  ⟨some (7, true), .assign (.tmp 131), 34, none, true⟩] τ ρ h := _root_.id rfl
def ref1_Read_r42 : List Sop := [
  ⟨some (132, false), .fieldAddr 37 (.tmp 9) 0, 0, none, true⟩,
  ⟨some (133, false), .load 5 (.tmp 132), 5, none, true⟩,
  ⟨some (134, false), .binOp .eql 5 (.tmp 133) (.const (.int .u8 5)) 5, 4, none, true⟩,
  ⟨some (135, false), .move (.tmp 134), 4, none, true⟩,
  ⟨some (136, false), .fieldAddr 37 (.tmp 9) 0, 0, some (135, false), true⟩,
  ⟨some (137, false), .load 5 (.tmp 136), 5, some (135, false), true⟩,
  ⟨some (138, false), .binOp .eql 5 (.tmp 137) (.const (.int .u8 6)) 5, 4, some (135, false), true⟩,
  ⟨some (139, true), .pick (.tmp 135) (.const (.bool true)) (.tmp 138), 4, none, true⟩]
theorem ref1_Read_r42_go {K : Env → Heap → Prop} {τ ρ : Env} {h : Heap} : vcOps Try.prog K ref1_Read_r42 τ ρ h = vcOps Try.prog K [
  ⟨some (132, false), .fieldAddr 37 (.tmp 9) 0, 0, none, true⟩,
  ⟨some (133, false), .load 5 (.tmp 132), 5, none, true⟩,
  ⟨some (134, false), .binOp .eql 5 (.tmp 133) (.const (.int .u8 5)) 5, 4, none, true⟩,
  ⟨some (135, false), .move (.tmp 134), 4, none, true⟩,
  ⟨some (136, false), .fieldAddr 37 (.tmp 9) 0, 0, some (135, false), true⟩,
  ⟨some (137, false), .load 5 (.tmp 136), 5, some (135, false), true⟩,
  ⟨some (138, false), .binOp .eql 5 (.tmp 137) (.const (.int .u8 6)) 5, 4, some (135, false), true⟩,
  ⟨some (139, true), .pick (.tmp 135) (.const (.bool true)) (.tmp 138), 4, none, true⟩] τ ρ h := _root_.id rfl
def ref1_Read_r43 : List Sop := [
  ⟨some (140, false), .move (.tmp 7), 34, none, true⟩,
  ⟨some (141, false), .build 37 #[], 37, none, true⟩,
  ⟨some (142, false), .buildSlice 34 1 #[(0, .tmp 141)], 34, none, false⟩,
  ⟨some (143, false), .call { callee := .builtin .append, args := #[.tmp 140, .tmp 142], argTypes := #[34, 34] }, 34, none, false⟩,
  ⟨some (7, true), .assign (.tmp 143), 34, none, true⟩]
theorem ref1_Read_r43_go {K : Env → Heap → Prop} {τ ρ : Env} {h : Heap} : vcOps Try.prog K ref1_Read_r43 τ ρ h = vcOps Try.prog K [
  ⟨some (140, false), .move (.tmp 7), 34, none, true⟩,
  ⟨some (141, false), .build 37 #[], 37, none, true⟩,
  ⟨some (142, false), .buildSlice 34 1 #[(0, .tmp 141)], 34, none, false⟩,
  ⟨some (143, false), .call { callee := .builtin .append, args := #[.tmp 140, .tmp 142], argTypes := #[34, 34] }, 34, none, false⟩,
  ⟨some (7, true), .assign (.tmp 143), 34, none, true⟩] τ ρ h := _root_.id rfl
def ref1_Read_r44 : List Sop := [
  ⟨some (144, false), .move (.tmp 7), 34, none, true⟩,
  ⟨some (145, false), .call { callee := .builtin .len, args := #[.tmp 144], argTypes := #[34] }, 3, none, true⟩,
  ⟨some (146, false), .move (.tmp 6), 3, none, true⟩,
  ⟨some (147, true), .binOp .gtr 3 (.tmp 145) (.tmp 146) 3, 4, none, true⟩]
theorem ref1_Read_r44_go {K : Env → Heap → Prop} {τ ρ : Env} {h : Heap} : vcOps Try.prog K ref1_Read_r44 τ ρ h = vcOps Try.prog K [
  ⟨some (144, false), .move (.tmp 7), 34, none, true⟩,
  ⟨some (145, false), .call { callee := .builtin .len, args := #[.tmp 144], argTypes := #[34] }, 3, none, true⟩,
  ⟨some (146, false), .move (.tmp 6), 3, none, true⟩,
  ⟨some (147, true), .binOp .gtr 3 (.tmp 145) (.tmp 146) 3, 4, none, true⟩] τ ρ h := _root_.id rfl
def ref1_Read_r45 : List Sop := [
  ⟨some (148, false), .move (.tmp 11), 3, none, true⟩,
  ⟨some (2, true), .assign (.const (.slice none 0 0)), 34, none, true⟩,
  ⟨some (3, true), .assign (.const (.int .i64 0)), 3, none, true⟩,
  ⟨some (4, true), .assign (.const (.int .i64 12)), 38, none, true⟩,
  ⟨some (5, true), .assign (.tmp 148), 3, none, true⟩]
theorem ref1_Read_r45_go {K : Env → Heap → Prop} {τ ρ : Env} {h : Heap} : vcOps Try.prog K ref1_Read_r45 τ ρ h = vcOps Try.prog K [
  ⟨some (148, false), .move (.tmp 11), 3, none, true⟩,
  ⟨some (2, true), .assign (.const (.slice none 0 0)), 34, none, true⟩,
  ⟨some (3, true), .assign (.const (.int .i64 0)), 3, none, true⟩,
  ⟨some (4, true), .assign (.const (.int .i64 12)), 38, none, true⟩,
  ⟨some (5, true), .assign (.tmp 148), 3, none, true⟩] τ ρ h := _root_.id rfl
def ref1_Read_r46 : List Sop := [
  ⟨some (149, false), .move (.tmp 7), 34, none, true⟩,
  ⟨some (150, false), .move (.tmp 8), 3, none, true⟩,
  ⟨some (2, true), .assign (.tmp 149), 34, none, true⟩,
  ⟨some (3, true), .assign (.tmp 150), 3, none, true⟩,
  ⟨some (4, true), .assign (.const (.int .i64 0)), 38, none, true⟩,
  ⟨some (5, true), .assign (.const (.int .i64 0)), 3, none, true⟩]
theorem ref1_Read_r46_go {K : Env → Heap → Prop} {τ ρ : Env} {h : Heap} : vcOps Try.prog K ref1_Read_r46 τ ρ h = vcOps Try.prog K [
  ⟨some (149, false), .move (.tmp 7), 34, none, true⟩,
  ⟨some (150, false), .move (.tmp 8), 3, none, true⟩,
  ⟨some (2, true), .assign (.tmp 149), 34, none, true⟩,
  ⟨some (3, true), .assign (.tmp 150), 3, none, true⟩,
  ⟨some (4, true), .assign (.const (.int .i64 0)), 38, none, true⟩,
  ⟨some (5, true), .assign (.const (.int .i64 0)), 3, none, true⟩] τ ρ h := _root_.id rfl
def ref1_Read_l0 : Cd := .seq (.seq (.region ref1_Read_r8) (.cond (.tmp 32) (.skip) (.exit 0))) (.block 1 (.seq (.seq (.region ref1_Read_r9) (.cond (.tmp 36) (.seq (.region ref1_Read_r10) (.ret)) (.skip))) (.seq (.region ref1_Read_r11) (.seq (.region ref1_Read_r12) (.seq (.seq (.region ref1_Read_r13) (.cond (.tmp 47) (.seq (.region ref1_Read_r14) (.ret)) (.skip))) (.seq (.region ref1_Read_r15) (.seq (.region ref1_Read_r16) (.seq (.seq (.region ref1_Read_r17) (.cond (.tmp 57) (.seq (.region ref1_Read_r18) (.ret)) (.skip))) (.seq (.region ref1_Read_r19) (.seq (.region ref1_Read_r20) (.seq (.seq (.region ref1_Read_r21) (.block 2 (.seq (.region ref1_Read_r22) (.cond (.tmp 81) (.seq (.region ref1_Read_r23) (.seq (.seq (.region ref1_Read_r24) (.cond (.tmp 91) (.seq (.region ref1_Read_r25) (.ret)) (.skip))) (.seq (.region ref1_Read_r26) (.seq (.region ref1_Read_r27) (.seq (.region ref1_Read_r28) (.seq (.region ref1_Read_r29) (.cond (.tmp 111) (.seq (.region ref1_Read_r30) (.ret)) (.skip)))))))) (.seq (.seq (.region ref1_Read_r31) (.cond (.tmp 113) (.skip) (.seq (.region ref1_Read_r32) (.cond (.tmp 113) (.skip) (.seq (.region ref1_Read_r33) (.cond (.tmp 113) (.skip) (.region ref1_Read_r34))))))) (.cond (.tmp 113) (.region ref1_Read_r35) (.seq (.seq (.region ref1_Read_r36) (.cond (.tmp 121) (.skip) (.region ref1_Read_r37))) (.cond (.tmp 121) (.region ref1_Read_r38) (.seq (.region ref1_Read_r39) (.region ref1_Read_r40)))))))))) (.seq (.region ref1_Read_r41) (.seq (.region ref1_Read_r42) (.cond (.tmp 139) (.seq (.region ref1_Read_r43) (.seq (.region ref1_Read_r44) (.cond (.tmp 147) (.seq (.region ref1_Read_r45) (.ret)) (.skip)))) (.skip)))))))))))))))
theorem ref1_Read_l0_go {Q : Ex → Env → Heap → Prop} {ρ : Env} {h : Heap} : Cd.vc Try.prog ref1_Read_l0 Q ρ h = Cd.vc Try.prog (.seq (.seq (.region ref1_Read_r8) (.cond (.tmp 32) (.skip) (.exit 0))) (.block 1 (.seq (.seq (.region ref1_Read_r9) (.cond (.tmp 36) (.seq (.region ref1_Read_r10) (.ret)) (.skip))) (.seq (.region ref1_Read_r11) (.seq (.region ref1_Read_r12) (.seq (.seq (.region ref1_Read_r13) (.cond (.tmp 47) (.seq (.region ref1_Read_r14) (.ret)) (.skip))) (.seq (.region ref1_Read_r15) (.seq (.region ref1_Read_r16) (.seq (.seq (.region ref1_Read_r17) (.cond (.tmp 57) (.seq (.region ref1_Read_r18) (.ret)) (.skip))) (.seq (.region ref1_Read_r19) (.seq (.region ref1_Read_r20) (.seq (.seq (.region ref1_Read_r21) (.block 2 (.seq (.region ref1_Read_r22) (.cond (.tmp 81) (.seq (.region ref1_Read_r23) (.seq (.seq (.region ref1_Read_r24) (.cond (.tmp 91) (.seq (.region ref1_Read_r25) (.ret)) (.skip))) (.seq (.region ref1_Read_r26) (.seq (.region ref1_Read_r27) (.seq (.region ref1_Read_r28) (.seq (.region ref1_Read_r29) (.cond (.tmp 111) (.seq (.region ref1_Read_r30) (.ret)) (.skip)))))))) (.seq (.seq (.region ref1_Read_r31) (.cond (.tmp 113) (.skip) (.seq (.region ref1_Read_r32) (.cond (.tmp 113) (.skip) (.seq (.region ref1_Read_r33) (.cond (.tmp 113) (.skip) (.region ref1_Read_r34))))))) (.cond (.tmp 113) (.region ref1_Read_r35) (.seq (.seq (.region ref1_Read_r36) (.cond (.tmp 121) (.skip) (.region ref1_Read_r37))) (.cond (.tmp 121) (.region ref1_Read_r38) (.seq (.region ref1_Read_r39) (.region ref1_Read_r40)))))))))) (.seq (.region ref1_Read_r41) (.seq (.region ref1_Read_r42) (.cond (.tmp 139) (.seq (.region ref1_Read_r43) (.seq (.region ref1_Read_r44) (.cond (.tmp 147) (.seq (.region ref1_Read_r45) (.ret)) (.skip)))) (.skip)))))))))))))))) Q ρ h := _root_.id rfl
def ref1_Read : Cd := .seq (.region ref1_Read_r0) (.seq (.seq (.region ref1_Read_r1) (.cond (.tmp 18) (.seq (.region ref1_Read_r2) (.ret)) (.skip))) (.seq (.region ref1_Read_r3) (.seq (.seq (.region ref1_Read_r4) (.cond (.tmp 26) (.seq (.region ref1_Read_r5) (.ret)) (.skip))) (.seq (.region ref1_Read_r6) (.seq (.region ref1_Read_r7) (.seq (.block 0 (.loop ref1_Read_l0)) (.seq (.region ref1_Read_r46) (.ret))))))))
theorem ref1_Read_go {Q : Ex → Env → Heap → Prop} {ρ : Env} {h : Heap} : Cd.vc Try.prog ref1_Read Q ρ h = Cd.vc Try.prog (.seq (.region ref1_Read_r0) (.seq (.seq (.region ref1_Read_r1) (.cond (.tmp 18) (.seq (.region ref1_Read_r2) (.ret)) (.skip))) (.seq (.region ref1_Read_r3) (.seq (.seq (.region ref1_Read_r4) (.cond (.tmp 26) (.seq (.region ref1_Read_r5) (.ret)) (.skip))) (.seq (.region ref1_Read_r6) (.seq (.region ref1_Read_r7) (.seq (.block 0 (.loop ref1_Read_l0)) (.seq (.region ref1_Read_r46) (.ret))))))))) Q ρ h := _root_.id rfl
theorem ref1_Read_calls {args : List Value} {h : Heap} {R : Value → Heap → Prop} (hl : args.length = 1) (hv : Cd.vc Try.prog ref1_Read (retQ Try.prog [(2, none), (3, none), (4, none), (5, none)] R) (initEnv args [0, 2, 3, 4, 5, 6, 7, 8, 9, 10, 11, 12, 13, 15, 18, 26, 32, 36, 47, 57, 70, 81, 91, 111, 113, 121, 139, 147]) h) : HCalls Try.prog 17 args.toArray h R :=
  hcalls_of_vc (by kernel_rfl) Try.func17 (cd := ref1_Read) (L := [0, 2, 3, 4, 5, 6, 7, 8, 9, 10, 11, 12, 13, 15, 18, 26, 32, 36, 47, 57, 70, 81, 91, 111, 113, 121, 139, 147]) (by kernel_rfl) (by kernel_rfl) ⟨by rw [hl, Try.ntmps17]; decide, by rw [Try.ntmps17]; decide⟩ hv
def ref1_Read_gos := And.intro @ref1_Read_go (And.intro @ref1_Read_r0_go (And.intro @ref1_Read_r1_go (And.intro @ref1_Read_r2_go (And.intro @ref1_Read_r3_go (And.intro @ref1_Read_r4_go (And.intro @ref1_Read_r5_go (And.intro @ref1_Read_r6_go (And.intro @ref1_Read_r7_go (And.intro @ref1_Read_r8_go (And.intro @ref1_Read_r9_go (And.intro @ref1_Read_r10_go (And.intro @ref1_Read_r11_go (And.intro @ref1_Read_r12_go (And.intro @ref1_Read_r13_go (And.intro @ref1_Read_r14_go (And.intro @ref1_Read_r15_go (And.intro @ref1_Read_r16_go (And.intro @ref1_Read_r17_go (And.intro @ref1_Read_r18_go (And.intro @ref1_Read_r19_go (And.intro @ref1_Read_r20_go (And.intro @ref1_Read_r21_go (And.intro @ref1_Read_r22_go (And.intro @ref1_Read_r23_go (And.intro @ref1_Read_r24_go (And.intro @ref1_Read_r25_go (And.intro @ref1_Read_r26_go (And.intro @ref1_Read_r27_go (And.intro @ref1_Read_r28_go (And.intro @ref1_Read_r29_go (And.intro @ref1_Read_r30_go (And.intro @ref1_Read_r31_go (And.intro @ref1_Read_r32_go (And.intro @ref1_Read_r33_go (And.intro @ref1_Read_r34_go (And.intro @ref1_Read_r35_go (And.intro @ref1_Read_r36_go (And.intro @ref1_Read_r37_go (And.intro @ref1_Read_r38_go (And.intro @ref1_Read_r39_go (And.intro @ref1_Read_r40_go (And.intro @ref1_Read_r41_go (And.intro @ref1_Read_r42_go (And.intro @ref1_Read_r43_go (And.intro @ref1_Read_r44_go (And.intro @ref1_Read_r45_go (And.intro @ref1_Read_r46_go (@ref1_Read_l0_go))))))))))))))))))))))))))))))))))))))))))))))))

/-! jvmcore/pool.NewReader: function 24: slots [0, 2] -/
def pool_NewReader_r0 : List Sop := [
  ⟨some (2, true), .assign (.const (.pointer none)), 52, none, true⟩]
theorem pool_NewReader_r0_go {K : Env → Heap → Prop} {τ ρ : Env} {h : Heap} : vcOps Try.prog K pool_NewReader_r0 τ ρ h = vcOps Try.prog K [
  ⟨some (2, true), .assign (.const (.pointer none)), 52, none, true⟩] τ ρ h := _root_.id rfl
def pool_NewReader_r1 : List Sop := [
  ⟨some (3, false), .move (.tmp 0), 9, none, true⟩,
  ⟨some (4, false), .build 60 #[(0, .tmp 3)], 60, none, true⟩,
  ⟨some (5, false), .box 60 (.tmp 4), 52, none, false⟩,
  ⟨some (2, true), .assign (.tmp 5), 52, none, true⟩]
theorem pool_NewReader_r1_go {K : Env → Heap → Prop} {τ ρ : Env} {h : Heap} : vcOps Try.prog K pool_NewReader_r1 τ ρ h = vcOps Try.prog K [
  ⟨some (3, false), .move (.tmp 0), 9, none, true⟩,
  ⟨some (4, false), .build 60 #[(0, .tmp 3)], 60, none, true⟩,
  ⟨some (5, false), .box 60 (.tmp 4), 52, none, false⟩,
  ⟨some (2, true), .assign (.tmp 5), 52, none, true⟩] τ ρ h := _root_.id rfl
def pool_NewReader : Cd := .seq (.region pool_NewReader_r0) (.seq (.region pool_NewReader_r1) (.ret))
theorem pool_NewReader_go {Q : Ex → Env → Heap → Prop} {ρ : Env} {h : Heap} : Cd.vc Try.prog pool_NewReader Q ρ h = Cd.vc Try.prog (.seq (.region pool_NewReader_r0) (.seq (.region pool_NewReader_r1) (.ret))) Q ρ h := _root_.id rfl
theorem pool_NewReader_calls {args : List Value} {h : Heap} {R : Value → Heap → Prop} (hl : args.length = 1) (hv : Cd.vc Try.prog pool_NewReader (retQ Try.prog [(2, none)] R) (initEnv args [0, 2]) h) : HCalls Try.prog 24 args.toArray h R :=
  hcalls_of_vc (by kernel_rfl) Try.func24 (cd := pool_NewReader) (L := [0, 2]) (by kernel_rfl) (by kernel_rfl) ⟨by rw [hl, Try.ntmps24]; decide, by rw [Try.ntmps24]; decide⟩ hv
def pool_NewReader_gos := And.intro @pool_NewReader_go (And.intro @pool_NewReader_r0_go (@pool_NewReader_r1_go))

/-! (*jvmcore/pool.Reader).Pool: function 25: slots [0, 2, 3, 4, 5, 6, 7, 15, 29, 47, 55] -/
def Reader_Pool_r0 : List Sop := [
  ⟨some (2, true), .assign (.const (.slice none 0 0)), 34, none, true⟩]
theorem Reader_Pool_r0_go {K : Env → Heap → Prop} {τ ρ : Env} {h : Heap} : vcOps Try.prog K Reader_Pool_r0 τ ρ h = vcOps Try.prog K [
  ⟨some (2, true), .assign (.const (.slice none 0 0)), 34, none, true⟩] τ ρ h := _root_.id rfl
def Reader_Pool_r1 : List Sop := [
  ⟨some (8, false), .move (.tmp 0), 52, none, true⟩,
  ⟨some (9, false), .nilCheck (.tmp 8), 0, none, true⟩,
  ⟨some (10, false), .fieldAddr 60 (.tmp 9) 1, 0, none, true⟩,
  ⟨some (11, false), .load 3 (.tmp 10), 3, none, true⟩,
  ⟨some (3, true), .assign (.tmp 11), 3, none, true⟩]
theorem Reader_Pool_r1_go {K : Env → Heap → Prop} {τ ρ : Env} {h : Heap} : vcOps Try.prog K Reader_Pool_r1 τ ρ h = vcOps Try.prog K [
  ⟨some (8, false), .move (.tmp 0), 52, none, true⟩,
  ⟨some (9, false), .nilCheck (.tmp 8), 0, none, true⟩,
  ⟨some (10, false), .fieldAddr 60 (.tmp 9) 1, 0, none, true⟩,
  ⟨some (11, false), .load 3 (.tmp 10), 3, none, true⟩,
  ⟨some (3, true), .assign (.tmp 11), 3, none, true⟩] τ ρ h := _root_.id rfl
def Reader_Pool_r2 : List Sop := [
  ⟨some (12, false), .move (.tmp 0), 52, none, true⟩,
  ⟨some (13, false), .call { callee := .value (.func 29), args := #[.tmp 12, .const (.int .i64 2)], argTypes := #[52, 3] }, 3, none, false⟩,
  ⟨some (4, true), .assign (.tmp 13), 3, none, true⟩]
theorem Reader_Pool_r2_go {K : Env → Heap → Prop} {τ ρ : Env} {h : Heap} : vcOps Try.prog K Reader_Pool_r2 τ ρ h = vcOps Try.prog K [
  ⟨some (12, false), .move (.tmp 0), 52, none, true⟩,
  ⟨some (13, false), .call { callee := .value (.func 29), args := #[.tmp 12, .const (.int .i64 2)], argTypes := #[52, 3] }, 3, none, false⟩,
  ⟨some (4, true), .assign (.tmp 13), 3, none, true⟩] τ ρ h := _root_.id rfl
def Reader_Pool_r3 : List Sop := [
  ⟨some (14, false), .move (.tmp 4), 3, none, true⟩,
  ⟨some (15, true), .binOp .eql 3 (.tmp 14) (.const (.int .i64 0)) 3, 4, none, true⟩]
theorem Reader_Pool_r3_go {K : Env → Heap → Prop} {τ ρ : Env} {h : Heap} : vcOps Try.prog K Reader_Pool_r3 τ ρ h = vcOps Try.prog K [
  ⟨some (14, false), .move (.tmp 4), 3, none, true⟩,
  ⟨some (15, true), .binOp .eql 3 (.tmp 14) (.const (.int .i64 0)) 3, 4, none, true⟩] τ ρ h := _root_.id rfl
def Reader_Pool_r4 : List Sop := [
  ⟨some (16, false), .move (.tmp 0), 52, none, true⟩,
  ⟨some (17, false), .move (.tmp 3), 3, none, true⟩,
  ⟨some (18, false), .call { callee := .value (.func 30), args := #[.tmp 16, .const (.int .i64 12), .tmp 17], argTypes := #[52, 38, 3] }, 0, none, false⟩]
theorem Reader_Pool_r4_go {K : Env → Heap → Prop} {τ ρ : Env} {h : Heap} : vcOps Try.prog K Reader_Pool_r4 τ ρ h = vcOps Try.prog K [
  ⟨some (16, false), .move (.tmp 0), 52, none, true⟩,
  ⟨some (17, false), .move (.tmp 3), 3, none, true⟩,
  ⟨some (18, false), .call { callee := .value (.func 30), args := #[.tmp 16, .const (.int .i64 12), .tmp 17], argTypes := #[52, 38, 3] }, 0, none, false⟩] τ ρ h := _root_.id rfl
def Reader_Pool_r5 : List Sop := [
  ⟨some (19, false), .build 37 #[], 37, none, true⟩,
  ⟨some (20, false), .buildSlice 34 1 #[(0, .tmp 19)], 34, none, false⟩,
  ⟨some (5, true), .assign (.tmp 20), 34, none, true⟩]
theorem Reader_Pool_r5_go {K : Env → Heap → Prop} {τ ρ : Env} {h : Heap} : vcOps Try.prog K Reader_Pool_r5 τ ρ h = vcOps Try.prog K [
  ⟨some (19, false), .build 37 #[], 37, none, true⟩,
  ⟨some (20, false), .buildSlice 34 1 #[(0, .tmp 19)], 34, none, false⟩,
  ⟨some (5, true), .assign (.tmp 20), 34, none, true⟩] τ ρ h := _root_.id rfl
def Reader_Pool_r6 : List Sop := [
  ⟨some (21, false), .move (.tmp 5), 34, none, true⟩,
  ⟨some (22, false), .call { callee := .builtin .len, args := #[.tmp 21], argTypes := #[34] }, 3, none, true⟩,
  ⟨some (23, false), .move (.tmp 4), 3, none, true⟩,
  ⟨some (24, false), .binOp .lss 3 (.tmp 22) (.tmp 23) 3, 4, none, true⟩,
  ⟨some (25, false), .move (.tmp 24), 4, none, true⟩,
  ⟨some (26, false), .move (.tmp 0), 52, some (25, true), true⟩,
  ⟨some (27, false), .call { callee := .value (.func 31), args := #[.tmp 26], argTypes := #[52] }, 4, some (25, true), false⟩,
  ⟨some (28, false), .unOp .not 4 (.tmp 27), 4, some (25, true), true⟩,
  ⟨some (29, true), .pick (.tmp 25) (.tmp 28) (.const (.bool false)), 4, none, true⟩]
theorem Reader_Pool_r6_go {K : Env → Heap → Prop} {τ ρ : Env} {h : Heap} : vcOps Try.prog K Reader_Pool_r6 τ ρ h = vcOps Try.prog K [
  ⟨some (21, false), .move (.tmp 5), 34, none, true⟩,
  ⟨some (22, false), .call { callee := .builtin .len, args := #[.tmp 21], argTypes := #[34] }, 3, none, true⟩,
  ⟨some (23, false), .move (.tmp 4), 3, none, true⟩,
  ⟨some (24, false), .binOp .lss 3 (.tmp 22) (.tmp 23) 3, 4, none, true⟩,
  ⟨some (25, false), .move (.tmp 24), 4, none, true⟩,
  ⟨some (26, false), .move (.tmp 0), 52, some (25, true), true⟩,
  ⟨some (27, false), .call { callee := .value (.func 31), args := #[.tmp 26], argTypes := #[52] }, 4, some (25, true), false⟩,
  ⟨some (28, false), .unOp .not 4 (.tmp 27), 4, some (25, true), true⟩,
  ⟨some (29, true), .pick (.tmp 25) (.tmp 28) (.const (.bool false)), 4, none, true⟩] τ ρ h := _root_.id rfl
def Reader_Pool_r7 : List Sop := [
  ⟨some (30, false), .move (.tmp 0), 52, none, true⟩,
  ⟨some (31, false), .nilCheck (.tmp 30), 0, none, true⟩,
  ⟨some (32, false), .fieldAddr 60 (.tmp 31) 1, 0, none, true⟩,
  ⟨some (33, false), .load 3 (.tmp 32), 3, none, true⟩,
  ⟨some (6, true), .assign (.tmp 33), 3, none, true⟩]
theorem Reader_Pool_r7_go {K : Env → Heap → Prop} {τ ρ : Env} {h : Heap} : vcOps Try.prog K Reader_Pool_r7 τ ρ h = vcOps Try.prog K [
  ⟨some (30, false), .move (.tmp 0), 52, none, true⟩,
  ⟨some (31, false), .nilCheck (.tmp 30), 0, none, true⟩,
  ⟨some (32, false), .fieldAddr 60 (.tmp 31) 1, 0, none, true⟩,
  ⟨some (33, false), .load 3 (.tmp 32), 3, none, true⟩,
  ⟨some (6, true), .assign (.tmp 33), 3, none, true⟩] τ ρ h := _root_.id rfl
def Reader_Pool_r8 : List Sop := [
  ⟨some (34, false), .move (.tmp 0), 52, none, true⟩,
  ⟨some (35, false), .call { callee := .value (.func 32), args := #[.tmp 34], argTypes := #[52] }, 37, none, false⟩,
  ⟨some (7, true), .alloc 37, 0, none, false⟩,
  ⟨none, .store 37 (.tmp 7) (.tmp 35), 0, none, false⟩]
theorem Reader_Pool_r8_go {K : Env → Heap → Prop} {τ ρ : Env} {h : Heap} : vcOps Try.prog K Reader_Pool_r8 τ ρ h = vcOps Try.prog K [
  ⟨some (34, false), .move (.tmp 0), 52, none, true⟩,
  ⟨some (35, false), .call { callee := .value (.func 32), args := #[.tmp 34], argTypes := #[52] }, 37, none, false⟩,
  ⟨some (7, true), .alloc 37, 0, none, false⟩,
  ⟨none, .store 37 (.tmp 7) (.tmp 35), 0, none, false⟩] τ ρ h := _root_.id rfl
def Reader_Pool_r9 : List Sop := [
  ⟨some (36, false), .move (.tmp 5), 34, none, true⟩,
  ⟨some (37, false), .load 37 (.tmp 7), 37, none, true⟩,
  ⟨some (38, false), .buildSlice 34 1 #[(0, .tmp 37)], 34, none, false⟩,
  ⟨some (39, false), .call { callee := .builtin .append, args := #[.tmp 36, .tmp 38], argTypes := #[34, 34] }, 34, none, false⟩,
  ⟨some (5, true), .assign (.tmp 39), 34, none, true⟩]
theorem Reader_Pool_r9_go {K : Env → Heap → Prop} {τ ρ : Env} {h : Heap} : vcOps Try.prog K Reader_Pool_r9 τ ρ h = vcOps Try.prog K [
  ⟨some (36, false), .move (.tmp 5), 34, none, true⟩,
  ⟨some (37, false), .load 37 (.tmp 7), 37, none, true⟩,
  ⟨some (38, false), .buildSlice 34 1 #[(0, .tmp 37)], 34, none, false⟩,
  ⟨some (39, false), .call { callee := .builtin .append, args := #[.tmp 36, .tmp 38], argTypes := #[34, 34] }, 34, none, false⟩,
  ⟨some (5, true), .assign (.tmp 39), 34, none, true⟩] τ ρ h := _root_.id rfl
def Reader_Pool_r10 : List Sop := [
  ⟨some (40, false), .fieldAddr 37 (.tmp 7) 0, 0, none, true⟩,
  ⟨some (41, false), .load 5 (.tmp 40), 5, none, true⟩,
  ⟨some (42, false), .binOp .eql 5 (.tmp 41) (.const (.int .u8 5)) 5, 4, none, true⟩,
  ⟨some (43, false), .move (.tmp 42), 4, none, true⟩,
  ⟨some (44, false), .fieldAddr 37 (.tmp 7) 0, 0, some (43, false), true⟩,
  ⟨some (45, false), .load 5 (.tmp 44), 5, some (43, false), true⟩,
  ⟨some (46, false), .binOp .eql 5 (.tmp 45) (.const (.int .u8 6)) 5, 4, some (43, false), true⟩,
  ⟨some (47, true), .pick (.tmp 43) (.const (.bool true)) (.tmp 46), 4, none, true⟩]
theorem Reader_Pool_r10_go {K : Env → Heap → Prop} {τ ρ : Env} {h : Heap} : vcOps Try.prog K Reader_Pool_r10 τ ρ h = vcOps Try.prog K [
  ⟨some (40, false), .fieldAddr 37 (.tmp 7) 0, 0, none, true⟩,
  ⟨some (41, false), .load 5 (.tmp 40), 5, none, true⟩,
  ⟨some (42, false), .binOp .eql 5 (.tmp 41) (.const (.int .u8 5)) 5, 4, none, true⟩,
  ⟨some (43, false), .move (.tmp 42), 4, none, true⟩,
  ⟨some (44, false), .fieldAddr 37 (.tmp 7) 0, 0, some (43, false), true⟩,
  ⟨some (45, false), .load 5 (.tmp 44), 5, some (43, false), true⟩,
  ⟨some (46, false), .binOp .eql 5 (.tmp 45) (.const (.int .u8 6)) 5, 4, some (43, false), true⟩,
  ⟨some (47, true), .pick (.tmp 43) (.const (.bool true)) (.tmp 46), 4, none, true⟩] τ ρ h := _root_.id rfl
def Reader_Pool_r11 : List Sop := [
  ⟨some (48, false), .move (.tmp 5), 34, none, true⟩,
  ⟨some (49, false), .build 37 #[], 37, none, true⟩,
  ⟨some (50, false), .buildSlice 34 1 #[(0, .tmp 49)], 34, none, false⟩,
  ⟨some (51, false), .call { callee := .builtin .append, args := #[.tmp 48, .tmp 50], argTypes := #[34, 34] }, 34, none, false⟩,
  ⟨some (5, true), .assign (.tmp 51), 34, none, true⟩]
theorem Reader_Pool_r11_go {K : Env → Heap → Prop} {τ ρ : Env} {h : Heap} : vcOps Try.prog K Reader_Pool_r11 τ ρ h = vcOps Try.prog K [
  ⟨some (48, false), .move (.tmp 5), 34, none, true⟩,
  ⟨some (49, false), .build 37 #[], 37, none, true⟩,
  ⟨some (50, false), .buildSlice 34 1 #[(0, .tmp 49)], 34, none, false⟩,
  ⟨some (51, false), .call { callee := .builtin .append, args := #[.tmp 48, .tmp 50], argTypes := #[34, 34] }, 34, none, false⟩,
  ⟨some (5, true), .assign (.tmp 51), 34, none, true⟩] τ ρ h := _root_.id rfl
def Reader_Pool_r12 : List Sop := [
  ⟨some (52, false), .move (.tmp 5), 34, none, true⟩,
  ⟨some (53, false), .call { callee := .builtin .len, args := #[.tmp 52], argTypes := #[34] }, 3, none, true⟩,
  ⟨some (54, false), .move (.tmp 4), 3, none, true⟩,
  ⟨some (55, true), .binOp .gtr 3 (.tmp 53) (.tmp 54) 3, 4, none, true⟩]
theorem Reader_Pool_r12_go {K : Env → Heap → Prop} {τ ρ : Env} {h : Heap} : vcOps Try.prog K Reader_Pool_r12 τ ρ h = vcOps Try.prog K [
  ⟨some (52, false), .move (.tmp 5), 34, none, true⟩,
  ⟨some (53, false), .call { callee := .builtin .len, args := #[.tmp 52], argTypes := #[34] }, 3, none, true⟩,
  ⟨some (54, false), .move (.tmp 4), 3, none, true⟩,
  ⟨some (55, true), .binOp .gtr 3 (.tmp 53) (.tmp 54) 3, 4, none, true⟩] τ ρ h := _root_.id rfl
def Reader_Pool_r13 : List Sop := [
  ⟨some (56, false), .move (.tmp 0), 52, none, true⟩,
  ⟨some (57, false), .move (.tmp 6), 3, none, true⟩,
  ⟨some (58, false), .call { callee := .value (.func 30), args := #[.tmp 56, .const (.int .i64 12), .tmp 57], argTypes := #[52, 38, 3] }, 0, none, false⟩]
theorem Reader_Pool_r13_go {K : Env → Heap → Prop} {τ ρ : Env} {h : Heap} : vcOps Try.prog K Reader_Pool_r13 τ ρ h = vcOps Try.prog K [
  ⟨some (56, false), .move (.tmp 0), 52, none, true⟩,
  ⟨some (57, false), .move (.tmp 6), 3, none, true⟩,
  ⟨some (58, false), .call { callee := .value (.func 30), args := #[.tmp 56, .const (.int .i64 12), .tmp 57], argTypes := #[52, 38, 3] }, 0, none, false⟩] τ ρ h := _root_.id rfl
def Reader_Pool_r14 : List Sop := [
  ⟨some (59, false), .move (.tmp 5), 34, none, true⟩,
  ⟨some (2, true), .assign (.tmp 59), 34, none, true⟩]
theorem Reader_Pool_r14_go {K : Env → Heap → Prop} {τ ρ : Env} {h : Heap} : vcOps Try.prog K Reader_Pool_r14 τ ρ h = vcOps Try.prog K [
  ⟨some (59, false), .move (.tmp 5), 34, none, true⟩,
  ⟨some (2, true), .assign (.tmp 59), 34, none, true⟩] τ ρ h := _root_.id rfl
def Reader_Pool_l0 : Cd := .seq (.seq (.region Reader_Pool_r6) (.cond (.tmp 29) (.skip) (.exit 0))) (.block 1 (.seq (.region Reader_Pool_r7) (.seq (.region Reader_Pool_r8) (.seq (.region Reader_Pool_r9) (.seq (.region Reader_Pool_r10) (.cond (.tmp 47) (.seq (.region Reader_Pool_r11) (.seq (.region Reader_Pool_r12) (.cond (.tmp 55) (.region Reader_Pool_r13) (.skip)))) (.skip)))))))
theorem Reader_Pool_l0_go {Q : Ex → Env → Heap → Prop} {ρ : Env} {h : Heap} : Cd.vc Try.prog Reader_Pool_l0 Q ρ h = Cd.vc Try.prog (.seq (.seq (.region Reader_Pool_r6) (.cond (.tmp 29) (.skip) (.exit 0))) (.block 1 (.seq (.region Reader_Pool_r7) (.seq (.region Reader_Pool_r8) (.seq (.region Reader_Pool_r9) (.seq (.region Reader_Pool_r10) (.cond (.tmp 47) (.seq (.region Reader_Pool_r11) (.seq (.region Reader_Pool_r12) (.cond (.tmp 55) (.region Reader_Pool_r13) (.skip)))) (.skip)))))))) Q ρ h := _root_.id rfl
def Reader_Pool : Cd := .seq (.region Reader_Pool_r0) (.seq (.region Reader_Pool_r1) (.seq (.region Reader_Pool_r2) (.seq (.seq (.region Reader_Pool_r3) (.cond (.tmp 15) (.region Reader_Pool_r4) (.skip))) (.seq (.region Reader_Pool_r5) (.seq (.block 0 (.loop Reader_Pool_l0)) (.seq (.region Reader_Pool_r14) (.ret)))))))
theorem Reader_Pool_go {Q : Ex → Env → Heap → Prop} {ρ : Env} {h : Heap} : Cd.vc Try.prog Reader_Pool Q ρ h = Cd.vc Try.prog (.seq (.region Reader_Pool_r0) (.seq (.region Reader_Pool_r1) (.seq (.region Reader_Pool_r2) (.seq (.seq (.region Reader_Pool_r3) (.cond (.tmp 15) (.region Reader_Pool_r4) (.skip))) (.seq (.region Reader_Pool_r5) (.seq (.block 0 (.loop Reader_Pool_l0)) (.seq (.region Reader_Pool_r14) (.ret)))))))) Q ρ h := _root_.id rfl
theorem Reader_Pool_calls {args : List Value} {h : Heap} {R : Value → Heap → Prop} (hl : args.length = 1) (hv : Cd.vc Try.prog Reader_Pool (retQ Try.prog [(2, none)] R) (initEnv args [0, 2, 3, 4, 5, 6, 7, 15, 29, 47, 55]) h) : HCalls Try.prog 25 args.toArray h R :=
  hcalls_of_vc (by kernel_rfl) Try.func25 (cd := Reader_Pool) (L := [0, 2, 3, 4, 5, 6, 7, 15, 29, 47, 55]) (by kernel_rfl) (by kernel_rfl) ⟨by rw [hl, Try.ntmps25]; decide, by rw [Try.ntmps25]; decide⟩ hv
def Reader_Pool_gos := And.intro @Reader_Pool_go (And.intro @Reader_Pool_r0_go (And.intro @Reader_Pool_r1_go (And.intro @Reader_Pool_r2_go (And.intro @Reader_Pool_r3_go (And.intro @Reader_Pool_r4_go (And.intro @Reader_Pool_r5_go (And.intro @Reader_Pool_r6_go (And.intro @Reader_Pool_r7_go (And.intro @Reader_Pool_r8_go (And.intro @Reader_Pool_r9_go (And.intro @Reader_Pool_r10_go (And.intro @Reader_Pool_r11_go (And.intro @Reader_Pool_r12_go (And.intro @Reader_Pool_r13_go (And.intro @Reader_Pool_r14_go (@Reader_Pool_l0_go))))))))))))))))

/-! (*jvmcore/pool.Reader).Err: function 26: slots [0, 2, 3] -/
def Reader_Err_r0 : List Sop := [
  ⟨some (2, true), .assign (.const (.int .i64 0)), 38, none, true⟩,
  ⟨some (3, true), .assign (.const (.int .i64 0)), 3, none, true⟩]
theorem Reader_Err_r0_go {K : Env → Heap → Prop} {τ ρ : Env} {h : Heap} : vcOps Try.prog K Reader_Err_r0 τ ρ h = vcOps Try.prog K [
  ⟨some (2, true), .assign (.const (.int .i64 0)), 38, none, true⟩,
  ⟨some (3, true), .assign (.const (.int .i64 0)), 3, none, true⟩] τ ρ h := _root_.id rfl
def Reader_Err_r1 : List (Sop × List Sop) := [
  (⟨some (4, false), .move (.tmp 0), 52, none, true⟩, []),
  (⟨some (5, false), .nilCheck (.tmp 4), 0, none, true⟩, []),
  (⟨some (6, false), .fieldAddr 60 (.tmp 5) 2, 0, none, true⟩, []),
  (⟨some (7, false), .load 38 (.tmp 6), 38, none, true⟩, []),
  (⟨some (8, false), .move (.tmp 0), 52, none, true⟩, []),
  (⟨some (9, false), .nilCheck (.tmp 8), 0, none, true⟩, []),
  (⟨some (10, false), .fieldAddr 60 (.tmp 9) 3, 0, none, true⟩, []),
  (⟨some (11, false), .load 3 (.tmp 10), 3, none, true⟩, []),
  (⟨some (2, true), .assign (.tmp 7), 38, none, true⟩, []),
  (⟨some (3, true), .assign (.tmp 11), 3, none, true⟩, [])]
theorem Reader_Err_r1_go {K : Env → Heap → Prop} {τ ρ : Env} {h : Heap} : vcDraw Try.prog K Reader_Err_r1 τ ρ h = vcDraw Try.prog K [
  (⟨some (4, false), .move (.tmp 0), 52, none, true⟩, []),
  (⟨some (5, false), .nilCheck (.tmp 4), 0, none, true⟩, []),
  (⟨some (6, false), .fieldAddr 60 (.tmp 5) 2, 0, none, true⟩, []),
  (⟨some (7, false), .load 38 (.tmp 6), 38, none, true⟩, []),
  (⟨some (8, false), .move (.tmp 0), 52, none, true⟩, []),
  (⟨some (9, false), .nilCheck (.tmp 8), 0, none, true⟩, []),
  (⟨some (10, false), .fieldAddr 60 (.tmp 9) 3, 0, none, true⟩, []),
  (⟨some (11, false), .load 3 (.tmp 10), 3, none, true⟩, []),
  (⟨some (2, true), .assign (.tmp 7), 38, none, true⟩, []),
  (⟨some (3, true), .assign (.tmp 11), 3, none, true⟩, [])] τ ρ h := _root_.id rfl
def Reader_Err : Cd := .seq (.region Reader_Err_r0) (.seq (.draw Reader_Err_r1) (.ret))
theorem Reader_Err_go {Q : Ex → Env → Heap → Prop} {ρ : Env} {h : Heap} : Cd.vc Try.prog Reader_Err Q ρ h = Cd.vc Try.prog (.seq (.region Reader_Err_r0) (.seq (.draw Reader_Err_r1) (.ret))) Q ρ h := _root_.id rfl
theorem Reader_Err_calls {args : List Value} {h : Heap} {R : Value → Heap → Prop} (hl : args.length = 1) (hv : Cd.vc Try.prog Reader_Err (retQ Try.prog [(2, none), (3, none)] R) (initEnv args [0, 2, 3]) h) : HCalls Try.prog 26 args.toArray h R :=
  hcalls_of_vc (by kernel_rfl) Try.func26 (cd := Reader_Err) (L := [0, 2, 3]) (by kernel_rfl) (by kernel_rfl) ⟨by rw [hl, Try.ntmps26]; decide, by rw [Try.ntmps26]; decide⟩ hv
def Reader_Err_gos := And.intro @Reader_Err_go (And.intro @Reader_Err_r0_go (@Reader_Err_r1_go))

/-! (*jvmcore/pool.Reader).At: function 27: slots [0, 2] -/
def Reader_At_r0 : List Sop := [
  ⟨some (2, true), .assign (.const (.int .i64 0)), 3, none, true⟩]
theorem Reader_At_r0_go {K : Env → Heap → Prop} {τ ρ : Env} {h : Heap} : vcOps Try.prog K Reader_At_r0 τ ρ h = vcOps Try.prog K [
  ⟨some (2, true), .assign (.const (.int .i64 0)), 3, none, true⟩] τ ρ h := _root_.id rfl
def Reader_At_r1 : List Sop := [
  ⟨some (3, false), .move (.tmp 0), 52, none, true⟩,
  ⟨some (4, false), .nilCheck (.tmp 3), 0, none, true⟩,
  ⟨some (5, false), .fieldAddr 60 (.tmp 4) 1, 0, none, true⟩,
  ⟨some (6, false), .load 3 (.tmp 5), 3, none, true⟩,
  ⟨some (2, true), .assign (.tmp 6), 3, none, true⟩]
theorem Reader_At_r1_go {K : Env → Heap → Prop} {τ ρ : Env} {h : Heap} : vcOps Try.prog K Reader_At_r1 τ ρ h = vcOps Try.prog K [
  ⟨some (3, false), .move (.tmp 0), 52, none, true⟩,
  ⟨some (4, false), .nilCheck (.tmp 3), 0, none, true⟩,
  ⟨some (5, false), .fieldAddr 60 (.tmp 4) 1, 0, none, true⟩,
  ⟨some (6, false), .load 3 (.tmp 5), 3, none, true⟩,
  ⟨some (2, true), .assign (.tmp 6), 3, none, true⟩] τ ρ h := _root_.id rfl
def Reader_At : Cd := .seq (.region Reader_At_r0) (.seq (.region Reader_At_r1) (.ret))
theorem Reader_At_go {Q : Ex → Env → Heap → Prop} {ρ : Env} {h : Heap} : Cd.vc Try.prog Reader_At Q ρ h = Cd.vc Try.prog (.seq (.region Reader_At_r0) (.seq (.region Reader_At_r1) (.ret))) Q ρ h := _root_.id rfl
theorem Reader_At_calls {args : List Value} {h : Heap} {R : Value → Heap → Prop} (hl : args.length = 1) (hv : Cd.vc Try.prog Reader_At (retQ Try.prog [(2, none)] R) (initEnv args [0, 2]) h) : HCalls Try.prog 27 args.toArray h R :=
  hcalls_of_vc (by kernel_rfl) Try.func27 (cd := Reader_At) (L := [0, 2]) (by kernel_rfl) (by kernel_rfl) ⟨by rw [hl, Try.ntmps27]; decide, by rw [Try.ntmps27]; decide⟩ hv
def Reader_At_gos := And.intro @Reader_At_go (And.intro @Reader_At_r0_go (@Reader_At_r1_go))

/-! (*jvmcore/pool.Reader).Num: function 29: slots [0, 1, 4, 5, 7, 11, 12, 13, 14] -/
def Reader_Num_r0 : List Sop := [
  ⟨some (4, true), .assign (.const (.int .i64 0)), 3, none, true⟩]
theorem Reader_Num_r0_go {K : Env → Heap → Prop} {τ ρ : Env} {h : Heap} : vcOps Try.prog K Reader_Num_r0 τ ρ h = vcOps Try.prog K [
  ⟨some (4, true), .assign (.const (.int .i64 0)), 3, none, true⟩] τ ρ h := _root_.id rfl
def Reader_Num_r1 : List Sop := [
  ⟨some (5, true), .assign (.const (.int .i64 0)), 3, none, true⟩]
theorem Reader_Num_r1_go {K : Env → Heap → Prop} {τ ρ : Env} {h : Heap} : vcOps Try.prog K Reader_Num_r1 τ ρ h = vcOps Try.prog K [
  ⟨some (5, true), .assign (.const (.int .i64 0)), 3, none, true⟩] τ ρ h := _root_.id rfl
def Reader_Num_r2 : List Sop := [
  ⟨some (8, false), .move (.tmp 0), 52, none, true⟩,
  ⟨some (9, false), .move (.tmp 1), 3, none, true⟩,
  ⟨some (10, false), .call { callee := .value (.func 33), args := #[.tmp 8, .tmp 9], argTypes := #[52, 3] }, 9, none, false⟩,
  ⟨some (11, true), .convert 9 49 (.tmp 10), 49, none, false⟩,
  ⟨some (12, true), .call { callee := .builtin .len, args := #[.tmp 11], argTypes := #[49] }, 3, none, true⟩,
  ⟨some (13, true), .move (.const (.int .i64 0)), 3, none, true⟩]
theorem Reader_Num_r2_go {K : Env → Heap → Prop} {τ ρ : Env} {h : Heap} : vcOps Try.prog K Reader_Num_r2 τ ρ h = vcOps Try.prog K [
  ⟨some (8, false), .move (.tmp 0), 52, none, true⟩,
  ⟨some (9, false), .move (.tmp 1), 3, none, true⟩,
  ⟨some (10, false), .call { callee := .value (.func 33), args := #[.tmp 8, .tmp 9], argTypes := #[52, 3] }, 9, none, false⟩,
  ⟨some (11, true), .convert 9 49 (.tmp 10), 49, none, false⟩,
  ⟨some (12, true), .call { callee := .builtin .len, args := #[.tmp 11], argTypes := #[49] }, 3, none, true⟩,
  ⟨some (13, true), .move (.const (.int .i64 0)), 3, none, true⟩] τ ρ h := _root_.id rfl
def Reader_Num_r3 : List Sop := [
  ⟨some (14, true), .binOp .lss 3 (.tmp 13) (.tmp 12) 3, 0, none, true⟩]
theorem Reader_Num_r3_go {K : Env → Heap → Prop} {τ ρ : Env} {h : Heap} : vcOps Try.prog K Reader_Num_r3 τ ρ h = vcOps Try.prog K [
  ⟨some (14, true), .binOp .lss 3 (.tmp 13) (.tmp 12) 3, 0, none, true⟩] τ ρ h := _root_.id rfl
def Reader_Num_r4 : List Sop := [
  ⟨some (15, false), .indexAddr 49 (.tmp 11) (.tmp 13), 0, none, true⟩,
  ⟨some (16, false), .load 5 (.tmp 15), 5, none, true⟩,
  ⟨some (7, true), .assign (.tmp 16), 5, none, true⟩]
theorem Reader_Num_r4_go {K : Env → Heap → Prop} {τ ρ : Env} {h : Heap} : vcOps Try.prog K Reader_Num_r4 τ ρ h = vcOps Try.prog K [
  ⟨some (15, false), .indexAddr 49 (.tmp 11) (.tmp 13), 0, none, true⟩,
  ⟨some (16, false), .load 5 (.tmp 15), 5, none, true⟩,
  ⟨some (7, true), .assign (.tmp 16), 5, none, true⟩] τ ρ h := _root_.id rfl
def Reader_Num_r5 : List Sop := [
  ⟨some (17, false), .move (.tmp 5), 3, none, true⟩,
  ⟨some (18, false), .binOp .shl 3 (.tmp 17) (.const (.int .u64 8)) 47, 3, none, true⟩,
  ⟨some (19, false), .move (.tmp 7), 5, none, true⟩,
  ⟨some (20, false), .convert 5 3 (.tmp 19), 3, none, true⟩,
  ⟨some (21, false), .binOp .or 3 (.tmp 18) (.tmp 20) 3, 3, none, true⟩,
  ⟨some (5, true), .assign (.tmp 21), 3, none, true⟩]
theorem Reader_Num_r5_go {K : Env → Heap → Prop} {τ ρ : Env} {h : Heap} : vcOps Try.prog K Reader_Num_r5 τ ρ h = vcOps Try.prog K [
  ⟨some (17, false), .move (.tmp 5), 3, none, true⟩,
  ⟨some (18, false), .binOp .shl 3 (.tmp 17) (.const (.int .u64 8)) 47, 3, none, true⟩,
  ⟨some (19, false), .move (.tmp 7), 5, none, true⟩,
  ⟨some (20, false), .convert 5 3 (.tmp 19), 3, none, true⟩,
  ⟨some (21, false), .binOp .or 3 (.tmp 18) (.tmp 20) 3, 3, none, true⟩,
  ⟨some (5, true), .assign (.tmp 21), 3, none, true⟩] τ ρ h := _root_.id rfl
def Reader_Num_r6 : List Sop := [
  ⟨some (22, false), .binOp .add 3 (.tmp 13) (.const (.int .i64 1)) 3, 3, none, true⟩,
  ⟨some (13, true), .move (.tmp 22), 3, none, true⟩]
theorem Reader_Num_r6_go {K : Env → Heap → Prop} {τ ρ : Env} {h : Heap} : vcOps Try.prog K Reader_Num_r6 τ ρ h = vcOps Try.prog K [
  ⟨some (22, false), .binOp .add 3 (.tmp 13) (.const (.int .i64 1)) 3, 3, none, true⟩,
  ⟨some (13, true), .move (.tmp 22), 3, none, true⟩] τ ρ h := _root_.id rfl
def Reader_Num_r7 : List Sop := [
  ⟨some (23, false), .move (.tmp 5), 3, none, true⟩,
  ⟨some (4, true), .assign (.tmp 23), 3, none, true⟩]
theorem Reader_Num_r7_go {K : Env → Heap → Prop} {τ ρ : Env} {h : Heap} : vcOps Try.prog K Reader_Num_r7 τ ρ h = vcOps Try.prog K [
  ⟨some (23, false), .move (.tmp 5), 3, none, true⟩,
  ⟨some (4, true), .assign (.tmp 23), 3, none, true⟩] τ ρ h := _root_.id rfl
def Reader_Num_l0 : Cd := .seq (.region Reader_Num_r3) (.seq (.cond (.tmp 14) (.skip) (.exit 0)) (.seq (.block 1 (.seq (.region Reader_Num_r4) (.region Reader_Num_r5))) (.region Reader_Num_r6)))
theorem Reader_Num_l0_go {Q : Ex → Env → Heap → Prop} {ρ : Env} {h : Heap} : Cd.vc Try.prog Reader_Num_l0 Q ρ h = Cd.vc Try.prog (.seq (.region Reader_Num_r3) (.seq (.cond (.tmp 14) (.skip) (.exit 0)) (.seq (.block 1 (.seq (.region Reader_Num_r4) (.region Reader_Num_r5))) (.region Reader_Num_r6)))) Q ρ h := _root_.id rfl
def Reader_Num : Cd := .seq (.region Reader_Num_r0) (.seq (.region Reader_Num_r1) (.seq (.seq (.region Reader_Num_r2) (.block 0 (.loop Reader_Num_l0))) (.seq (.region Reader_Num_r7) (.ret))))
theorem Reader_Num_go {Q : Ex → Env → Heap → Prop} {ρ : Env} {h : Heap} : Cd.vc Try.prog Reader_Num Q ρ h = Cd.vc Try.prog (.seq (.region Reader_Num_r0) (.seq (.region Reader_Num_r1) (.seq (.seq (.region Reader_Num_r2) (.block 0 (.loop Reader_Num_l0))) (.seq (.region Reader_Num_r7) (.ret))))) Q ρ h := _root_.id rfl
theorem Reader_Num_calls {args : List Value} {h : Heap} {R : Value → Heap → Prop} (hl : args.length = 2) (hv : Cd.vc Try.prog Reader_Num (retQ Try.prog [(4, none)] R) (initEnv args [0, 1, 4, 5, 7, 11, 12, 13, 14]) h) : HCalls Try.prog 29 args.toArray h R :=
  hcalls_of_vc (by kernel_rfl) Try.func29 (cd := Reader_Num) (L := [0, 1, 4, 5, 7, 11, 12, 13, 14]) (by kernel_rfl) (by kernel_rfl) ⟨by rw [hl, Try.ntmps29]; decide, by rw [Try.ntmps29]; decide⟩ hv
def Reader_Num_gos := And.intro @Reader_Num_go (And.intro @Reader_Num_r0_go (And.intro @Reader_Num_r1_go (And.intro @Reader_Num_r2_go (And.intro @Reader_Num_r3_go (And.intro @Reader_Num_r4_go (And.intro @Reader_Num_r5_go (And.intro @Reader_Num_r6_go (And.intro @Reader_Num_r7_go (@Reader_Num_l0_go)))))))))

/-! (*jvmcore/pool.Reader).Fail: function 30: slots [0, 1, 2, 10] -/
def Reader_Fail_r0 : List Sop := [
  ⟨some (6, false), .move (.tmp 0), 52, none, true⟩,
  ⟨some (7, false), .nilCheck (.tmp 6), 0, none, true⟩,
  ⟨some (8, false), .fieldAddr 60 (.tmp 7) 2, 0, none, true⟩,
  ⟨some (9, false), .load 38 (.tmp 8), 38, none, true⟩,
  ⟨some (10, true), .binOp .eql 38 (.tmp 9) (.const (.int .i64 0)) 38, 4, none, true⟩]
theorem Reader_Fail_r0_go {K : Env → Heap → Prop} {τ ρ : Env} {h : Heap} : vcOps Try.prog K Reader_Fail_r0 τ ρ h = vcOps Try.prog K [
  ⟨some (6, false), .move (.tmp 0), 52, none, true⟩,
  ⟨some (7, false), .nilCheck (.tmp 6), 0, none, true⟩,
  ⟨some (8, false), .fieldAddr 60 (.tmp 7) 2, 0, none, true⟩,
  ⟨some (9, false), .load 38 (.tmp 8), 38, none, true⟩,
  ⟨some (10, true), .binOp .eql 38 (.tmp 9) (.const (.int .i64 0)) 38, 4, none, true⟩] τ ρ h := _root_.id rfl
def Reader_Fail_r1 : List Sop := [
  ⟨some (11, false), .move (.tmp 0), 52, none, true⟩,
  ⟨some (12, false), .move (.tmp 0), 52, none, true⟩,
  ⟨some (13, false), .move (.tmp 1), 38, none, true⟩,
  ⟨some (14, false), .move (.tmp 2), 3, none, true⟩,
  ⟨some (15, false), .nilCheck (.tmp 11), 0, none, true⟩,
  ⟨some (16, false), .fieldAddr 60 (.tmp 15) 2, 0, none, true⟩,
  ⟨none, .store 38 (.tmp 16) (.tmp 13), 0, none, false⟩,
  ⟨some (17, false), .nilCheck (.tmp 12), 0, none, true⟩,
  ⟨some (18, false), .fieldAddr 60 (.tmp 17) 3, 0, none, true⟩,
  ⟨none, .store 3 (.tmp 18) (.tmp 14), 0, none, false⟩]
theorem Reader_Fail_r1_go {K : Env → Heap → Prop} {τ ρ : Env} {h : Heap} : vcOps Try.prog K Reader_Fail_r1 τ ρ h = vcOps Try.prog K [
  ⟨some (11, false), .move (.tmp 0), 52, none, true⟩,
  ⟨some (12, false), .move (.tmp 0), 52, none, true⟩,
  ⟨some (13, false), .move (.tmp 1), 38, none, true⟩,
  ⟨some (14, false), .move (.tmp 2), 3, none, true⟩,
  ⟨some (15, false), .nilCheck (.tmp 11), 0, none, true⟩,
  ⟨some (16, false), .fieldAddr 60 (.tmp 15) 2, 0, none, true⟩,
  ⟨none, .store 38 (.tmp 16) (.tmp 13), 0, none, false⟩,
  ⟨some (17, false), .nilCheck (.tmp 12), 0, none, true⟩,
  ⟨some (18, false), .fieldAddr 60 (.tmp 17) 3, 0, none, true⟩,
  ⟨none, .store 3 (.tmp 18) (.tmp 14), 0, none, false⟩] τ ρ h := _root_.id rfl
def Reader_Fail : Cd := .seq (.region Reader_Fail_r0) (.cond (.tmp 10) (.region Reader_Fail_r1) (.skip))
theorem Reader_Fail_go {Q : Ex → Env → Heap → Prop} {ρ : Env} {h : Heap} : Cd.vc Try.prog Reader_Fail Q ρ h = Cd.vc Try.prog (.seq (.region Reader_Fail_r0) (.cond (.tmp 10) (.region Reader_Fail_r1) (.skip))) Q ρ h := _root_.id rfl
theorem Reader_Fail_calls {args : List Value} {h : Heap} {R : Value → Heap → Prop} (hl : args.length = 3) (hv : Cd.vc Try.prog Reader_Fail (retQ Try.prog [] R) (initEnv args [0, 1, 2, 10]) h) : HCalls Try.prog 30 args.toArray h R :=
  hcalls_of_vc (by kernel_rfl) Try.func30 (cd := Reader_Fail) (L := [0, 1, 2, 10]) (by kernel_rfl) (by kernel_rfl) ⟨by rw [hl, Try.ntmps30]; decide, by rw [Try.ntmps30]; decide⟩ hv
def Reader_Fail_gos := And.intro @Reader_Fail_go (And.intro @Reader_Fail_r0_go (@Reader_Fail_r1_go))

/-! (*jvmcore/pool.Reader).Bad: function 31: slots [0, 2] -/
def Reader_Bad_r0 : List Sop := [
  ⟨some (2, true), .assign (.const (.bool false)), 4, none, true⟩]
theorem Reader_Bad_r0_go {K : Env → Heap → Prop} {τ ρ : Env} {h : Heap} : vcOps Try.prog K Reader_Bad_r0 τ ρ h = vcOps Try.prog K [
  ⟨some (2, true), .assign (.const (.bool false)), 4, none, true⟩] τ ρ h := _root_.id rfl
def Reader_Bad_r1 : List Sop := [
  ⟨some (3, false), .move (.tmp 0), 52, none, true⟩,
  ⟨some (4, false), .nilCheck (.tmp 3), 0, none, true⟩,
  ⟨some (5, false), .fieldAddr 60 (.tmp 4) 2, 0, none, true⟩,
  ⟨some (6, false), .load 38 (.tmp 5), 38, none, true⟩,
  ⟨some (7, false), .binOp .neq 38 (.tmp 6) (.const (.int .i64 0)) 38, 4, none, true⟩,
  ⟨some (2, true), .assign (.tmp 7), 4, none, true⟩]
theorem Reader_Bad_r1_go {K : Env → Heap → Prop} {τ ρ : Env} {h : Heap} : vcOps Try.prog K Reader_Bad_r1 τ ρ h = vcOps Try.prog K [
  ⟨some (3, false), .move (.tmp 0), 52, none, true⟩,
  ⟨some (4, false), .nilCheck (.tmp 3), 0, none, true⟩,
  ⟨some (5, false), .fieldAddr 60 (.tmp 4) 2, 0, none, true⟩,
  ⟨some (6, false), .load 38 (.tmp 5), 38, none, true⟩,
  ⟨some (7, false), .binOp .neq 38 (.tmp 6) (.const (.int .i64 0)) 38, 4, none, true⟩,
  ⟨some (2, true), .assign (.tmp 7), 4, none, true⟩] τ ρ h := _root_.id rfl
def Reader_Bad : Cd := .seq (.region Reader_Bad_r0) (.seq (.region Reader_Bad_r1) (.ret))
theorem Reader_Bad_go {Q : Ex → Env → Heap → Prop} {ρ : Env} {h : Heap} : Cd.vc Try.prog Reader_Bad Q ρ h = Cd.vc Try.prog (.seq (.region Reader_Bad_r0) (.seq (.region Reader_Bad_r1) (.ret))) Q ρ h := _root_.id rfl
theorem Reader_Bad_calls {args : List Value} {h : Heap} {R : Value → Heap → Prop} (hl : args.length = 1) (hv : Cd.vc Try.prog Reader_Bad (retQ Try.prog [(2, none)] R) (initEnv args [0, 2]) h) : HCalls Try.prog 31 args.toArray h R :=
  hcalls_of_vc (by kernel_rfl) Try.func31 (cd := Reader_Bad) (L := [0, 2]) (by kernel_rfl) (by kernel_rfl) ⟨by rw [hl, Try.ntmps31]; decide, by rw [Try.ntmps31]; decide⟩ hv
def Reader_Bad_gos := And.intro @Reader_Bad_go (And.intro @Reader_Bad_r0_go (@Reader_Bad_r1_go))

/-! (*jvmcore/pool.Reader).one: function 32: slots [0, 2, 3, 4, 6, 7, 17, 21, 35, 39, 46, 59, 65] -/
def Reader_one_r0 : List Sop := [
  ⟨some (2, true), .alloc 37, 0, none, false⟩]
theorem Reader_one_r0_go {K : Env → Heap → Prop} {τ ρ : Env} {h : Heap} : vcOps Try.prog K Reader_one_r0 τ ρ h = vcOps Try.prog K [
  ⟨some (2, true), .alloc 37, 0, none, false⟩] τ ρ h := _root_.id rfl
def Reader_one_r1 : List Sop := [
  ⟨some (8, false), .move (.tmp 0), 52, none, true⟩,
  ⟨some (9, false), .nilCheck (.tmp 8), 0, none, true⟩,
  ⟨some (10, false), .fieldAddr 60 (.tmp 9) 1, 0, none, true⟩,
  ⟨some (11, false), .load 3 (.tmp 10), 3, none, true⟩,
  ⟨some (3, true), .assign (.tmp 11), 3, none, true⟩]
theorem Reader_one_r1_go {K : Env → Heap → Prop} {τ ρ : Env} {h : Heap} : vcOps Try.prog K Reader_one_r1 τ ρ h = vcOps Try.prog K [
  ⟨some (8, false), .move (.tmp 0), 52, none, true⟩,
  ⟨some (9, false), .nilCheck (.tmp 8), 0, none, true⟩,
  ⟨some (10, false), .fieldAddr 60 (.tmp 9) 1, 0, none, true⟩,
  ⟨some (11, false), .load 3 (.tmp 10), 3, none, true⟩,
  ⟨some (3, true), .assign (.tmp 11), 3, none, true⟩] τ ρ h := _root_.id rfl
def Reader_one_r2 : List Sop := [
  ⟨some (12, false), .move (.tmp 0), 52, none, true⟩,
  ⟨some (13, false), .call { callee := .value (.func 29), args := #[.tmp 12, .const (.int .i64 1)], argTypes := #[52, 3] }, 3, none, false⟩,
  ⟨some (14, false), .convert 3 5 (.tmp 13), 5, none, true⟩,
  ⟨some (15, false), .build 37 #[(0, .tmp 14)], 37, none, true⟩,
  ⟨some (4, true), .alloc 37, 0, none, false⟩,
  ⟨none, .store 37 (.tmp 4) (.tmp 15), 0, none, false⟩]
theorem Reader_one_r2_go {K : Env → Heap → Prop} {τ ρ : Env} {h : Heap} : vcOps Try.prog K Reader_one_r2 τ ρ h = vcOps Try.prog K [
  ⟨some (12, false), .move (.tmp 0), 52, none, true⟩,
  ⟨some (13, false), .call { callee := .value (.func 29), args := #[.tmp 12, .const (.int .i64 1)], argTypes := #[52, 3] }, 3, none, false⟩,
  ⟨some (14, false), .convert 3 5 (.tmp 13), 5, none, true⟩,
  ⟨some (15, false), .build 37 #[(0, .tmp 14)], 37, none, true⟩,
  ⟨some (4, true), .alloc 37, 0, none, false⟩,
  ⟨none, .store 37 (.tmp 4) (.tmp 15), 0, none, false⟩] τ ρ h := _root_.id rfl
def Reader_one_r3 : List Sop := [
  ⟨some (16, false), .fieldAddr 37 (.tmp 4) 0, 0, none, true⟩,
  ⟨some (17, true), .load 5 (.tmp 16), 5, none, true⟩]
theorem Reader_one_r3_go {K : Env → Heap → Prop} {τ ρ : Env} {h : Heap} : vcOps Try.prog K Reader_one_r3 τ ρ h = vcOps Try.prog K [
  ⟨some (16, false), .fieldAddr 37 (.tmp 4) 0, 0, none, true⟩,
  ⟨some (17, true), .load 5 (.tmp 16), 5, none, true⟩] τ ρ h := _root_.id rfl
def Reader_one_r4 : List Sop := [
  ⟨some (22, false), .binOp .eql 5 (.tmp 17) (.const (.int .u8 1)) 5, 4, none, true⟩,
  ⟨some (21, true), .assign (.tmp 22), 4, none, true⟩]
theorem Reader_one_r4_go {K : Env → Heap → Prop} {τ ρ : Env} {h : Heap} : vcOps Try.prog K Reader_one_r4 τ ρ h = vcOps Try.prog K [
  ⟨some (22, false), .binOp .eql 5 (.tmp 17) (.const (.int .u8 1)) 5, 4, none, true⟩,
  ⟨some (21, true), .assign (.tmp 22), 4, none, true⟩] τ ρ h := _root_.id rfl
def Reader_one_r5 : List Sop := [
  ⟨some (23, false), .move (.tmp 0), 52, none, true⟩,
  ⟨some (24, false), .move (.tmp 0), 52, none, true⟩,
  ⟨some (25, false), .call { callee := .value (.func 29), args := #[.tmp 24, .const (.int .i64 2)], argTypes := #[52, 3] }, 3, none, false⟩,
  ⟨some (26, false), .call { callee := .value (.func 33), args := #[.tmp 23, .tmp 25], argTypes := #[52, 3] }, 9, none, false⟩,
  ⟨some (27, false), .fieldAddr 37 (.tmp 4) 1, 0, none, true⟩,
  ⟨none, .store 9 (.tmp 27) (.tmp 26), 0, none, false⟩]
theorem Reader_one_r5_go {K : Env → Heap → Prop} {τ ρ : Env} {h : Heap} : vcOps Try.prog K Reader_one_r5 τ ρ h = vcOps Try.prog K [
  ⟨some (23, false), .move (.tmp 0), 52, none, true⟩,
  ⟨some (24, false), .move (.tmp 0), 52, none, true⟩,
  ⟨some (25, false), .call { callee := .value (.func 29), args := #[.tmp 24, .const (.int .i64 2)], argTypes := #[52, 3] }, 3, none, false⟩,
  ⟨some (26, false), .call { callee := .value (.func 33), args := #[.tmp 23, .tmp 25], argTypes := #[52, 3] }, 9, none, false⟩,
  ⟨some (27, false), .fieldAddr 37 (.tmp 4) 1, 0, none, true⟩,
  ⟨none, .store 9 (.tmp 27) (.tmp 26), 0, none, false⟩] τ ρ h := _root_.id rfl
def Reader_one_r6 : List Sop := [
  ⟨some (29, false), .fieldAddr 37 (.tmp 4) 1, 0, none, true⟩,
  ⟨some (30, false), .load 9 (.tmp 29), 9, none, true⟩,
  ⟨some (31, false), .call { callee := .value (.func 9), args := #[.tmp 30], argTypes := #[9] }, 25, none, false⟩,
  ⟨some (28, false), .move (.tmp 31), 25, none, true⟩,
  ⟨some (32, false), .extract (.tmp 28) 0, 24, none, true⟩,
  ⟨some (33, false), .extract (.tmp 28) 1, 4, none, true⟩,
  ⟨some (5, false), .assign (.tmp 32), 24, none, true⟩,
  ⟨some (6, true), .assign (.tmp 33), 4, none, true⟩]
theorem Reader_one_r6_go {K : Env → Heap → Prop} {τ ρ : Env} {h : Heap} : vcOps Try.prog K Reader_one_r6 τ ρ h = vcOps Try.prog K [
  ⟨some (29, false), .fieldAddr 37 (.tmp 4) 1, 0, none, true⟩,
  ⟨some (30, false), .load 9 (.tmp 29), 9, none, true⟩,
  ⟨some (31, false), .call { callee := .value (.func 9), args := #[.tmp 30], argTypes := #[9] }, 25, none, false⟩,
  ⟨some (28, false), .move (.tmp 31), 25, none, true⟩,
  ⟨some (32, false), .extract (.tmp 28) 0, 24, none, true⟩,
  ⟨some (33, false), .extract (.tmp 28) 1, 4, none, true⟩,
  ⟨some (5, false), .assign (.tmp 32), 24, none, true⟩,
  ⟨some (6, true), .assign (.tmp 33), 4, none, true⟩] τ ρ h := _root_.id rfl
def Reader_one_r7 : List Sop := [
  ⟨some (34, false), .move (.tmp 6), 4, none, true⟩,
  ⟨some (35, true), .unOp .not 4 (.tmp 34), 4, none, true⟩]
theorem Reader_one_r7_go {K : Env → Heap → Prop} {τ ρ : Env} {h : Heap} : vcOps Try.prog K Reader_one_r7 τ ρ h = vcOps Try.prog K [
  ⟨some (34, false), .move (.tmp 6), 4, none, true⟩,
  ⟨some (35, true), .unOp .not 4 (.tmp 34), 4, none, true⟩] τ ρ h := _root_.id rfl
def Reader_one_r8 : List Sop := [
  ⟨some (36, false), .move (.tmp 0), 52, none, true⟩,
  ⟨some (37, false), .move (.tmp 3), 3, none, true⟩,
  ⟨some (38, false), .call { callee := .value (.func 30), args := #[.tmp 36, .const (.int .i64 6), .tmp 37], argTypes := #[52, 38, 3] }, 0, none, false⟩]
theorem Reader_one_r8_go {K : Env → Heap → Prop} {τ ρ : Env} {h : Heap} : vcOps Try.prog K Reader_one_r8 τ ρ h = vcOps Try.prog K [
  ⟨some (36, false), .move (.tmp 0), 52, none, true⟩,
  ⟨some (37, false), .move (.tmp 3), 3, none, true⟩,
  ⟨some (38, false), .call { callee := .value (.func 30), args := #[.tmp 36, .const (.int .i64 6), .tmp 37], argTypes := #[52, 38, 3] }, 0, none, false⟩] τ ρ h := _root_.id rfl
def Reader_one_r9 : List Sop := [
  ⟨some (40, false), .binOp .eql 5 (.tmp 17) (.const (.int .u8 3)) 5, 4, none, true⟩,
  ⟨some (39, true), .assign (.tmp 40), 4, none, true⟩]
theorem Reader_one_r9_go {K : Env → Heap → Prop} {τ ρ : Env} {h : Heap} : vcOps Try.prog K Reader_one_r9 τ ρ h = vcOps Try.prog K [
  ⟨some (40, false), .binOp .eql 5 (.tmp 17) (.const (.int .u8 3)) 5, 4, none, true⟩,
  ⟨some (39, true), .assign (.tmp 40), 4, none, true⟩] τ ρ h := _root_.id rfl
def Reader_one_r10 : List Sop := [
  ⟨some (41, false), .binOp .eql 5 (.tmp 17) (.const (.int .u8 4)) 5, 4, none, true⟩,
  ⟨some (39, true), .assign (.tmp 41), 4, none, true⟩]
theorem Reader_one_r10_go {K : Env → Heap → Prop} {τ ρ : Env} {h : Heap} : vcOps Try.prog K Reader_one_r10 τ ρ h = vcOps Try.prog K [
  ⟨some (41, false), .binOp .eql 5 (.tmp 17) (.const (.int .u8 4)) 5, 4, none, true⟩,
  ⟨some (39, true), .assign (.tmp 41), 4, none, true⟩] τ ρ h := _root_.id rfl
def Reader_one_r11 : List Sop := [
  ⟨some (42, false), .move (.tmp 0), 52, none, true⟩,
  ⟨some (43, false), .call { callee := .value (.func 29), args := #[.tmp 42, .const (.int .i64 4)], argTypes := #[52, 3] }, 3, none, false⟩,
  ⟨some (44, false), .convert 3 35 (.tmp 43), 35, none, true⟩,
  ⟨some (45, false), .fieldAddr 37 (.tmp 4) 2, 0, none, true⟩,
  ⟨none, .store 35 (.tmp 45) (.tmp 44), 0, none, false⟩]
theorem Reader_one_r11_go {K : Env → Heap → Prop} {τ ρ : Env} {h : Heap} : vcOps Try.prog K Reader_one_r11 τ ρ h = vcOps Try.prog K [
  ⟨some (42, false), .move (.tmp 0), 52, none, true⟩,
  ⟨some (43, false), .call { callee := .value (.func 29), args := #[.tmp 42, .const (.int .i64 4)], argTypes := #[52, 3] }, 3, none, false⟩,
  ⟨some (44, false), .convert 3 35 (.tmp 43), 35, none, true⟩,
  ⟨some (45, false), .fieldAddr 37 (.tmp 4) 2, 0, none, true⟩,
  ⟨none, .store 35 (.tmp 45) (.tmp 44), 0, none, false⟩] τ ρ h := _root_.id rfl
def Reader_one_r12 : List Sop := [
  ⟨some (47, false), .binOp .eql 5 (.tmp 17) (.const (.int .u8 5)) 5, 4, none, true⟩,
  ⟨some (46, true), .assign (.tmp 47), 4, none, true⟩]
theorem Reader_one_r12_go {K : Env → Heap → Prop} {τ ρ : Env} {h : Heap} : vcOps Try.prog K Reader_one_r12 τ ρ h = vcOps Try.prog K [
  ⟨some (47, false), .binOp .eql 5 (.tmp 17) (.const (.int .u8 5)) 5, 4, none, true⟩,
  ⟨some (46, true), .assign (.tmp 47), 4, none, true⟩] τ ρ h := _root_.id rfl
def Reader_one_r13 : List Sop := [
  ⟨some (48, false), .binOp .eql 5 (.tmp 17) (.const (.int .u8 6)) 5, 4, none, true⟩,
  ⟨some (46, true), .assign (.tmp 48), 4, none, true⟩]
theorem Reader_one_r13_go {K : Env → Heap → Prop} {τ ρ : Env} {h : Heap} : vcOps Try.prog K Reader_one_r13 τ ρ h = vcOps Try.prog K [
  ⟨some (48, false), .binOp .eql 5 (.tmp 17) (.const (.int .u8 6)) 5, 4, none, true⟩,
  ⟨some (46, true), .assign (.tmp 48), 4, none, true⟩] τ ρ h := _root_.id rfl
def Reader_one_r14 : List Sop := [
  ⟨some (49, false), .move (.tmp 0), 52, none, true⟩,
  ⟨some (50, false), .call { callee := .value (.func 29), args := #[.tmp 49, .const (.int .i64 4)], argTypes := #[52, 3] }, 3, none, false⟩,
  ⟨some (51, false), .convert 3 35 (.tmp 50), 35, none, true⟩,
  ⟨some (7, true), .assign (.tmp 51), 35, none, true⟩]
theorem Reader_one_r14_go {K : Env → Heap → Prop} {τ ρ : Env} {h : Heap} : vcOps Try.prog K Reader_one_r14 τ ρ h = vcOps Try.prog K [
  ⟨some (49, false), .move (.tmp 0), 52, none, true⟩,
  ⟨some (50, false), .call { callee := .value (.func 29), args := #[.tmp 49, .const (.int .i64 4)], argTypes := #[52, 3] }, 3, none, false⟩,
  ⟨some (51, false), .convert 3 35 (.tmp 50), 35, none, true⟩,
  ⟨some (7, true), .assign (.tmp 51), 35, none, true⟩] τ ρ h := _root_.id rfl
def Reader_one_r15 : List Sop := [
  ⟨some (52, false), .move (.tmp 7), 35, none, true⟩,
  ⟨some (53, false), .binOp .shl 35 (.tmp 52) (.const (.int .u64 32)) 47, 35, none, true⟩,
  ⟨some (54, false), .move (.tmp 0), 52, none, true⟩,
  ⟨some (55, false), .call { callee := .value (.func 29), args := #[.tmp 54, .const (.int .i64 4)], argTypes := #[52, 3] }, 3, none, false⟩,
  ⟨some (56, false), .convert 3 35 (.tmp 55), 35, none, true⟩,
  ⟨some (57, false), .binOp .or 35 (.tmp 53) (.tmp 56) 35, 35, none, true⟩,
  ⟨some (58, false), .fieldAddr 37 (.tmp 4) 2, 0, none, true⟩,
  ⟨none, .store 35 (.tmp 58) (.tmp 57), 0, none, false⟩]
theorem Reader_one_r15_go {K : Env → Heap → Prop} {τ ρ : Env} {h : Heap} : vcOps Try.prog K Reader_one_r15 τ ρ h = vcOps Try.prog K [
  ⟨some (52, false), .move (.tmp 7), 35, none, true⟩,
  ⟨some (53, false), .binOp .shl 35 (.tmp 52) (.const (.int .u64 32)) 47, 35, none, true⟩,
  ⟨some (54, false), .move (.tmp 0), 52, none, true⟩,
  ⟨some (55, false), .call { callee := .value (.func 29), args := #[.tmp 54, .const (.int .i64 4)], argTypes := #[52, 3] }, 3, none, false⟩,
  ⟨some (56, false), .convert 3 35 (.tmp 55), 35, none, true⟩,
  ⟨some (57, false), .binOp .or 35 (.tmp 53) (.tmp 56) 35, 35, none, true⟩,
  ⟨some (58, false), .fieldAddr 37 (.tmp 4) 2, 0, none, true⟩,
  ⟨none, .store 35 (.tmp 58) (.tmp 57), 0, none, false⟩] τ ρ h := _root_.id rfl
def Reader_one_r16 : List Sop := [
  ⟨some (60, false), .binOp .eql 5 (.tmp 17) (.const (.int .u8 7)) 5, 4, none, true⟩,
  ⟨some (59, true), .assign (.tmp 60), 4, none, true⟩]
theorem Reader_one_r16_go {K : Env → Heap → Prop} {τ ρ : Env} {h : Heap} : vcOps Try.prog K Reader_one_r16 τ ρ h = vcOps Try.prog K [
  ⟨some (60, false), .binOp .eql 5 (.tmp 17) (.const (.int .u8 7)) 5, 4, none, true⟩,
  ⟨some (59, true), .assign (.tmp 60), 4, none, true⟩] τ ρ h := _root_.id rfl
def Reader_one_r17 : List Sop := [
  ⟨some (61, false), .binOp .eql 5 (.tmp 17) (.const (.int .u8 8)) 5, 4, none, true⟩,
  ⟨some (59, true), .assign (.tmp 61), 4, none, true⟩]
theorem Reader_one_r17_go {K : Env → Heap → Prop} {τ ρ : Env} {h : Heap} : vcOps Try.prog K Reader_one_r17 τ ρ h = vcOps Try.prog K [
  ⟨some (61, false), .binOp .eql 5 (.tmp 17) (.const (.int .u8 8)) 5, 4, none, true⟩,
  ⟨some (59, true), .assign (.tmp 61), 4, none, true⟩] τ ρ h := _root_.id rfl
def Reader_one_r18 : List Sop := [
  ⟨some (62, false), .move (.tmp 0), 52, none, true⟩,
  ⟨some (63, false), .call { callee := .value (.func 34), args := #[.tmp 62], argTypes := #[52] }, 29, none, false⟩,
  ⟨some (64, false), .fieldAddr 37 (.tmp 4) 3, 0, none, true⟩,
  ⟨none, .store 29 (.tmp 64) (.tmp 63), 0, none, false⟩]
theorem Reader_one_r18_go {K : Env → Heap → Prop} {τ ρ : Env} {h : Heap} : vcOps Try.prog K Reader_one_r18 τ ρ h = vcOps Try.prog K [
  ⟨some (62, false), .move (.tmp 0), 52, none, true⟩,
  ⟨some (63, false), .call { callee := .value (.func 34), args := #[.tmp 62], argTypes := #[52] }, 29, none, false⟩,
  ⟨some (64, false), .fieldAddr 37 (.tmp 4) 3, 0, none, true⟩,
  ⟨none, .store 29 (.tmp 64) (.tmp 63), 0, none, false⟩] τ ρ h := _root_.id rfl
def Reader_one_r19 : List Sop := [
  ⟨some (66, false), .binOp .eql 5 (.tmp 17) (.const (.int .u8 9)) 5, 4, none, true⟩,
  ⟨some (65, true), .assign (.tmp 66), 4, none, true⟩]
theorem Reader_one_r19_go {K : Env → Heap → Prop} {τ ρ : Env} {h : Heap} : vcOps Try.prog K Reader_one_r19 τ ρ h = vcOps Try.prog K [
  ⟨some (66, false), .binOp .eql 5 (.tmp 17) (.const (.int .u8 9)) 5, 4, none, true⟩,
  ⟨some (65, true), .assign (.tmp 66), 4, none, true⟩] τ ρ h := _root_.id rfl
def Reader_one_r20 : List Sop := [
  ⟨some (67, false), .binOp .eql 5 (.tmp 17) (.const (.int .u8 10)) 5, 4, none, true⟩,
  ⟨some (65, true), .assign (.tmp 67), 4, none, true⟩]
theorem Reader_one_r20_go {K : Env → Heap → Prop} {τ ρ : Env} {h : Heap} : vcOps Try.prog K Reader_one_r20 τ ρ h = vcOps Try.prog K [
  ⟨some (67, false), .binOp .eql 5 (.tmp 17) (.const (.int .u8 10)) 5, 4, none, true⟩,
  ⟨some (65, true), .assign (.tmp 67), 4, none, true⟩] τ ρ h := _root_.id rfl
def Reader_one_r21 : List Sop := [
  ⟨some (68, false), .binOp .eql 5 (.tmp 17) (.const (.int .u8 11)) 5, 4, none, true⟩,
  ⟨some (65, true), .assign (.tmp 68), 4, none, true⟩]
theorem Reader_one_r21_go {K : Env → Heap → Prop} {τ ρ : Env} {h : Heap} : vcOps Try.prog K Reader_one_r21 τ ρ h = vcOps Try.prog K [
  ⟨some (68, false), .binOp .eql 5 (.tmp 17) (.const (.int .u8 11)) 5, 4, none, true⟩,
  ⟨some (65, true), .assign (.tmp 68), 4, none, true⟩] τ ρ h := _root_.id rfl
def Reader_one_r22 : List Sop := [
  ⟨some (69, false), .binOp .eql 5 (.tmp 17) (.const (.int .u8 12)) 5, 4, none, true⟩,
  ⟨some (65, true), .assign (.tmp 69), 4, none, true⟩]
theorem Reader_one_r22_go {K : Env → Heap → Prop} {τ ρ : Env} {h : Heap} : vcOps Try.prog K Reader_one_r22 τ ρ h = vcOps Try.prog K [
  ⟨some (69, false), .binOp .eql 5 (.tmp 17) (.const (.int .u8 12)) 5, 4, none, true⟩,
  ⟨some (65, true), .assign (.tmp 69), 4, none, true⟩] τ ρ h := _root_.id rfl
def Reader_one_r23 : List Sop := [
  ⟨some (70, false), .move (.tmp 0), 52, none, true⟩,
  ⟨some (71, false), .call { callee := .value (.func 34), args := #[.tmp 70], argTypes := #[52] }, 29, none, false⟩,
  ⟨some (72, false), .move (.tmp 0), 52, none, true⟩,
  ⟨some (73, false), .call { callee := .value (.func 34), args := #[.tmp 72], argTypes := #[52] }, 29, none, false⟩,
  ⟨some (74, false), .fieldAddr 37 (.tmp 4) 3, 0, none, true⟩,
  ⟨none, .store 29 (.tmp 74) (.tmp 71), 0, none, false⟩,
  ⟨some (75, false), .fieldAddr 37 (.tmp 4) 4, 0, none, true⟩,
  ⟨none, .store 29 (.tmp 75) (.tmp 73), 0, none, false⟩]
theorem Reader_one_r23_go {K : Env → Heap → Prop} {τ ρ : Env} {h : Heap} : vcOps Try.prog K Reader_one_r23 τ ρ h = vcOps Try.prog K [
  ⟨some (70, false), .move (.tmp 0), 52, none, true⟩,
  ⟨some (71, false), .call { callee := .value (.func 34), args := #[.tmp 70], argTypes := #[52] }, 29, none, false⟩,
  ⟨some (72, false), .move (.tmp 0), 52, none, true⟩,
  ⟨some (73, false), .call { callee := .value (.func 34), args := #[.tmp 72], argTypes := #[52] }, 29, none, false⟩,
  ⟨some (74, false), .fieldAddr 37 (.tmp 4) 3, 0, none, true⟩,
  ⟨none, .store 29 (.tmp 74) (.tmp 71), 0, none, false⟩,
  ⟨some (75, false), .fieldAddr 37 (.tmp 4) 4, 0, none, true⟩,
  ⟨none, .store 29 (.tmp 75) (.tmp 73), 0, none, false⟩] τ ρ h := _root_.id rfl
def Reader_one_r24 : List Sop := [
  ⟨some (18, false), .move (.tmp 0), 52, none, true⟩,
  ⟨some (19, false), .move (.tmp 3), 3, none, true⟩,
  ⟨some (20, false), .call { callee := .value (.func 30), args := #[.tmp 18, .const (.int .i64 5), .tmp 19], argTypes := #[52, 38, 3] }, 0, none, false⟩]
theorem Reader_one_r24_go {K : Env → Heap → Prop} {τ ρ : Env} {h : Heap} : vcOps Try.prog K Reader_one_r24 τ ρ h = vcOps Try.prog K [
  ⟨some (18, false), .move (.tmp 0), 52, none, true⟩,
  ⟨some (19, false), .move (.tmp 3), 3, none, true⟩,
  ⟨some (20, false), .call { callee := .value (.func 30), args := #[.tmp 18, .const (.int .i64 5), .tmp 19], argTypes := #[52, 38, 3] }, 0, none, false⟩] τ ρ h := _root_.id rfl
def Reader_one_r25 : List Sop := [
  ⟨some (76, false), .load 37 (.tmp 4), 37, none, true⟩,
  ⟨none, .store 37 (.tmp 2) (.tmp 76), 0, none, false⟩]
theorem Reader_one_r25_go {K : Env → Heap → Prop} {τ ρ : Env} {h : Heap} : vcOps Try.prog K Reader_one_r25 τ ρ h = vcOps Try.prog K [
  ⟨some (76, false), .load 37 (.tmp 4), 37, none, true⟩,
  ⟨none, .store 37 (.tmp 2) (.tmp 76), 0, none, false⟩] τ ρ h := _root_.id rfl
def Reader_one : Cd := .seq (.region Reader_one_r0) (.seq (.region Reader_one_r1) (.seq (.region Reader_one_r2) (.seq (.seq (.region Reader_one_r3) (.block 0 (.seq (.region Reader_one_r4) (.cond (.tmp 21) (.seq (.region Reader_one_r5) (.seq (.region Reader_one_r6) (.seq (.region Reader_one_r7) (.cond (.tmp 35) (.region Reader_one_r8) (.skip))))) (.seq (.seq (.region Reader_one_r9) (.cond (.tmp 39) (.skip) (.region Reader_one_r10))) (.cond (.tmp 39) (.region Reader_one_r11) (.seq (.seq (.region Reader_one_r12) (.cond (.tmp 46) (.skip) (.region Reader_one_r13))) (.cond (.tmp 46) (.seq (.region Reader_one_r14) (.region Reader_one_r15)) (.seq (.seq (.region Reader_one_r16) (.cond (.tmp 59) (.skip) (.region Reader_one_r17))) (.cond (.tmp 59) (.region Reader_one_r18) (.seq (.seq (.region Reader_one_r19) (.cond (.tmp 65) (.skip) (.seq (.region Reader_one_r20) (.cond (.tmp 65) (.skip) (.seq (.region Reader_one_r21) (.cond (.tmp 65) (.skip) (.region Reader_one_r22))))))) (.cond (.tmp 65) (.region Reader_one_r23) (.region Reader_one_r24))))))))))))) (.seq (.region Reader_one_r25) (.ret)))))
theorem Reader_one_go {Q : Ex → Env → Heap → Prop} {ρ : Env} {h : Heap} : Cd.vc Try.prog Reader_one Q ρ h = Cd.vc Try.prog (.seq (.region Reader_one_r0) (.seq (.region Reader_one_r1) (.seq (.region Reader_one_r2) (.seq (.seq (.region Reader_one_r3) (.block 0 (.seq (.region Reader_one_r4) (.cond (.tmp 21) (.seq (.region Reader_one_r5) (.seq (.region Reader_one_r6) (.seq (.region Reader_one_r7) (.cond (.tmp 35) (.region Reader_one_r8) (.skip))))) (.seq (.seq (.region Reader_one_r9) (.cond (.tmp 39) (.skip) (.region Reader_one_r10))) (.cond (.tmp 39) (.region Reader_one_r11) (.seq (.seq (.region Reader_one_r12) (.cond (.tmp 46) (.skip) (.region Reader_one_r13))) (.cond (.tmp 46) (.seq (.region Reader_one_r14) (.region Reader_one_r15)) (.seq (.seq (.region Reader_one_r16) (.cond (.tmp 59) (.skip) (.region Reader_one_r17))) (.cond (.tmp 59) (.region Reader_one_r18) (.seq (.seq (.region Reader_one_r19) (.cond (.tmp 65) (.skip) (.seq (.region Reader_one_r20) (.cond (.tmp 65) (.skip) (.seq (.region Reader_one_r21) (.cond (.tmp 65) (.skip) (.region Reader_one_r22))))))) (.cond (.tmp 65) (.region Reader_one_r23) (.region Reader_one_r24))))))))))))) (.seq (.region Reader_one_r25) (.ret)))))) Q ρ h := _root_.id rfl
theorem Reader_one_calls {args : List Value} {h : Heap} {R : Value → Heap → Prop} (hl : args.length = 1) (hv : Cd.vc Try.prog Reader_one (retQ Try.prog [(2, some 37)] R) (initEnv args [0, 2, 3, 4, 6, 7, 17, 21, 35, 39, 46, 59, 65]) h) : HCalls Try.prog 32 args.toArray h R :=
  hcalls_of_vc (by kernel_rfl) Try.func32 (cd := Reader_one) (L := [0, 2, 3, 4, 6, 7, 17, 21, 35, 39, 46, 59, 65]) (by kernel_rfl) (by kernel_rfl) ⟨by rw [hl, Try.ntmps32]; decide, by rw [Try.ntmps32]; decide⟩ hv
def Reader_one_gos := And.intro @Reader_one_go (And.intro @Reader_one_r0_go (And.intro @Reader_one_r1_go (And.intro @Reader_one_r2_go (And.intro @Reader_one_r3_go (And.intro @Reader_one_r4_go (And.intro @Reader_one_r5_go (And.intro @Reader_one_r6_go (And.intro @Reader_one_r7_go (And.intro @Reader_one_r8_go (And.intro @Reader_one_r9_go (And.intro @Reader_one_r10_go (And.intro @Reader_one_r11_go (And.intro @Reader_one_r12_go (And.intro @Reader_one_r13_go (And.intro @Reader_one_r14_go (And.intro @Reader_one_r15_go (And.intro @Reader_one_r16_go (And.intro @Reader_one_r17_go (And.intro @Reader_one_r18_go (And.intro @Reader_one_r19_go (And.intro @Reader_one_r20_go (And.intro @Reader_one_r21_go (And.intro @Reader_one_r22_go (And.intro @Reader_one_r23_go (And.intro @Reader_one_r24_go (@Reader_one_r25_go))))))))))))))))))))))))))

/-! (*jvmcore/pool.Reader).Take: function 33: slots [0, 1, 4, 5, 7, 15] -/
def Reader_Take_r0 : List Sop := [
  ⟨some (4, true), .assign (.const (.string { data := #[] })), 9, none, true⟩]
theorem Reader_Take_r0_go {K : Env → Heap → Prop} {τ ρ : Env} {h : Heap} : vcOps Try.prog K Reader_Take_r0 τ ρ h = vcOps Try.prog K [
  ⟨some (4, true), .assign (.const (.string { data := #[] })), 9, none, true⟩] τ ρ h := _root_.id rfl
def Reader_Take_r1 : List Sop := [
  ⟨some (6, false), .move (.tmp 0), 52, none, true⟩,
  ⟨some (7, true), .call { callee := .value (.func 31), args := #[.tmp 6], argTypes := #[52] }, 4, none, false⟩]
theorem Reader_Take_r1_go {K : Env → Heap → Prop} {τ ρ : Env} {h : Heap} : vcOps Try.prog K Reader_Take_r1 τ ρ h = vcOps Try.prog K [
  ⟨some (6, false), .move (.tmp 0), 52, none, true⟩,
  ⟨some (7, true), .call { callee := .value (.func 31), args := #[.tmp 6], argTypes := #[52] }, 4, none, false⟩] τ ρ h := _root_.id rfl
def Reader_Take_r2 : List Sop := [
  ⟨some (4, true), .assign (.const (.string { data := #[] })), 9, none, true⟩]
theorem Reader_Take_r2_go {K : Env → Heap → Prop} {τ ρ : Env} {h : Heap} : vcOps Try.prog K Reader_Take_r2 τ ρ h = vcOps Try.prog K [
  ⟨some (4, true), .assign (.const (.string { data := #[] })), 9, none, true⟩] τ ρ h := _root_.id rfl
def Reader_Take_r3 : List Sop := [
  ⟨some (8, false), .move (.tmp 1), 3, none, true⟩,
  ⟨some (9, false), .binOp .lss 3 (.tmp 8) (.const (.int .i64 0)) 3, 4, none, true⟩,
  ⟨some (10, false), .move (.tmp 9), 4, none, true⟩,
  ⟨some (11, false), .move (.tmp 1), 3, some (10, false), true⟩,
  ⟨some (12, false), .move (.tmp 0), 52, some (10, false), true⟩,
  ⟨some (13, false), .call { callee := .value (.func 35), args := #[.tmp 12], argTypes := #[52] }, 3, some (10, false), false⟩,
  ⟨some (14, false), .binOp .gtr 3 (.tmp 11) (.tmp 13) 3, 4, some (10, false), true⟩,
  ⟨some (15, true), .pick (.tmp 10) (.const (.bool true)) (.tmp 14), 4, none, true⟩]
theorem Reader_Take_r3_go {K : Env → Heap → Prop} {τ ρ : Env} {h : Heap} : vcOps Try.prog K Reader_Take_r3 τ ρ h = vcOps Try.prog K [
  ⟨some (8, false), .move (.tmp 1), 3, none, true⟩,
  ⟨some (9, false), .binOp .lss 3 (.tmp 8) (.const (.int .i64 0)) 3, 4, none, true⟩,
  ⟨some (10, false), .move (.tmp 9), 4, none, true⟩,
  ⟨some (11, false), .move (.tmp 1), 3, some (10, false), true⟩,
  ⟨some (12, false), .move (.tmp 0), 52, some (10, false), true⟩,
  ⟨some (13, false), .call { callee := .value (.func 35), args := #[.tmp 12], argTypes := #[52] }, 3, some (10, false), false⟩,
  ⟨some (14, false), .binOp .gtr 3 (.tmp 11) (.tmp 13) 3, 4, some (10, false), true⟩,
  ⟨some (15, true), .pick (.tmp 10) (.const (.bool true)) (.tmp 14), 4, none, true⟩] τ ρ h := _root_.id rfl
def Reader_Take_r4 : List Sop := [
  ⟨some (16, false), .move (.tmp 0), 52, none, true⟩,
  ⟨some (17, false), .move (.tmp 0), 52, none, true⟩,
  ⟨some (18, false), .nilCheck (.tmp 17), 0, none, true⟩,
  ⟨some (19, false), .fieldAddr 60 (.tmp 18) 0, 0, none, true⟩,
  ⟨some (20, false), .load 9 (.tmp 19), 9, none, true⟩,
  ⟨some (21, false), .call { callee := .builtin .len, args := #[.tmp 20], argTypes := #[9] }, 3, none, true⟩,
  ⟨some (22, false), .call { callee := .value (.func 30), args := #[.tmp 16, .const (.int .i64 1), .tmp 21], argTypes := #[52, 38, 3] }, 0, none, false⟩]
theorem Reader_Take_r4_go {K : Env → Heap → Prop} {τ ρ : Env} {h : Heap} : vcOps Try.prog K Reader_Take_r4 τ ρ h = vcOps Try.prog K [
  ⟨some (16, false), .move (.tmp 0), 52, none, true⟩,
  ⟨some (17, false), .move (.tmp 0), 52, none, true⟩,
  ⟨some (18, false), .nilCheck (.tmp 17), 0, none, true⟩,
  ⟨some (19, false), .fieldAddr 60 (.tmp 18) 0, 0, none, true⟩,
  ⟨some (20, false), .load 9 (.tmp 19), 9, none, true⟩,
  ⟨some (21, false), .call { callee := .builtin .len, args := #[.tmp 20], argTypes := #[9] }, 3, none, true⟩,
  ⟨some (22, false), .call { callee := .value (.func 30), args := #[.tmp 16, .const (.int .i64 1), .tmp 21], argTypes := #[52, 38, 3] }, 0, none, false⟩] τ ρ h := _root_.id rfl
def Reader_Take_r5 : List Sop := [
  ⟨some (4, true), .assign (.const (.string { data := #[] })), 9, none, true⟩]
theorem Reader_Take_r5_go {K : Env → Heap → Prop} {τ ρ : Env} {h : Heap} : vcOps Try.prog K Reader_Take_r5 τ ρ h = vcOps Try.prog K [
  ⟨some (4, true), .assign (.const (.string { data := #[] })), 9, none, true⟩] τ ρ h := _root_.id rfl
def Reader_Take_r6 : List (Sop × List Sop) := [
  (⟨some (23, false), .move (.tmp 0), 52, none, true⟩, []),
  (⟨some (24, false), .nilCheck (.tmp 23), 0, none, true⟩, []),
  (⟨some (25, false), .fieldAddr 60 (.tmp 24) 0, 0, none, true⟩, []),
  (⟨some (26, false), .load 9 (.tmp 25), 9, none, true⟩, []),
  (⟨some (27, false), .move (.tmp 0), 52, none, true⟩, []),
  (⟨some (28, false), .nilCheck (.tmp 27), 0, none, true⟩, []),
  (⟨some (29, false), .fieldAddr 60 (.tmp 28) 1, 0, none, true⟩, []),
  (⟨some (30, false), .load 3 (.tmp 29), 3, none, true⟩, []),
  (⟨some (31, false), .move (.tmp 0), 52, none, true⟩, []),
  (⟨some (32, false), .nilCheck (.tmp 31), 0, none, true⟩, []),
  (⟨some (33, false), .fieldAddr 60 (.tmp 32) 1, 0, none, true⟩, []),
  (⟨some (34, false), .load 3 (.tmp 33), 3, none, true⟩, []),
  (⟨some (35, false), .move (.tmp 1), 3, none, true⟩, []),
  (⟨some (36, false), .binOp .add 3 (.tmp 34) (.tmp 35) 3, 3, none, true⟩, []),
  (⟨some (37, false), .slice 9 (.tmp 26) (some (.tmp 30)) (some (.tmp 36)) none, 9, none, true⟩, []),
  (⟨some (5, true), .assign (.tmp 37), 9, none, true⟩, [])]
theorem Reader_Take_r6_go {K : Env → Heap → Prop} {τ ρ : Env} {h : Heap} : vcDraw Try.prog K Reader_Take_r6 τ ρ h = vcDraw Try.prog K [
  (⟨some (23, false), .move (.tmp 0), 52, none, true⟩, []),
  (⟨some (24, false), .nilCheck (.tmp 23), 0, none, true⟩, []),
  (⟨some (25, false), .fieldAddr 60 (.tmp 24) 0, 0, none, true⟩, []),
  (⟨some (26, false), .load 9 (.tmp 25), 9, none, true⟩, []),
  (⟨some (27, false), .move (.tmp 0), 52, none, true⟩, []),
  (⟨some (28, false), .nilCheck (.tmp 27), 0, none, true⟩, []),
  (⟨some (29, false), .fieldAddr 60 (.tmp 28) 1, 0, none, true⟩, []),
  (⟨some (30, false), .load 3 (.tmp 29), 3, none, true⟩, []),
  (⟨some (31, false), .move (.tmp 0), 52, none, true⟩, []),
  (⟨some (32, false), .nilCheck (.tmp 31), 0, none, true⟩, []),
  (⟨some (33, false), .fieldAddr 60 (.tmp 32) 1, 0, none, true⟩, []),
  (⟨some (34, false), .load 3 (.tmp 33), 3, none, true⟩, []),
  (⟨some (35, false), .move (.tmp 1), 3, none, true⟩, []),
  (⟨some (36, false), .binOp .add 3 (.tmp 34) (.tmp 35) 3, 3, none, true⟩, []),
  (⟨some (37, false), .slice 9 (.tmp 26) (some (.tmp 30)) (some (.tmp 36)) none, 9, none, true⟩, []),
  (⟨some (5, true), .assign (.tmp 37), 9, none, true⟩, [])] τ ρ h := _root_.id rfl
def Reader_Take_r7 : List Sop := [
  ⟨some (38, false), .move (.tmp 0), 52, none, true⟩,
  ⟨some (39, false), .nilCheck (.tmp 38), 0, none, true⟩,
  ⟨some (40, false), .fieldAddr 60 (.tmp 39) 1, 0, none, true⟩,
  ⟨some (41, false), .load 3 (.tmp 40), 3, none, true⟩,
  ⟨some (42, false), .move (.tmp 1), 3, none, true⟩,
  ⟨some (43, false), .binOp .add 3 (.tmp 41) (.tmp 42) 3, 3, none, true⟩,
  ⟨some (44, false), .nilCheck (.tmp 38), 0, none, true⟩,
  ⟨some (45, false), .fieldAddr 60 (.tmp 44) 1, 0, none, true⟩,
  ⟨none, .store 3 (.tmp 45) (.tmp 43), 0, none, false⟩]
theorem Reader_Take_r7_go {K : Env → Heap → Prop} {τ ρ : Env} {h : Heap} : vcOps Try.prog K Reader_Take_r7 τ ρ h = vcOps Try.prog K [
  ⟨some (38, false), .move (.tmp 0), 52, none, true⟩,
  ⟨some (39, false), .nilCheck (.tmp 38), 0, none, true⟩,
  ⟨some (40, false), .fieldAddr 60 (.tmp 39) 1, 0, none, true⟩,
  ⟨some (41, false), .load 3 (.tmp 40), 3, none, true⟩,
  ⟨some (42, false), .move (.tmp 1), 3, none, true⟩,
  ⟨some (43, false), .binOp .add 3 (.tmp 41) (.tmp 42) 3, 3, none, true⟩,
  ⟨some (44, false), .nilCheck (.tmp 38), 0, none, true⟩,
  ⟨some (45, false), .fieldAddr 60 (.tmp 44) 1, 0, none, true⟩,
  ⟨none, .store 3 (.tmp 45) (.tmp 43), 0, none, false⟩] τ ρ h := _root_.id rfl
def Reader_Take_r8 : List Sop := [
  ⟨some (46, false), .move (.tmp 5), 9, none, true⟩,
  ⟨some (4, true), .assign (.tmp 46), 9, none, true⟩]
theorem Reader_Take_r8_go {K : Env → Heap → Prop} {τ ρ : Env} {h : Heap} : vcOps Try.prog K Reader_Take_r8 τ ρ h = vcOps Try.prog K [
  ⟨some (46, false), .move (.tmp 5), 9, none, true⟩,
  ⟨some (4, true), .assign (.tmp 46), 9, none, true⟩] τ ρ h := _root_.id rfl
def Reader_Take : Cd := .seq (.region Reader_Take_r0) (.seq (.seq (.region Reader_Take_r1) (.cond (.tmp 7) (.seq (.region Reader_Take_r2) (.ret)) (.skip))) (.seq (.seq (.region Reader_Take_r3) (.cond (.tmp 15) (.seq (.region Reader_Take_r4) (.seq (.region Reader_Take_r5) (.ret))) (.skip))) (.seq (.draw Reader_Take_r6) (.seq (.region Reader_Take_r7) (.seq (.region Reader_Take_r8) (.ret))))))
theorem Reader_Take_go {Q : Ex → Env → Heap → Prop} {ρ : Env} {h : Heap} : Cd.vc Try.prog Reader_Take Q ρ h = Cd.vc Try.prog (.seq (.region Reader_Take_r0) (.seq (.seq (.region Reader_Take_r1) (.cond (.tmp 7) (.seq (.region Reader_Take_r2) (.ret)) (.skip))) (.seq (.seq (.region Reader_Take_r3) (.cond (.tmp 15) (.seq (.region Reader_Take_r4) (.seq (.region Reader_Take_r5) (.ret))) (.skip))) (.seq (.draw Reader_Take_r6) (.seq (.region Reader_Take_r7) (.seq (.region Reader_Take_r8) (.ret))))))) Q ρ h := _root_.id rfl
theorem Reader_Take_calls {args : List Value} {h : Heap} {R : Value → Heap → Prop} (hl : args.length = 2) (hv : Cd.vc Try.prog Reader_Take (retQ Try.prog [(4, none)] R) (initEnv args [0, 1, 4, 5, 7, 15]) h) : HCalls Try.prog 33 args.toArray h R :=
  hcalls_of_vc (by kernel_rfl) Try.func33 (cd := Reader_Take) (L := [0, 1, 4, 5, 7, 15]) (by kernel_rfl) (by kernel_rfl) ⟨by rw [hl, Try.ntmps33]; decide, by rw [Try.ntmps33]; decide⟩ hv
def Reader_Take_gos := And.intro @Reader_Take_go (And.intro @Reader_Take_r0_go (And.intro @Reader_Take_r1_go (And.intro @Reader_Take_r2_go (And.intro @Reader_Take_r3_go (And.intro @Reader_Take_r4_go (And.intro @Reader_Take_r5_go (And.intro @Reader_Take_r6_go (And.intro @Reader_Take_r7_go (@Reader_Take_r8_go)))))))))

/-! (*jvmcore/pool.Reader).Index: function 34: slots [0, 2] -/
def Reader_Index_r0 : List Sop := [
  ⟨some (2, true), .assign (.const (.int .u16 0)), 29, none, true⟩]
theorem Reader_Index_r0_go {K : Env → Heap → Prop} {τ ρ : Env} {h : Heap} : vcOps Try.prog K Reader_Index_r0 τ ρ h = vcOps Try.prog K [
  ⟨some (2, true), .assign (.const (.int .u16 0)), 29, none, true⟩] τ ρ h := _root_.id rfl
def Reader_Index_r1 : List Sop := [
  ⟨some (3, false), .move (.tmp 0), 52, none, true⟩,
  ⟨some (4, false), .call { callee := .value (.func 29), args := #[.tmp 3, .const (.int .i64 2)], argTypes := #[52, 3] }, 3, none, false⟩,
  ⟨some (5, false), .convert 3 29 (.tmp 4), 29, none, true⟩,
  ⟨some (2, true), .assign (.tmp 5), 29, none, true⟩]
theorem Reader_Index_r1_go {K : Env → Heap → Prop} {τ ρ : Env} {h : Heap} : vcOps Try.prog K Reader_Index_r1 τ ρ h = vcOps Try.prog K [
  ⟨some (3, false), .move (.tmp 0), 52, none, true⟩,
  ⟨some (4, false), .call { callee := .value (.func 29), args := #[.tmp 3, .const (.int .i64 2)], argTypes := #[52, 3] }, 3, none, false⟩,
  ⟨some (5, false), .convert 3 29 (.tmp 4), 29, none, true⟩,
  ⟨some (2, true), .assign (.tmp 5), 29, none, true⟩] τ ρ h := _root_.id rfl
def Reader_Index : Cd := .seq (.region Reader_Index_r0) (.seq (.region Reader_Index_r1) (.ret))
theorem Reader_Index_go {Q : Ex → Env → Heap → Prop} {ρ : Env} {h : Heap} : Cd.vc Try.prog Reader_Index Q ρ h = Cd.vc Try.prog (.seq (.region Reader_Index_r0) (.seq (.region Reader_Index_r1) (.ret))) Q ρ h := _root_.id rfl
theorem Reader_Index_calls {args : List Value} {h : Heap} {R : Value → Heap → Prop} (hl : args.length = 1) (hv : Cd.vc Try.prog Reader_Index (retQ Try.prog [(2, none)] R) (initEnv args [0, 2]) h) : HCalls Try.prog 34 args.toArray h R :=
  hcalls_of_vc (by kernel_rfl) Try.func34 (cd := Reader_Index) (L := [0, 2]) (by kernel_rfl) (by kernel_rfl) ⟨by rw [hl, Try.ntmps34]; decide, by rw [Try.ntmps34]; decide⟩ hv
def Reader_Index_gos := And.intro @Reader_Index_go (And.intro @Reader_Index_r0_go (@Reader_Index_r1_go))

/-! (*jvmcore/pool.Reader).Left: function 35: slots [0, 2] -/
def Reader_Left_r0 : List Sop := [
  ⟨some (2, true), .assign (.const (.int .i64 0)), 3, none, true⟩]
theorem Reader_Left_r0_go {K : Env → Heap → Prop} {τ ρ : Env} {h : Heap} : vcOps Try.prog K Reader_Left_r0 τ ρ h = vcOps Try.prog K [
  ⟨some (2, true), .assign (.const (.int .i64 0)), 3, none, true⟩] τ ρ h := _root_.id rfl
def Reader_Left_r1 : List (Sop × List Sop) := [
  (⟨some (3, false), .move (.tmp 0), 52, none, true⟩, []),
  (⟨some (4, false), .nilCheck (.tmp 3), 0, none, true⟩, []),
  (⟨some (5, false), .fieldAddr 60 (.tmp 4) 0, 0, none, true⟩, []),
  (⟨some (6, false), .load 9 (.tmp 5), 9, none, true⟩, []),
  (⟨some (7, false), .call { callee := .builtin .len, args := #[.tmp 6], argTypes := #[9] }, 3, none, true⟩, []),
  (⟨some (8, false), .move (.tmp 0), 52, none, true⟩, []),
  (⟨some (9, false), .nilCheck (.tmp 8), 0, none, true⟩, []),
  (⟨some (10, false), .fieldAddr 60 (.tmp 9) 1, 0, none, true⟩, []),
  (⟨some (11, false), .load 3 (.tmp 10), 3, none, true⟩, []),
  (⟨some (12, false), .binOp .sub 3 (.tmp 7) (.tmp 11) 3, 3, none, true⟩, []),
  (⟨some (2, true), .assign (.tmp 12), 3, none, true⟩, [])]
theorem Reader_Left_r1_go {K : Env → Heap → Prop} {τ ρ : Env} {h : Heap} : vcDraw Try.prog K Reader_Left_r1 τ ρ h = vcDraw Try.prog K [
  (⟨some (3, false), .move (.tmp 0), 52, none, true⟩, []),
  (⟨some (4, false), .nilCheck (.tmp 3), 0, none, true⟩, []),
  (⟨some (5, false), .fieldAddr 60 (.tmp 4) 0, 0, none, true⟩, []),
  (⟨some (6, false), .load 9 (.tmp 5), 9, none, true⟩, []),
  (⟨some (7, false), .call { callee := .builtin .len, args := #[.tmp 6], argTypes := #[9] }, 3, none, true⟩, []),
  (⟨some (8, false), .move (.tmp 0), 52, none, true⟩, []),
  (⟨some (9, false), .nilCheck (.tmp 8), 0, none, true⟩, []),
  (⟨some (10, false), .fieldAddr 60 (.tmp 9) 1, 0, none, true⟩, []),
  (⟨some (11, false), .load 3 (.tmp 10), 3, none, true⟩, []),
  (⟨some (12, false), .binOp .sub 3 (.tmp 7) (.tmp 11) 3, 3, none, true⟩, []),
  (⟨some (2, true), .assign (.tmp 12), 3, none, true⟩, [])] τ ρ h := _root_.id rfl
def Reader_Left : Cd := .seq (.region Reader_Left_r0) (.seq (.draw Reader_Left_r1) (.ret))
theorem Reader_Left_go {Q : Ex → Env → Heap → Prop} {ρ : Env} {h : Heap} : Cd.vc Try.prog Reader_Left Q ρ h = Cd.vc Try.prog (.seq (.region Reader_Left_r0) (.seq (.draw Reader_Left_r1) (.ret))) Q ρ h := _root_.id rfl
theorem Reader_Left_calls {args : List Value} {h : Heap} {R : Value → Heap → Prop} (hl : args.length = 1) (hv : Cd.vc Try.prog Reader_Left (retQ Try.prog [(2, none)] R) (initEnv args [0, 2]) h) : HCalls Try.prog 35 args.toArray h R :=
  hcalls_of_vc (by kernel_rfl) Try.func35 (cd := Reader_Left) (L := [0, 2]) (by kernel_rfl) (by kernel_rfl) ⟨by rw [hl, Try.ntmps35]; decide, by rw [Try.ntmps35]; decide⟩ hv
def Reader_Left_gos := And.intro @Reader_Left_go (And.intro @Reader_Left_r0_go (@Reader_Left_r1_go))

end Go.Proofs.Ytnpgmbpialokcaa.C
