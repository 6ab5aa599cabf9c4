/- The stripped code of some functions of this seat's program, printed by a program; that it is that code is proved by the kernel. No condition. -/

import Derived.Test.YtohkbpnblkkdgaaProg

import Derived.Test.YtohkbpnblkkdgaaVcH

set_option maxRecDepth 100000

set_option linter.defProp false

namespace Go.Proofs.Ytohkbpnblkkdgaa.C

open Go.Vc

/-! jvmcore/maps.values: function 66: slots [0, 1, 2, 6, 7, 8, 9, 10, 11, 12, 13, 15, 22, 31, 43, 50] -/
def maps_values_r0 : List Sop := [
  ⟨some (6, true), .assign (.const (.slice none 0 0)), 23, none, true⟩]
theorem maps_values_r0_go {K : Env → Heap → Prop} {τ ρ : Env} {h : Heap} : vcOps Try.prog K maps_values_r0 τ ρ h = vcOps Try.prog K [
  ⟨some (6, true), .assign (.const (.slice none 0 0)), 23, none, true⟩] τ ρ h := _root_.id rfl
def maps_values_r1 : List Sop := [
  ⟨some (7, true), .assign (.const (.slice none 0 0)), 23, none, true⟩]
theorem maps_values_r1_go {K : Env → Heap → Prop} {τ ρ : Env} {h : Heap} : vcOps Try.prog K maps_values_r1 τ ρ h = vcOps Try.prog K [
  ⟨some (7, true), .assign (.const (.slice none 0 0)), 23, none, true⟩] τ ρ h := _root_.id rfl
def maps_values_r2 : List Sop := [
  ⟨some (11, true), .move (.tmp 2), 3, none, true⟩,
  ⟨some (12, true), .move (.const (.int .i64 0)), 3, none, true⟩]
theorem maps_values_r2_go {K : Env → Heap → Prop} {τ ρ : Env} {h : Heap} : vcOps Try.prog K maps_values_r2 τ ρ h = vcOps Try.prog K [
  ⟨some (11, true), .move (.tmp 2), 3, none, true⟩,
  ⟨some (12, true), .move (.const (.int .i64 0)), 3, none, true⟩] τ ρ h := _root_.id rfl
def maps_values_r3 : List Sop := [
  ⟨some (13, true), .binOp .lss 3 (.tmp 12) (.tmp 11) 3, 4, none, true⟩]
theorem maps_values_r3_go {K : Env → Heap → Prop} {τ ρ : Env} {h : Heap} : vcOps Try.prog K maps_values_r3 τ ρ h = vcOps Try.prog K [
  ⟨some (13, true), .binOp .lss 3 (.tmp 12) (.tmp 11) 3, 4, none, true⟩] τ ρ h := _root_.id rfl
def maps_values_r4 : List Sop := [
  ⟨some (14, false), .move (.tmp 0), 54, none, true⟩,
  ⟨some (15, true), .call { callee := .value (.func 25), args := #[.tmp 14], argTypes := #[54] }, 4, none, false⟩]
theorem maps_values_r4_go {K : Env → Heap → Prop} {τ ρ : Env} {h : Heap} : vcOps Try.prog K maps_values_r4 τ ρ h = vcOps Try.prog K [
  ⟨some (14, false), .move (.tmp 0), 54, none, true⟩,
  ⟨some (15, true), .call { callee := .value (.func 25), args := #[.tmp 14], argTypes := #[54] }, 4, none, false⟩] τ ρ h := _root_.id rfl
def maps_values_r5 : List Sop := [
  ⟨some (6, true), .assign (.const (.slice none 0 0)), 23, none, true⟩]
theorem maps_values_r5_go {K : Env → Heap → Prop} {τ ρ : Env} {h : Heap} : vcOps Try.prog K maps_values_r5 τ ρ h = vcOps Try.prog K [
  ⟨some (6, true), .assign (.const (.slice none 0 0)), 23, none, true⟩] τ ρ h := _root_.id rfl
def maps_values_r6 : List Sop := [
  ⟨some (16, false), .move (.tmp 0), 54, none, true⟩,
  ⟨some (17, false), .call { callee := .value (.func 29), args := #[.tmp 16], argTypes := #[54] }, 3, none, false⟩,
  ⟨some (8, true), .assign (.tmp 17), 3, none, true⟩]
theorem maps_values_r6_go {K : Env → Heap → Prop} {τ ρ : Env} {h : Heap} : vcOps Try.prog K maps_values_r6 τ ρ h = vcOps Try.prog K [
  ⟨some (16, false), .move (.tmp 0), 54, none, true⟩,
  ⟨some (17, false), .call { callee := .value (.func 29), args := #[.tmp 16], argTypes := #[54] }, 3, none, false⟩,
  ⟨some (8, true), .assign (.tmp 17), 3, none, true⟩] τ ρ h := _root_.id rfl
def maps_values_r7 : List Sop := [
  ⟨some (18, false), .move (.tmp 0), 54, none, true⟩,
  ⟨some (19, false), .call { callee := .value (.func 23), args := #[.tmp 18, .const (.int .i64 1)], argTypes := #[54, 3] }, 3, none, false⟩,
  ⟨some (20, false), .convert 3 5 (.tmp 19), 5, none, true⟩,
  ⟨some (21, false), .build 25 #[(0, .tmp 20)], 25, none, true⟩,
  ⟨some (9, true), .alloc 25, 0, none, false⟩,
  ⟨none, .store 25 (.tmp 9) (.tmp 21), 0, none, false⟩]
theorem maps_values_r7_go {K : Env → Heap → Prop} {τ ρ : Env} {h : Heap} : vcOps Try.prog K maps_values_r7 τ ρ h = vcOps Try.prog K [
  ⟨some (18, false), .move (.tmp 0), 54, none, true⟩,
  ⟨some (19, false), .call { callee := .value (.func 23), args := #[.tmp 18, .const (.int .i64 1)], argTypes := #[54, 3] }, 3, none, false⟩,
  ⟨some (20, false), .convert 3 5 (.tmp 19), 5, none, true⟩,
  ⟨some (21, false), .build 25 #[(0, .tmp 20)], 25, none, true⟩,
  ⟨some (9, true), .alloc 25, 0, none, false⟩,
  ⟨none, .store 25 (.tmp 9) (.tmp 21), 0, none, false⟩] τ ρ h := _root_.id rfl
def maps_values_r8 : List Sop := [
  ⟨some (23, false), .fieldAddr 25 (.tmp 9) 0, 0, none, true⟩,
  ⟨some (24, false), .load 5 (.tmp 23), 5, none, true⟩,
  ⟨some (25, false), .binOp .eql 5 (.tmp 24) (.const (.int .u8 7)) 5, 4, none, true⟩,
  ⟨some (22, true), .assign (.tmp 25), 4, none, true⟩]
theorem maps_values_r8_go {K : Env → Heap → Prop} {τ ρ : Env} {h : Heap} : vcOps Try.prog K maps_values_r8 τ ρ h = vcOps Try.prog K [
  ⟨some (23, false), .fieldAddr 25 (.tmp 9) 0, 0, none, true⟩,
  ⟨some (24, false), .load 5 (.tmp 23), 5, none, true⟩,
  ⟨some (25, false), .binOp .eql 5 (.tmp 24) (.const (.int .u8 7)) 5, 4, none, true⟩,
  ⟨some (22, true), .assign (.tmp 25), 4, none, true⟩] τ ρ h := _root_.id rfl
def maps_values_r9 : List Sop := [
  ⟨some (26, false), .move (.tmp 0), 54, none, true⟩,
  ⟨some (27, false), .call { callee := .value (.func 52), args := #[.tmp 26], argTypes := #[54] }, 38, none, false⟩,
  ⟨some (10, true), .assign (.tmp 27), 38, none, true⟩]
theorem maps_values_r9_go {K : Env → Heap → Prop} {τ ρ : Env} {h : Heap} : vcOps Try.prog K maps_values_r9 τ ρ h = vcOps Try.prog K [
  ⟨some (26, false), .move (.tmp 0), 54, none, true⟩,
  ⟨some (27, false), .call { callee := .value (.func 52), args := #[.tmp 26], argTypes := #[54] }, 38, none, false⟩,
  ⟨some (10, true), .assign (.tmp 27), 38, none, true⟩] τ ρ h := _root_.id rfl
def maps_values_r10 : List Sop := [
  ⟨some (28, false), .move (.tmp 1), 22, none, true⟩,
  ⟨some (29, false), .move (.tmp 10), 38, none, true⟩,
  ⟨some (30, false), .call { callee := .value (.func 83), args := #[.tmp 28, .tmp 29, .const (.int .u8 7)], argTypes := #[22, 38, 5] }, 4, none, false⟩,
  ⟨some (31, true), .unOp .not 4 (.tmp 30), 4, none, true⟩]
theorem maps_values_r10_go {K : Env → Heap → Prop} {τ ρ : Env} {h : Heap} : vcOps Try.prog K maps_values_r10 τ ρ h = vcOps Try.prog K [
  ⟨some (28, false), .move (.tmp 1), 22, none, true⟩,
  ⟨some (29, false), .move (.tmp 10), 38, none, true⟩,
  ⟨some (30, false), .call { callee := .value (.func 83), args := #[.tmp 28, .tmp 29, .const (.int .u8 7)], argTypes := #[22, 38, 5] }, 4, none, false⟩,
  ⟨some (31, true), .unOp .not 4 (.tmp 30), 4, none, true⟩] τ ρ h := _root_.id rfl
def maps_values_r11 : List Sop := [
  ⟨some (32, false), .move (.tmp 0), 54, none, true⟩,
  ⟨some (33, false), .move (.tmp 8), 3, none, true⟩,
  ⟨some (34, false), .call { callee := .value (.func 28), args := #[.tmp 32, .const (.int .i64 7), .tmp 33], argTypes := #[54, 27, 3] }, 0, none, false⟩]
theorem maps_values_r11_go {K : Env → Heap → Prop} {τ ρ : Env} {h : Heap} : vcOps Try.prog K maps_values_r11 τ ρ h = vcOps Try.prog K [
  ⟨some (32, false), .move (.tmp 0), 54, none, true⟩,
  ⟨some (33, false), .move (.tmp 8), 3, none, true⟩,
  ⟨some (34, false), .call { callee := .value (.func 28), args := #[.tmp 32, .const (.int .i64 7), .tmp 33], argTypes := #[54, 27, 3] }, 0, none, false⟩] τ ρ h := _root_.id rfl
def maps_values_r12 : List Sop := [
  ⟨some (35, false), .move (.tmp 1), 22, none, true⟩,
  ⟨some (36, false), .move (.tmp 1), 22, none, true⟩,
  ⟨some (37, false), .move (.tmp 10), 38, none, true⟩,
  ⟨some (38, false), .indexAddr 22 (.tmp 36) (.tmp 37), 0, none, true⟩,
  ⟨some (39, false), .fieldAddr 76 (.tmp 38) 3, 0, none, true⟩,
  ⟨some (40, false), .load 38 (.tmp 39), 38, none, true⟩,
  ⟨some (41, false), .call { callee := .value (.func 84), args := #[.tmp 35, .tmp 40], argTypes := #[22, 38] }, 9, none, false⟩,
  ⟨some (42, false), .fieldAddr 25 (.tmp 9) 1, 0, none, true⟩,
  ⟨none, .store 9 (.tmp 42) (.tmp 41), 0, none, false⟩]
theorem maps_values_r12_go {K : Env → Heap → Prop} {τ ρ : Env} {h : Heap} : vcOps Try.prog K maps_values_r12 τ ρ h = vcOps Try.prog K [
  ⟨some (35, false), .move (.tmp 1), 22, none, true⟩,
  ⟨some (36, false), .move (.tmp 1), 22, none, true⟩,
  ⟨some (37, false), .move (.tmp 10), 38, none, true⟩,
  ⟨some (38, false), .indexAddr 22 (.tmp 36) (.tmp 37), 0, none, true⟩,
  ⟨some (39, false), .fieldAddr 76 (.tmp 38) 3, 0, none, true⟩,
  ⟨some (40, false), .load 38 (.tmp 39), 38, none, true⟩,
  ⟨some (41, false), .call { callee := .value (.func 84), args := #[.tmp 35, .tmp 40], argTypes := #[22, 38] }, 9, none, false⟩,
  ⟨some (42, false), .fieldAddr 25 (.tmp 9) 1, 0, none, true⟩,
  ⟨none, .store 9 (.tmp 42) (.tmp 41), 0, none, false⟩] τ ρ h := _root_.id rfl
def maps_values_r13 : List Sop := [
  ⟨some (44, false), .fieldAddr 25 (.tmp 9) 0, 0, none, true⟩,
  ⟨some (45, false), .load 5 (.tmp 44), 5, none, true⟩,
  ⟨some (46, false), .binOp .eql 5 (.tmp 45) (.const (.int .u8 8)) 5, 4, none, true⟩,
  ⟨some (43, true), .assign (.tmp 46), 4, none, true⟩]
theorem maps_values_r13_go {K : Env → Heap → Prop} {τ ρ : Env} {h : Heap} : vcOps Try.prog K maps_values_r13 τ ρ h = vcOps Try.prog K [
  ⟨some (44, false), .fieldAddr 25 (.tmp 9) 0, 0, none, true⟩,
  ⟨some (45, false), .load 5 (.tmp 44), 5, none, true⟩,
  ⟨some (46, false), .binOp .eql 5 (.tmp 45) (.const (.int .u8 8)) 5, 4, none, true⟩,
  ⟨some (43, true), .assign (.tmp 46), 4, none, true⟩] τ ρ h := _root_.id rfl
def maps_values_r14 : List Sop := [
  ⟨some (47, false), .move (.tmp 0), 54, none, true⟩,
  ⟨some (48, false), .call { callee := .value (.func 23), args := #[.tmp 47, .const (.int .i64 2)], argTypes := #[54, 3] }, 3, none, false⟩,
  ⟨some (49, false), .fieldAddr 25 (.tmp 9) 2, 0, none, true⟩,
  ⟨none, .store 3 (.tmp 49) (.tmp 48), 0, none, false⟩]
theorem maps_values_r14_go {K : Env → Heap → Prop} {τ ρ : Env} {h : Heap} : vcOps Try.prog K maps_values_r14 τ ρ h = vcOps Try.prog K [
  ⟨some (47, false), .move (.tmp 0), 54, none, true⟩,
  ⟨some (48, false), .call { callee := .value (.func 23), args := #[.tmp 47, .const (.int .i64 2)], argTypes := #[54, 3] }, 3, none, false⟩,
  ⟨some (49, false), .fieldAddr 25 (.tmp 9) 2, 0, none, true⟩,
  ⟨none, .store 3 (.tmp 49) (.tmp 48), 0, none, false⟩] τ ρ h := _root_.id rfl
def maps_values_r15 : List Sop := [
  ⟨some (51, false), .fieldAddr 25 (.tmp 9) 0, 0, none, true⟩,
  ⟨some (52, false), .load 5 (.tmp 51), 5, none, true⟩,
  ⟨some (53, false), .binOp .gtr 5 (.tmp 52) (.const (.int .u8 8)) 5, 4, none, true⟩,
  ⟨some (50, true), .assign (.tmp 53), 4, none, true⟩]
theorem maps_values_r15_go {K : Env → Heap → Prop} {τ ρ : Env} {h : Heap} : vcOps Try.prog K maps_values_r15 τ ρ h = vcOps Try.prog K [
  ⟨some (51, false), .fieldAddr 25 (.tmp 9) 0, 0, none, true⟩,
  ⟨some (52, false), .load 5 (.tmp 51), 5, none, true⟩,
  ⟨some (53, false), .binOp .gtr 5 (.tmp 52) (.const (.int .u8 8)) 5, 4, none, true⟩,
  ⟨some (50, true), .assign (.tmp 53), 4, none, true⟩] τ ρ h := _root_.id rfl
def maps_values_r16 : List Sop := [
  ⟨some (54, false), .move (.tmp 0), 54, none, true⟩,
  ⟨some (55, false), .move (.tmp 8), 3, none, true⟩,
  ⟨some (56, false), .call { callee := .value (.func 28), args := #[.tmp 54, .const (.int .i64 17), .tmp 55], argTypes := #[54, 27, 3] }, 0, none, false⟩]
theorem maps_values_r16_go {K : Env → Heap → Prop} {τ ρ : Env} {h : Heap} : vcOps Try.prog K maps_values_r16 τ ρ h = vcOps Try.prog K [
  ⟨some (54, false), .move (.tmp 0), 54, none, true⟩,
  ⟨some (55, false), .move (.tmp 8), 3, none, true⟩,
  ⟨some (56, false), .call { callee := .value (.func 28), args := #[.tmp 54, .const (.int .i64 17), .tmp 55], argTypes := #[54, 27, 3] }, 0, none, false⟩] τ ρ h := _root_.id rfl
def maps_values_r17 : List Sop := [
  ⟨some (57, false), .move (.tmp 7), 23, none, true⟩,
  ⟨some (58, false), .load 25 (.tmp 9), 25, none, true⟩,
  ⟨some (59, false), .buildSlice 23 1 #[(0, .tmp 58)], 23, none, false⟩,
  ⟨some (60, false), .call { callee := .builtin .append, args := #[.tmp 57, .tmp 59], argTypes := #[23, 23] }, 23, none, false⟩,
  ⟨some (7, true), .assign (.tmp 60), 23, none, true⟩]
theorem maps_values_r17_go {K : Env → Heap → Prop} {τ ρ : Env} {h : Heap} : vcOps Try.prog K maps_values_r17 τ ρ h = vcOps Try.prog K [
  ⟨some (57, false), .move (.tmp 7), 23, none, true⟩,
  ⟨some (58, false), .load 25 (.tmp 9), 25, none, true⟩,
  ⟨some (59, false), .buildSlice 23 1 #[(0, .tmp 58)], 23, none, false⟩,
  ⟨some (60, false), .call { callee := .builtin .append, args := #[.tmp 57, .tmp 59], argTypes := #[23, 23] }, 23, none, false⟩,
  ⟨some (7, true), .assign (.tmp 60), 23, none, true⟩] τ ρ h := _root_.id rfl
def maps_values_r18 : List Sop := [
  ⟨some (61, false), .binOp .add 3 (.tmp 12) (.const (.int .i64 1)) 3, 3, none, true⟩,
  ⟨some (12, true), .move (.tmp 61), 3, none, true⟩]
theorem maps_values_r18_go {K : Env → Heap → Prop} {τ ρ : Env} {h : Heap} : vcOps Try.prog K maps_values_r18 τ ρ h = vcOps Try.prog K [
  ⟨some (61, false), .binOp .add 3 (.tmp 12) (.const (.int .i64 1)) 3, 3, none, true⟩,
  ⟨some (12, true), .move (.tmp 61), 3, none, true⟩] τ ρ h := _root_.id rfl
def maps_values_r19 : List Sop := [
  ⟨some (62, false), .move (.tmp 7), 23, none, true⟩,
  ⟨some (6, true), .assign (.tmp 62), 23, none, true⟩]
theorem maps_values_r19_go {K : Env → Heap → Prop} {τ ρ : Env} {h : Heap} : vcOps Try.prog K maps_values_r19 τ ρ h = vcOps Try.prog K [
  ⟨some (62, false), .move (.tmp 7), 23, none, true⟩,
  ⟨some (6, true), .assign (.tmp 62), 23, none, true⟩] τ ρ h := _root_.id rfl
def maps_values_l0 : Cd := .seq (.region maps_values_r3) (.seq (.cond (.tmp 13) (.skip) (.exit 0)) (.seq (.block 1 (.seq (.seq (.region maps_values_r4) (.cond (.tmp 15) (.seq (.region maps_values_r5) (.ret)) (.skip))) (.seq (.region maps_values_r6) (.seq (.region maps_values_r7) (.seq (.block 2 (.seq (.region maps_values_r8) (.cond (.tmp 22) (.seq (.region maps_values_r9) (.seq (.region maps_values_r10) (.cond (.tmp 31) (.region maps_values_r11) (.region maps_values_r12)))) (.seq (.region maps_values_r13) (.cond (.tmp 43) (.region maps_values_r14) (.seq (.region maps_values_r15) (.cond (.tmp 50) (.region maps_values_r16) (.skip)))))))) (.region maps_values_r17)))))) (.region maps_values_r18)))
theorem maps_values_l0_go {Q : Ex → Env → Heap → Prop} {ρ : Env} {h : Heap} : Cd.vc Try.prog maps_values_l0 Q ρ h = Cd.vc Try.prog (.seq (.region maps_values_r3) (.seq (.cond (.tmp 13) (.skip) (.exit 0)) (.seq (.block 1 (.seq (.seq (.region maps_values_r4) (.cond (.tmp 15) (.seq (.region maps_values_r5) (.ret)) (.skip))) (.seq (.region maps_values_r6) (.seq (.region maps_values_r7) (.seq (.block 2 (.seq (.region maps_values_r8) (.cond (.tmp 22) (.seq (.region maps_values_r9) (.seq (.region maps_values_r10) (.cond (.tmp 31) (.region maps_values_r11) (.region maps_values_r12)))) (.seq (.region maps_values_r13) (.cond (.tmp 43) (.region maps_values_r14) (.seq (.region maps_values_r15) (.cond (.tmp 50) (.region maps_values_r16) (.skip)))))))) (.region maps_values_r17)))))) (.region maps_values_r18)))) Q ρ h := _root_.id rfl
def maps_values : Cd := .seq (.region maps_values_r0) (.seq (.region maps_values_r1) (.seq (.seq (.region maps_values_r2) (.block 0 (.loop maps_values_l0))) (.seq (.region maps_values_r19) (.ret))))
theorem maps_values_go {Q : Ex → Env → Heap → Prop} {ρ : Env} {h : Heap} : Cd.vc Try.prog maps_values Q ρ h = Cd.vc Try.prog (.seq (.region maps_values_r0) (.seq (.region maps_values_r1) (.seq (.seq (.region maps_values_r2) (.block 0 (.loop maps_values_l0))) (.seq (.region maps_values_r19) (.ret))))) Q ρ h := _root_.id rfl
theorem maps_values_calls {args : List Value} {h : Heap} {R : Value → Heap → Prop} (hl : args.length = 3) (hv : Cd.vc Try.prog maps_values (retQ Try.prog [(6, none)] R) (initEnv args [0, 1, 2, 6, 7, 8, 9, 10, 11, 12, 13, 15, 22, 31, 43, 50]) h) : HCalls Try.prog 66 args.toArray h R :=
  hcalls_of_vc (by kernel_rfl) Try.func66 (cd := maps_values) (L := [0, 1, 2, 6, 7, 8, 9, 10, 11, 12, 13, 15, 22, 31, 43, 50]) (by kernel_rfl) (by kernel_rfl) ⟨by rw [hl, Try.ntmps66]; decide, by rw [Try.ntmps66]; decide⟩ hv
def maps_values_gos := And.intro @maps_values_go (And.intro @maps_values_r0_go (And.intro @maps_values_r1_go (And.intro @maps_values_r2_go (And.intro @maps_values_r3_go (And.intro @maps_values_r4_go (And.intro @maps_values_r5_go (And.intro @maps_values_r6_go (And.intro @maps_values_r7_go (And.intro @maps_values_r8_go (And.intro @maps_values_r9_go (And.intro @maps_values_r10_go (And.intro @maps_values_r11_go (And.intro @maps_values_r12_go (And.intro @maps_values_r13_go (And.intro @maps_values_r14_go (And.intro @maps_values_r15_go (And.intro @maps_values_r16_go (And.intro @maps_values_r17_go (And.intro @maps_values_r18_go (And.intro @maps_values_r19_go (@maps_values_l0_go)))))))))))))))))))))

/-! jvmcore/maps.one: function 26: slots [0, 1, 2, 6, 7, 8, 9, 10, 11, 12, 20, 25, 35, 56, 63, 72, 82] -/
def maps_one_r0 : List Sop := [
  ⟨some (6, true), .alloc 35, 0, none, false⟩,
  ⟨some (7, true), .assign (.const (.int .i64 0)), 3, none, true⟩]
theorem maps_one_r0_go {K : Env → Heap → Prop} {τ ρ : Env} {h : Heap} : vcOps Try.prog K maps_one_r0 τ ρ h = vcOps Try.prog K [
  ⟨some (6, true), .alloc 35, 0, none, false⟩,
  ⟨some (7, true), .assign (.const (.int .i64 0)), 3, none, true⟩] τ ρ h := _root_.id rfl
def maps_one_r1 : List Sop := [
  ⟨some (13, false), .move (.tmp 0), 54, none, true⟩,
  ⟨some (14, false), .call { callee := .value (.func 29), args := #[.tmp 13], argTypes := #[54] }, 3, none, false⟩,
  ⟨some (8, true), .assign (.tmp 14), 3, none, true⟩]
theorem maps_one_r1_go {K : Env → Heap → Prop} {τ ρ : Env} {h : Heap} : vcOps Try.prog K maps_one_r1 τ ρ h = vcOps Try.prog K [
  ⟨some (13, false), .move (.tmp 0), 54, none, true⟩,
  ⟨some (14, false), .call { callee := .value (.func 29), args := #[.tmp 13], argTypes := #[54] }, 3, none, false⟩,
  ⟨some (8, true), .assign (.tmp 14), 3, none, true⟩] τ ρ h := _root_.id rfl
def maps_one_r2 : List Sop := [
  ⟨some (15, false), .move (.tmp 0), 54, none, true⟩,
  ⟨some (16, false), .call { callee := .value (.func 23), args := #[.tmp 15, .const (.int .i64 1)], argTypes := #[54, 3] }, 3, none, false⟩,
  ⟨some (9, true), .assign (.tmp 16), 3, none, true⟩]
theorem maps_one_r2_go {K : Env → Heap → Prop} {τ ρ : Env} {h : Heap} : vcOps Try.prog K maps_one_r2 τ ρ h = vcOps Try.prog K [
  ⟨some (15, false), .move (.tmp 0), 54, none, true⟩,
  ⟨some (16, false), .call { callee := .value (.func 23), args := #[.tmp 15, .const (.int .i64 1)], argTypes := #[54, 3] }, 3, none, false⟩,
  ⟨some (9, true), .assign (.tmp 16), 3, none, true⟩] τ ρ h := _root_.id rfl
def maps_one_r3 : List Sop := [
  ⟨some (17, false), .move (.tmp 2), 23, none, true⟩,
  ⟨some (18, false), .call { callee := .value (.func 24), args := #[.tmp 17], argTypes := #[23] }, 23, none, false⟩,
  ⟨some (19, false), .build 35 #[(1, .tmp 18)], 35, none, true⟩,
  ⟨some (10, true), .alloc 35, 0, none, false⟩,
  ⟨none, .store 35 (.tmp 10) (.tmp 19), 0, none, false⟩]
theorem maps_one_r3_go {K : Env → Heap → Prop} {τ ρ : Env} {h : Heap} : vcOps Try.prog K maps_one_r3 τ ρ h = vcOps Try.prog K [
  ⟨some (17, false), .move (.tmp 2), 23, none, true⟩,
  ⟨some (18, false), .call { callee := .value (.func 24), args := #[.tmp 17], argTypes := #[23] }, 23, none, false⟩,
  ⟨some (19, false), .build 35 #[(1, .tmp 18)], 35, none, true⟩,
  ⟨some (10, true), .alloc 35, 0, none, false⟩,
  ⟨none, .store 35 (.tmp 10) (.tmp 19), 0, none, false⟩] τ ρ h := _root_.id rfl
def maps_one_r4 : List Sop := [
  ⟨some (21, false), .move (.tmp 9), 3, none, true⟩,
  ⟨some (22, false), .binOp .lss 3 (.tmp 21) (.const (.int .i64 64)) 3, 4, none, true⟩,
  ⟨some (20, true), .assign (.tmp 22), 4, none, true⟩]
theorem maps_one_r4_go {K : Env → Heap → Prop} {τ ρ : Env} {h : Heap} : vcOps Try.prog K maps_one_r4 τ ρ h = vcOps Try.prog K [
  ⟨some (21, false), .move (.tmp 9), 3, none, true⟩,
  ⟨some (22, false), .binOp .lss 3 (.tmp 21) (.const (.int .i64 64)) 3, 4, none, true⟩,
  ⟨some (20, true), .assign (.tmp 22), 4, none, true⟩] τ ρ h := _root_.id rfl
def maps_one_r5 : List Sop := [
  ⟨some (23, false), .load 35 (.tmp 10), 35, none, true⟩,
  ⟨some (24, false), .move (.tmp 9), 3, none, true⟩,
  ⟨none, .store 35 (.tmp 6) (.tmp 23), 0, none, false⟩,
  ⟨some (7, true), .assign (.tmp 24), 3, none, true⟩]
theorem maps_one_r5_go {K : Env → Heap → Prop} {τ ρ : Env} {h : Heap} : vcOps Try.prog K maps_one_r5 τ ρ h = vcOps Try.prog K [
  ⟨some (23, false), .load 35 (.tmp 10), 35, none, true⟩,
  ⟨some (24, false), .move (.tmp 9), 3, none, true⟩,
  ⟨none, .store 35 (.tmp 6) (.tmp 23), 0, none, false⟩,
  ⟨some (7, true), .assign (.tmp 24), 3, none, true⟩] τ ρ h := _root_.id rfl
def maps_one_r6 : List Sop := [
  ⟨some (26, false), .move (.tmp 9), 3, none, true⟩,
  ⟨some (27, false), .binOp .lss 3 (.tmp 26) (.const (.int .i64 128)) 3, 4, none, true⟩,
  ⟨some (25, true), .assign (.tmp 27), 4, none, true⟩]
theorem maps_one_r6_go {K : Env → Heap → Prop} {τ ρ : Env} {h : Heap} : vcOps Try.prog K maps_one_r6 τ ρ h = vcOps Try.prog K [
  ⟨some (26, false), .move (.tmp 9), 3, none, true⟩,
  ⟨some (27, false), .binOp .lss 3 (.tmp 26) (.const (.int .i64 128)) 3, 4, none, true⟩,
  ⟨some (25, true), .assign (.tmp 27), 4, none, true⟩] τ ρ h := _root_.id rfl
def maps_one_r7 : List Sop := [
  ⟨some (28, false), .move (.tmp 0), 54, none, true⟩,
  ⟨some (29, false), .move (.tmp 1), 22, none, true⟩,
  ⟨some (30, false), .call { callee := .value (.func 66), args := #[.tmp 28, .tmp 29, .const (.int .i64 1)], argTypes := #[54, 22, 3] }, 23, none, false⟩,
  ⟨some (31, false), .fieldAddr 35 (.tmp 10) 2, 0, none, true⟩,
  ⟨none, .store 23 (.tmp 31) (.tmp 30), 0, none, false⟩]
theorem maps_one_r7_go {K : Env → Heap → Prop} {τ ρ : Env} {h : Heap} : vcOps Try.prog K maps_one_r7 τ ρ h = vcOps Try.prog K [
  ⟨some (28, false), .move (.tmp 0), 54, none, true⟩,
  ⟨some (29, false), .move (.tmp 1), 22, none, true⟩,
  ⟨some (30, false), .call { callee := .value (.func 66), args := #[.tmp 28, .tmp 29, .const (.int .i64 1)], argTypes := #[54, 22, 3] }, 23, none, false⟩,
  ⟨some (31, false), .fieldAddr 35 (.tmp 10) 2, 0, none, true⟩,
  ⟨none, .store 23 (.tmp 31) (.tmp 30), 0, none, false⟩] τ ρ h := _root_.id rfl
def maps_one_r8 : List Sop := [
  ⟨some (32, false), .load 35 (.tmp 10), 35, none, true⟩,
  ⟨some (33, false), .move (.tmp 9), 3, none, true⟩,
  ⟨some (34, false), .binOp .sub 3 (.tmp 33) (.const (.int .i64 64)) 3, 3, none, true⟩,
  ⟨none, .store 35 (.tmp 6) (.tmp 32), 0, none, false⟩,
  ⟨some (7, true), .assign (.tmp 34), 3, none, true⟩]
theorem maps_one_r8_go {K : Env → Heap → Prop} {τ ρ : Env} {h : Heap} : vcOps Try.prog K maps_one_r8 τ ρ h = vcOps Try.prog K [
  ⟨some (32, false), .load 35 (.tmp 10), 35, none, true⟩,
  ⟨some (33, false), .move (.tmp 9), 3, none, true⟩,
  ⟨some (34, false), .binOp .sub 3 (.tmp 33) (.const (.int .i64 64)) 3, 3, none, true⟩,
  ⟨none, .store 35 (.tmp 6) (.tmp 32), 0, none, false⟩,
  ⟨some (7, true), .assign (.tmp 34), 3, none, true⟩] τ ρ h := _root_.id rfl
def maps_one_r9 : List Sop := [
  ⟨some (36, false), .move (.tmp 9), 3, none, true⟩,
  ⟨some (37, false), .binOp .lss 3 (.tmp 36) (.const (.int .i64 247)) 3, 4, none, true⟩,
  ⟨some (35, true), .assign (.tmp 37), 4, none, true⟩]
theorem maps_one_r9_go {K : Env → Heap → Prop} {τ ρ : Env} {h : Heap} : vcOps Try.prog K maps_one_r9 τ ρ h = vcOps Try.prog K [
  ⟨some (36, false), .move (.tmp 9), 3, none, true⟩,
  ⟨some (37, false), .binOp .lss 3 (.tmp 36) (.const (.int .i64 247)) 3, 4, none, true⟩,
  ⟨some (35, true), .assign (.tmp 37), 4, none, true⟩] τ ρ h := _root_.id rfl
def maps_one_r10 : List Sop := [
  ⟨some (38, false), .move (.tmp 0), 54, none, true⟩,
  ⟨some (39, false), .move (.tmp 8), 3, none, true⟩,
  ⟨some (40, false), .call { callee := .value (.func 28), args := #[.tmp 38, .const (.int .i64 17), .tmp 39], argTypes := #[54, 27, 3] }, 0, none, false⟩]
theorem maps_one_r10_go {K : Env → Heap → Prop} {τ ρ : Env} {h : Heap} : vcOps Try.prog K maps_one_r10 τ ρ h = vcOps Try.prog K [
  ⟨some (38, false), .move (.tmp 0), 54, none, true⟩,
  ⟨some (39, false), .move (.tmp 8), 3, none, true⟩,
  ⟨some (40, false), .call { callee := .value (.func 28), args := #[.tmp 38, .const (.int .i64 17), .tmp 39], argTypes := #[54, 27, 3] }, 0, none, false⟩] τ ρ h := _root_.id rfl
def maps_one_r11 : List Sop := [
  ⟨some (41, false), .load 35 (.tmp 10), 35, none, true⟩,
  ⟨none, .store 35 (.tmp 6) (.tmp 41), 0, none, false⟩,
  ⟨some (7, true), .assign (.const (.int .i64 0)), 3, none, true⟩]
theorem maps_one_r11_go {K : Env → Heap → Prop} {τ ρ : Env} {h : Heap} : vcOps Try.prog K maps_one_r11 τ ρ h = vcOps Try.prog K [
  ⟨some (41, false), .load 35 (.tmp 10), 35, none, true⟩,
  ⟨none, .store 35 (.tmp 6) (.tmp 41), 0, none, false⟩,
  ⟨some (7, true), .assign (.const (.int .i64 0)), 3, none, true⟩] τ ρ h := _root_.id rfl
def maps_one_r12 : List Sop := [
  ⟨some (42, false), .move (.tmp 0), 54, none, true⟩,
  ⟨some (43, false), .call { callee := .value (.func 23), args := #[.tmp 42, .const (.int .i64 2)], argTypes := #[54, 3] }, 3, none, false⟩,
  ⟨some (11, true), .assign (.tmp 43), 3, none, true⟩]
theorem maps_one_r12_go {K : Env → Heap → Prop} {τ ρ : Env} {h : Heap} : vcOps Try.prog K maps_one_r12 τ ρ h = vcOps Try.prog K [
  ⟨some (42, false), .move (.tmp 0), 54, none, true⟩,
  ⟨some (43, false), .call { callee := .value (.func 23), args := #[.tmp 42, .const (.int .i64 2)], argTypes := #[54, 3] }, 3, none, false⟩,
  ⟨some (11, true), .assign (.tmp 43), 3, none, true⟩] τ ρ h := _root_.id rfl
def maps_one_r13 : List Sop := [
  ⟨some (57, false), .move (.tmp 9), 3, none, true⟩,
  ⟨some (58, false), .binOp .eql 3 (.tmp 57) (.const (.int .i64 247)) 3, 4, none, true⟩,
  ⟨some (56, true), .assign (.tmp 58), 4, none, true⟩]
theorem maps_one_r13_go {K : Env → Heap → Prop} {τ ρ : Env} {h : Heap} : vcOps Try.prog K maps_one_r13 τ ρ h = vcOps Try.prog K [
  ⟨some (57, false), .move (.tmp 9), 3, none, true⟩,
  ⟨some (58, false), .binOp .eql 3 (.tmp 57) (.const (.int .i64 247)) 3, 4, none, true⟩,
  ⟨some (56, true), .assign (.tmp 58), 4, none, true⟩] τ ρ h := _root_.id rfl
def maps_one_r14 : List Sop := [
  ⟨some (59, false), .move (.tmp 0), 54, none, true⟩,
  ⟨some (60, false), .move (.tmp 1), 22, none, true⟩,
  ⟨some (61, false), .call { callee := .value (.func 66), args := #[.tmp 59, .tmp 60, .const (.int .i64 1)], argTypes := #[54, 22, 3] }, 23, none, false⟩,
  ⟨some (62, false), .fieldAddr 35 (.tmp 10) 2, 0, none, true⟩,
  ⟨none, .store 23 (.tmp 62) (.tmp 61), 0, none, false⟩]
theorem maps_one_r14_go {K : Env → Heap → Prop} {τ ρ : Env} {h : Heap} : vcOps Try.prog K maps_one_r14 τ ρ h = vcOps Try.prog K [
  ⟨some (59, false), .move (.tmp 0), 54, none, true⟩,
  ⟨some (60, false), .move (.tmp 1), 22, none, true⟩,
  ⟨some (61, false), .call { callee := .value (.func 66), args := #[.tmp 59, .tmp 60, .const (.int .i64 1)], argTypes := #[54, 22, 3] }, 23, none, false⟩,
  ⟨some (62, false), .fieldAddr 35 (.tmp 10) 2, 0, none, true⟩,
  ⟨none, .store 23 (.tmp 62) (.tmp 61), 0, none, false⟩] τ ρ h := _root_.id rfl
def maps_one_r15 : List Sop := [
  ⟨some (64, false), .move (.tmp 9), 3, none, true⟩,
  ⟨some (65, false), .binOp .lss 3 (.tmp 64) (.const (.int .i64 251)) 3, 4, none, true⟩,
  ⟨some (63, true), .assign (.tmp 65), 4, none, true⟩]
theorem maps_one_r15_go {K : Env → Heap → Prop} {τ ρ : Env} {h : Heap} : vcOps Try.prog K maps_one_r15 τ ρ h = vcOps Try.prog K [
  ⟨some (64, false), .move (.tmp 9), 3, none, true⟩,
  ⟨some (65, false), .binOp .lss 3 (.tmp 64) (.const (.int .i64 251)) 3, 4, none, true⟩,
  ⟨some (63, true), .assign (.tmp 65), 4, none, true⟩] τ ρ h := _root_.id rfl
def maps_one_r16 : List Sop := [
  ⟨some (66, false), .move (.tmp 2), 23, none, true⟩,
  ⟨some (67, false), .call { callee := .builtin .len, args := #[.tmp 66], argTypes := #[23] }, 3, none, true⟩,
  ⟨some (68, false), .move (.tmp 9), 3, none, true⟩,
  ⟨some (69, false), .binOp .sub 3 (.const (.int .i64 251)) (.tmp 68) 3, 3, none, true⟩,
  ⟨some (70, false), .binOp .sub 3 (.tmp 67) (.tmp 69) 3, 3, none, true⟩,
  ⟨some (12, true), .assign (.tmp 70), 3, none, true⟩]
theorem maps_one_r16_go {K : Env → Heap → Prop} {τ ρ : Env} {h : Heap} : vcOps Try.prog K maps_one_r16 τ ρ h = vcOps Try.prog K [
  ⟨some (66, false), .move (.tmp 2), 23, none, true⟩,
  ⟨some (67, false), .call { callee := .builtin .len, args := #[.tmp 66], argTypes := #[23] }, 3, none, true⟩,
  ⟨some (68, false), .move (.tmp 9), 3, none, true⟩,
  ⟨some (69, false), .binOp .sub 3 (.const (.int .i64 251)) (.tmp 68) 3, 3, none, true⟩,
  ⟨some (70, false), .binOp .sub 3 (.tmp 67) (.tmp 69) 3, 3, none, true⟩,
  ⟨some (12, true), .assign (.tmp 70), 3, none, true⟩] τ ρ h := _root_.id rfl
def maps_one_r17 : List Sop := [
  ⟨some (71, false), .move (.tmp 12), 3, none, true⟩,
  ⟨some (72, true), .binOp .lss 3 (.tmp 71) (.const (.int .i64 0)) 3, 4, none, true⟩]
theorem maps_one_r17_go {K : Env → Heap → Prop} {τ ρ : Env} {h : Heap} : vcOps Try.prog K maps_one_r17 τ ρ h = vcOps Try.prog K [
  ⟨some (71, false), .move (.tmp 12), 3, none, true⟩,
  ⟨some (72, true), .binOp .lss 3 (.tmp 71) (.const (.int .i64 0)) 3, 4, none, true⟩] τ ρ h := _root_.id rfl
def maps_one_r18 : List Sop := [
  ⟨some (73, false), .move (.tmp 0), 54, none, true⟩,
  ⟨some (74, false), .move (.tmp 8), 3, none, true⟩,
  ⟨some (75, false), .call { callee := .value (.func 28), args := #[.tmp 73, .const (.int .i64 17), .tmp 74], argTypes := #[54, 27, 3] }, 0, none, false⟩]
theorem maps_one_r18_go {K : Env → Heap → Prop} {τ ρ : Env} {h : Heap} : vcOps Try.prog K maps_one_r18 τ ρ h = vcOps Try.prog K [
  ⟨some (73, false), .move (.tmp 0), 54, none, true⟩,
  ⟨some (74, false), .move (.tmp 8), 3, none, true⟩,
  ⟨some (75, false), .call { callee := .value (.func 28), args := #[.tmp 73, .const (.int .i64 17), .tmp 74], argTypes := #[54, 27, 3] }, 0, none, false⟩] τ ρ h := _root_.id rfl
def maps_one_r19 : List Sop := [
  ⟨some (76, false), .load 35 (.tmp 10), 35, none, true⟩,
  ⟨none, .store 35 (.tmp 6) (.tmp 76), 0, none, false⟩,
  ⟨some (7, true), .assign (.const (.int .i64 0)), 3, none, true⟩]
theorem maps_one_r19_go {K : Env → Heap → Prop} {τ ρ : Env} {h : Heap} : vcOps Try.prog K maps_one_r19 τ ρ h = vcOps Try.prog K [
  ⟨some (76, false), .load 35 (.tmp 10), 35, none, true⟩,
  ⟨none, .store 35 (.tmp 6) (.tmp 76), 0, none, false⟩,
  ⟨some (7, true), .assign (.const (.int .i64 0)), 3, none, true⟩] τ ρ h := _root_.id rfl
def maps_one_r20 : List Sop := [
  ⟨some (77, false), .fieldAddr 35 (.tmp 10) 1, 0, none, true⟩,
  ⟨some (78, false), .load 23 (.tmp 77), 23, none, true⟩,
  ⟨some (79, false), .move (.tmp 12), 3, none, true⟩,
  ⟨some (80, false), .slice 23 (.tmp 78) none (some (.tmp 79)) none, 23, none, true⟩,
  ⟨some (81, false), .fieldAddr 35 (.tmp 10) 1, 0, none, true⟩,
  ⟨none, .store 23 (.tmp 81) (.tmp 80), 0, none, false⟩]
theorem maps_one_r20_go {K : Env → Heap → Prop} {τ ρ : Env} {h : Heap} : vcOps Try.prog K maps_one_r20 τ ρ h = vcOps Try.prog K [
  ⟨some (77, false), .fieldAddr 35 (.tmp 10) 1, 0, none, true⟩,
  ⟨some (78, false), .load 23 (.tmp 77), 23, none, true⟩,
  ⟨some (79, false), .move (.tmp 12), 3, none, true⟩,
  ⟨some (80, false), .slice 23 (.tmp 78) none (some (.tmp 79)) none, 23, none, true⟩,
  ⟨some (81, false), .fieldAddr 35 (.tmp 10) 1, 0, none, true⟩,
  ⟨none, .store 23 (.tmp 81) (.tmp 80), 0, none, false⟩] τ ρ h := _root_.id rfl
def maps_one_r21 : List Sop := [
  ⟨some (83, false), .move (.tmp 9), 3, none, true⟩,
  ⟨some (84, false), .binOp .lss 3 (.tmp 83) (.const (.int .i64 255)) 3, 4, none, true⟩,
  ⟨some (82, true), .assign (.tmp 84), 4, none, true⟩]
theorem maps_one_r21_go {K : Env → Heap → Prop} {τ ρ : Env} {h : Heap} : vcOps Try.prog K maps_one_r21 τ ρ h = vcOps Try.prog K [
  ⟨some (83, false), .move (.tmp 9), 3, none, true⟩,
  ⟨some (84, false), .binOp .lss 3 (.tmp 83) (.const (.int .i64 255)) 3, 4, none, true⟩,
  ⟨some (82, true), .assign (.tmp 84), 4, none, true⟩] τ ρ h := _root_.id rfl
def maps_one_r22 : List (Sop × List Sop) := [
  (⟨some (85, false), .fieldAddr 35 (.tmp 10) 1, 0, none, true⟩, []),
  (⟨some (86, false), .load 23 (.tmp 85), 23, none, true⟩, []),
  (⟨some (87, false), .move (.tmp 0), 54, none, true⟩, []),
  (⟨some (88, false), .move (.tmp 1), 22, none, true⟩, []),
  (⟨some (89, false), .move (.tmp 9), 3, none, true⟩, []),
  (⟨some (90, false), .binOp .sub 3 (.tmp 89) (.const (.int .i64 251)) 3, 3, none, true⟩, []),
  (⟨some (91, false), .call { callee := .value (.func 66), args := #[.tmp 87, .tmp 88, .tmp 90], argTypes := #[54, 22, 3] }, 23, none, false⟩, [⟨some (85, false), .fieldAddr 35 (.tmp 10) 1, 0, none, true⟩, ⟨some (86, false), .load 23 (.tmp 85), 23, none, true⟩]),
  (⟨some (92, false), .call { callee := .builtin .append, args := #[.tmp 86, .tmp 91], argTypes := #[23, 23] }, 23, none, false⟩, []),
  (⟨some (93, false), .fieldAddr 35 (.tmp 10) 1, 0, none, true⟩, []),
  (⟨none, .store 23 (.tmp 93) (.tmp 92), 0, none, false⟩, [])]
theorem maps_one_r22_go {K : Env → Heap → Prop} {τ ρ : Env} {h : Heap} : vcDraw Try.prog K maps_one_r22 τ ρ h = vcDraw Try.prog K [
  (⟨some (85, false), .fieldAddr 35 (.tmp 10) 1, 0, none, true⟩, []),
  (⟨some (86, false), .load 23 (.tmp 85), 23, none, true⟩, []),
  (⟨some (87, false), .move (.tmp 0), 54, none, true⟩, []),
  (⟨some (88, false), .move (.tmp 1), 22, none, true⟩, []),
  (⟨some (89, false), .move (.tmp 9), 3, none, true⟩, []),
  (⟨some (90, false), .binOp .sub 3 (.tmp 89) (.const (.int .i64 251)) 3, 3, none, true⟩, []),
  (⟨some (91, false), .call { callee := .value (.func 66), args := #[.tmp 87, .tmp 88, .tmp 90], argTypes := #[54, 22, 3] }, 23, none, false⟩, [⟨some (85, false), .fieldAddr 35 (.tmp 10) 1, 0, none, true⟩, ⟨some (86, false), .load 23 (.tmp 85), 23, none, true⟩]),
  (⟨some (92, false), .call { callee := .builtin .append, args := #[.tmp 86, .tmp 91], argTypes := #[23, 23] }, 23, none, false⟩, []),
  (⟨some (93, false), .fieldAddr 35 (.tmp 10) 1, 0, none, true⟩, []),
  (⟨none, .store 23 (.tmp 93) (.tmp 92), 0, none, false⟩, [])] τ ρ h := _root_.id rfl
def maps_one_r23 : List Sop := [
  ⟨some (44, false), .move (.tmp 0), 54, none, true⟩,
  ⟨some (45, false), .move (.tmp 1), 22, none, true⟩,
  ⟨some (46, false), .move (.tmp 0), 54, none, true⟩,
  ⟨some (47, false), .call { callee := .value (.func 23), args := #[.tmp 46, .const (.int .i64 2)], argTypes := #[54, 3] }, 3, none, false⟩,
  ⟨some (48, false), .call { callee := .value (.func 66), args := #[.tmp 44, .tmp 45, .tmp 47], argTypes := #[54, 22, 3] }, 23, none, false⟩,
  ⟨some (49, false), .fieldAddr 35 (.tmp 10) 1, 0, none, true⟩,
  ⟨none, .store 23 (.tmp 49) (.tmp 48), 0, none, false⟩]
theorem maps_one_r23_go {K : Env → Heap → Prop} {τ ρ : Env} {h : Heap} : vcOps Try.prog K maps_one_r23 τ ρ h = vcOps Try.prog K [
  ⟨some (44, false), .move (.tmp 0), 54, none, true⟩,
  ⟨some (45, false), .move (.tmp 1), 22, none, true⟩,
  ⟨some (46, false), .move (.tmp 0), 54, none, true⟩,
  ⟨some (47, false), .call { callee := .value (.func 23), args := #[.tmp 46, .const (.int .i64 2)], argTypes := #[54, 3] }, 3, none, false⟩,
  ⟨some (48, false), .call { callee := .value (.func 66), args := #[.tmp 44, .tmp 45, .tmp 47], argTypes := #[54, 22, 3] }, 23, none, false⟩,
  ⟨some (49, false), .fieldAddr 35 (.tmp 10) 1, 0, none, true⟩,
  ⟨none, .store 23 (.tmp 49) (.tmp 48), 0, none, false⟩] τ ρ h := _root_.id rfl
def maps_one_r24 : List Sop := [
  ⟨some (50, false), .move (.tmp 0), 54, none, true⟩,
  ⟨some (51, false), .move (.tmp 1), 22, none, true⟩,
  ⟨some (52, false), .move (.tmp 0), 54, none, true⟩,
  ⟨some (53, false), .call { callee := .value (.func 23), args := #[.tmp 52, .const (.int .i64 2)], argTypes := #[54, 3] }, 3, none, false⟩,
  ⟨some (54, false), .call { callee := .value (.func 66), args := #[.tmp 50, .tmp 51, .tmp 53], argTypes := #[54, 22, 3] }, 23, none, false⟩,
  ⟨some (55, false), .fieldAddr 35 (.tmp 10) 2, 0, none, true⟩,
  ⟨none, .store 23 (.tmp 55) (.tmp 54), 0, none, false⟩]
theorem maps_one_r24_go {K : Env → Heap → Prop} {τ ρ : Env} {h : Heap} : vcOps Try.prog K maps_one_r24 τ ρ h = vcOps Try.prog K [
  ⟨some (50, false), .move (.tmp 0), 54, none, true⟩,
  ⟨some (51, false), .move (.tmp 1), 22, none, true⟩,
  ⟨some (52, false), .move (.tmp 0), 54, none, true⟩,
  ⟨some (53, false), .call { callee := .value (.func 23), args := #[.tmp 52, .const (.int .i64 2)], argTypes := #[54, 3] }, 3, none, false⟩,
  ⟨some (54, false), .call { callee := .value (.func 66), args := #[.tmp 50, .tmp 51, .tmp 53], argTypes := #[54, 22, 3] }, 23, none, false⟩,
  ⟨some (55, false), .fieldAddr 35 (.tmp 10) 2, 0, none, true⟩,
  ⟨none, .store 23 (.tmp 55) (.tmp 54), 0, none, false⟩] τ ρ h := _root_.id rfl
def maps_one_r25 : List Sop := [
  ⟨some (94, false), .load 35 (.tmp 10), 35, none, true⟩,
  ⟨some (95, false), .move (.tmp 11), 3, none, true⟩,
  ⟨none, .store 35 (.tmp 6) (.tmp 94), 0, none, false⟩,
  ⟨some (7, true), .assign (.tmp 95), 3, none, true⟩]
theorem maps_one_r25_go {K : Env → Heap → Prop} {τ ρ : Env} {h : Heap} : vcOps Try.prog K maps_one_r25 τ ρ h = vcOps Try.prog K [
  ⟨some (94, false), .load 35 (.tmp 10), 35, none, true⟩,
  ⟨some (95, false), .move (.tmp 11), 3, none, true⟩,
  ⟨none, .store 35 (.tmp 6) (.tmp 94), 0, none, false⟩,
  ⟨some (7, true), .assign (.tmp 95), 3, none, true⟩] τ ρ h := _root_.id rfl
def maps_one : Cd := .seq (.region maps_one_r0) (.seq (.region maps_one_r1) (.seq (.region maps_one_r2) (.seq (.region maps_one_r3) (.seq (.block 0 (.seq (.region maps_one_r4) (.cond (.tmp 20) (.seq (.region maps_one_r5) (.ret)) (.seq (.region maps_one_r6) (.cond (.tmp 25) (.seq (.region maps_one_r7) (.seq (.region maps_one_r8) (.ret))) (.seq (.region maps_one_r9) (.cond (.tmp 35) (.seq (.region maps_one_r10) (.seq (.region maps_one_r11) (.ret))) (.skip)))))))) (.seq (.region maps_one_r12) (.seq (.block 1 (.seq (.region maps_one_r13) (.cond (.tmp 56) (.region maps_one_r14) (.seq (.region maps_one_r15) (.cond (.tmp 63) (.seq (.region maps_one_r16) (.seq (.seq (.region maps_one_r17) (.cond (.tmp 72) (.seq (.region maps_one_r18) (.seq (.region maps_one_r19) (.ret))) (.skip))) (.region maps_one_r20))) (.seq (.region maps_one_r21) (.cond (.tmp 82) (.draw maps_one_r22) (.seq (.region maps_one_r23) (.region maps_one_r24))))))))) (.seq (.region maps_one_r25) (.ret))))))))
theorem maps_one_go {Q : Ex → Env → Heap → Prop} {ρ : Env} {h : Heap} : Cd.vc Try.prog maps_one Q ρ h = Cd.vc Try.prog (.seq (.region maps_one_r0) (.seq (.region maps_one_r1) (.seq (.region maps_one_r2) (.seq (.region maps_one_r3) (.seq (.block 0 (.seq (.region maps_one_r4) (.cond (.tmp 20) (.seq (.region maps_one_r5) (.ret)) (.seq (.region maps_one_r6) (.cond (.tmp 25) (.seq (.region maps_one_r7) (.seq (.region maps_one_r8) (.ret))) (.seq (.region maps_one_r9) (.cond (.tmp 35) (.seq (.region maps_one_r10) (.seq (.region maps_one_r11) (.ret))) (.skip)))))))) (.seq (.region maps_one_r12) (.seq (.block 1 (.seq (.region maps_one_r13) (.cond (.tmp 56) (.region maps_one_r14) (.seq (.region maps_one_r15) (.cond (.tmp 63) (.seq (.region maps_one_r16) (.seq (.seq (.region maps_one_r17) (.cond (.tmp 72) (.seq (.region maps_one_r18) (.seq (.region maps_one_r19) (.ret))) (.skip))) (.region maps_one_r20))) (.seq (.region maps_one_r21) (.cond (.tmp 82) (.draw maps_one_r22) (.seq (.region maps_one_r23) (.region maps_one_r24))))))))) (.seq (.region maps_one_r25) (.ret))))))))) Q ρ h := _root_.id rfl
theorem maps_one_calls {args : List Value} {h : Heap} {R : Value → Heap → Prop} (hl : args.length = 3) (hv : Cd.vc Try.prog maps_one (retQ Try.prog [(6, some 35), (7, none)] R) (initEnv args [0, 1, 2, 6, 7, 8, 9, 10, 11, 12, 20, 25, 35, 56, 63, 72, 82]) h) : HCalls Try.prog 26 args.toArray h R :=
  hcalls_of_vc (by kernel_rfl) Try.func26 (cd := maps_one) (L := [0, 1, 2, 6, 7, 8, 9, 10, 11, 12, 20, 25, 35, 56, 63, 72, 82]) (by kernel_rfl) (by kernel_rfl) ⟨by rw [hl, Try.ntmps26]; decide, by rw [Try.ntmps26]; decide⟩ hv
def maps_one_gos := And.intro @maps_one_go (And.intro @maps_one_r0_go (And.intro @maps_one_r1_go (And.intro @maps_one_r2_go (And.intro @maps_one_r3_go (And.intro @maps_one_r4_go (And.intro @maps_one_r5_go (And.intro @maps_one_r6_go (And.intro @maps_one_r7_go (And.intro @maps_one_r8_go (And.intro @maps_one_r9_go (And.intro @maps_one_r10_go (And.intro @maps_one_r11_go (And.intro @maps_one_r12_go (And.intro @maps_one_r13_go (And.intro @maps_one_r14_go (And.intro @maps_one_r15_go (And.intro @maps_one_r16_go (And.intro @maps_one_r17_go (And.intro @maps_one_r18_go (And.intro @maps_one_r19_go (And.intro @maps_one_r20_go (And.intro @maps_one_r21_go (And.intro @maps_one_r22_go (And.intro @maps_one_r23_go (And.intro @maps_one_r24_go (@maps_one_r25_go))))))))))))))))))))))))))

/-! jvmcore/maps.Read: function 8: slots [0, 1, 2, 6, 7, 8, 9, 10, 11, 12, 13, 14, 15, 16, 17, 18, 32, 56, 67] -/
def maps_Read_r0 : List Sop := [
  ⟨some (6, true), .assign (.const (.slice none 0 0)), 26, none, true⟩,
  ⟨some (7, true), .assign (.const (.int .i64 0)), 27, none, true⟩,
  ⟨some (8, true), .assign (.const (.int .i64 0)), 3, none, true⟩]
theorem maps_Read_r0_go {K : Env → Heap → Prop} {τ ρ : Env} {h : Heap} : vcOps Try.prog K maps_Read_r0 τ ρ h = vcOps Try.prog K [
  ⟨some (6, true), .assign (.const (.slice none 0 0)), 26, none, true⟩,
  ⟨some (7, true), .assign (.const (.int .i64 0)), 27, none, true⟩,
  ⟨some (8, true), .assign (.const (.int .i64 0)), 3, none, true⟩] τ ρ h := _root_.id rfl
def maps_Read_r1 : List Sop := [
  ⟨some (19, false), .move (.tmp 0), 9, none, true⟩,
  ⟨some (20, false), .call { callee := .value (.func 22), args := #[.tmp 19], argTypes := #[9] }, 54, none, false⟩,
  ⟨some (9, true), .assign (.tmp 20), 54, none, true⟩]
theorem maps_Read_r1_go {K : Env → Heap → Prop} {τ ρ : Env} {h : Heap} : vcOps Try.prog K maps_Read_r1 τ ρ h = vcOps Try.prog K [
  ⟨some (19, false), .move (.tmp 0), 9, none, true⟩,
  ⟨some (20, false), .call { callee := .value (.func 22), args := #[.tmp 19], argTypes := #[9] }, 54, none, false⟩,
  ⟨some (9, true), .assign (.tmp 20), 54, none, true⟩] τ ρ h := _root_.id rfl
def maps_Read_r2 : List Sop := [
  ⟨some (21, false), .move (.tmp 9), 54, none, true⟩,
  ⟨some (22, false), .call { callee := .value (.func 23), args := #[.tmp 21, .const (.int .i64 2)], argTypes := #[54, 3] }, 3, none, false⟩,
  ⟨some (10, true), .assign (.tmp 22), 3, none, true⟩]
theorem maps_Read_r2_go {K : Env → Heap → Prop} {τ ρ : Env} {h : Heap} : vcOps Try.prog K maps_Read_r2 τ ρ h = vcOps Try.prog K [
  ⟨some (21, false), .move (.tmp 9), 54, none, true⟩,
  ⟨some (22, false), .call { callee := .value (.func 23), args := #[.tmp 21, .const (.int .i64 2)], argTypes := #[54, 3] }, 3, none, false⟩,
  ⟨some (10, true), .assign (.tmp 22), 3, none, true⟩] τ ρ h := _root_.id rfl
def maps_Read_r3 : List Sop := [
  ⟨some (23, false), .move (.tmp 2), 23, none, true⟩,
  ⟨some (24, false), .call { callee := .value (.func 24), args := #[.tmp 23], argTypes := #[23] }, 23, none, false⟩,
  ⟨some (11, true), .assign (.tmp 24), 23, none, true⟩]
theorem maps_Read_r3_go {K : Env → Heap → Prop} {τ ρ : Env} {h : Heap} : vcOps Try.prog K maps_Read_r3 τ ρ h = vcOps Try.prog K [
  ⟨some (23, false), .move (.tmp 2), 23, none, true⟩,
  ⟨some (24, false), .call { callee := .value (.func 24), args := #[.tmp 23], argTypes := #[23] }, 23, none, false⟩,
  ⟨some (11, true), .assign (.tmp 24), 23, none, true⟩] τ ρ h := _root_.id rfl
def maps_Read_r4 : List Sop := [
  ⟨some (12, true), .assign (.const (.int .i64 (-1))), 3, none, true⟩]
theorem maps_Read_r4_go {K : Env → Heap → Prop} {τ ρ : Env} {h : Heap} : vcOps Try.prog K maps_Read_r4 τ ρ h = vcOps Try.prog K [
  ⟨some (12, true), .assign (.const (.int .i64 (-1))), 3, none, true⟩] τ ρ h := _root_.id rfl
def maps_Read_r5 : List Sop := [
  ⟨some (13, true), .assign (.const (.slice none 0 0)), 26, none, true⟩]
theorem maps_Read_r5_go {K : Env → Heap → Prop} {τ ρ : Env} {h : Heap} : vcOps Try.prog K maps_Read_r5 τ ρ h = vcOps Try.prog K [
  ⟨some (13, true), .assign (.const (.slice none 0 0)), 26, none, true⟩] τ ρ h := _root_.id rfl
def maps_Read_r6 : List Sop := [
  ⟨some (14, true), .assign (.const (.int .i64 0)), 3, none, true⟩]
theorem maps_Read_r6_go {K : Env → Heap → Prop} {τ ρ : Env} {h : Heap} : vcOps Try.prog K maps_Read_r6 τ ρ h = vcOps Try.prog K [
  ⟨some (14, true), .assign (.const (.int .i64 0)), 3, none, true⟩] τ ρ h := _root_.id rfl
def maps_Read_r7 : List Sop := [
  ⟨some (25, false), .move (.tmp 14), 3, none, true⟩,
  ⟨some (26, false), .move (.tmp 10), 3, none, true⟩,
  ⟨some (27, false), .binOp .lss 3 (.tmp 25) (.tmp 26) 3, 4, none, true⟩,
  ⟨some (28, false), .move (.tmp 27), 4, none, true⟩,
  ⟨some (29, false), .move (.tmp 9), 54, some (28, true), true⟩,
  ⟨some (30, false), .call { callee := .value (.func 25), args := #[.tmp 29], argTypes := #[54] }, 4, some (28, true), false⟩,
  ⟨some (31, false), .unOp .not 4 (.tmp 30), 4, some (28, true), true⟩,
  ⟨some (32, true), .pick (.tmp 28) (.tmp 31) (.const (.bool false)), 4, none, true⟩]
theorem maps_Read_r7_go {K : Env → Heap → Prop} {τ ρ : Env} {h : Heap} : vcOps Try.prog K maps_Read_r7 τ ρ h = vcOps Try.prog K [
  ⟨some (25, false), .move (.tmp 14), 3, none, true⟩,
  ⟨some (26, false), .move (.tmp 10), 3, none, true⟩,
  ⟨some (27, false), .binOp .lss 3 (.tmp 25) (.tmp 26) 3, 4, none, true⟩,
  ⟨some (28, false), .move (.tmp 27), 4, none, true⟩,
  ⟨some (29, false), .move (.tmp 9), 54, some (28, true), true⟩,
  ⟨some (30, false), .call { callee := .value (.func 25), args := #[.tmp 29], argTypes := #[54] }, 4, some (28, true), false⟩,
  ⟨some (31, false), .unOp .not 4 (.tmp 30), 4, some (28, true), true⟩,
  ⟨some (32, true), .pick (.tmp 28) (.tmp 31) (.const (.bool false)), 4, none, true⟩] τ ρ h := _root_.id rfl
def maps_Read_r8 : List Sop := [
  ⟨some (36, false), .move (.tmp 9), 54, none, true⟩,
  ⟨some (37, false), .move (.tmp 1), 22, none, true⟩,
  ⟨some (38, false), .move (.tmp 11), 23, none, true⟩,
  ⟨some (39, false), .call { callee := .value (.func 26), args := #[.tmp 36, .tmp 37, .tmp 38], argTypes := #[54, 22, 23] }, 58, none, false⟩,
  ⟨some (35, false), .move (.tmp 39), 58, none, true⟩,
  ⟨some (40, false), .extract (.tmp 35) 0, 35, none, true⟩,
  ⟨some (41, false), .extract (.tmp 35) 1, 3, none, true⟩,
  ⟨some (15, true), .alloc 35, 0, none, false⟩,
  ⟨none, .store 35 (.tmp 15) (.tmp 40), 0, none, false⟩,
  ⟨some (16, true), .assign (.tmp 41), 3, none, true⟩]
theorem maps_Read_r8_go {K : Env → Heap → Prop} {τ ρ : Env} {h : Heap} : vcOps Try.prog K maps_Read_r8 τ ρ h = vcOps Try.prog K [
  ⟨some (36, false), .move (.tmp 9), 54, none, true⟩,
  ⟨some (37, false), .move (.tmp 1), 22, none, true⟩,
  ⟨some (38, false), .move (.tmp 11), 23, none, true⟩,
  ⟨some (39, false), .call { callee := .value (.func 26), args := #[.tmp 36, .tmp 37, .tmp 38], argTypes := #[54, 22, 23] }, 58, none, false⟩,
  ⟨some (35, false), .move (.tmp 39), 58, none, true⟩,
  ⟨some (40, false), .extract (.tmp 35) 0, 35, none, true⟩,
  ⟨some (41, false), .extract (.tmp 35) 1, 3, none, true⟩,
  ⟨some (15, true), .alloc 35, 0, none, false⟩,
  ⟨none, .store 35 (.tmp 15) (.tmp 40), 0, none, false⟩,
  ⟨some (16, true), .assign (.tmp 41), 3, none, true⟩] τ ρ h := _root_.id rfl
def maps_Read_r9 : List Sop := [
  ⟨some (42, false), .move (.tmp 12), 3, none, true⟩,
  ⟨some (43, false), .move (.tmp 16), 3, none, true⟩,
  ⟨some (44, false), .binOp .add 3 (.tmp 43) (.const (.int .i64 1)) 3, 3, none, true⟩,
  ⟨some (45, false), .binOp .add 3 (.tmp 42) (.tmp 44) 3, 3, none, true⟩,
  ⟨some (12, true), .assign (.tmp 45), 3, none, true⟩]
theorem maps_Read_r9_go {K : Env → Heap → Prop} {τ ρ : Env} {h : Heap} : vcOps Try.prog K maps_Read_r9 τ ρ h = vcOps Try.prog K [
  ⟨some (42, false), .move (.tmp 12), 3, none, true⟩,
  ⟨some (43, false), .move (.tmp 16), 3, none, true⟩,
  ⟨some (44, false), .binOp .add 3 (.tmp 43) (.const (.int .i64 1)) 3, 3, none, true⟩,
  ⟨some (45, false), .binOp .add 3 (.tmp 42) (.tmp 44) 3, 3, none, true⟩,
  ⟨some (12, true), .assign (.tmp 45), 3, none, true⟩] τ ρ h := _root_.id rfl
def maps_Read_r10 : List Sop := [
  ⟨some (46, false), .move (.tmp 12), 3, none, true⟩,
  ⟨some (47, false), .fieldAddr 35 (.tmp 15) 0, 0, none, true⟩,
  ⟨none, .store 3 (.tmp 47) (.tmp 46), 0, none, false⟩]
theorem maps_Read_r10_go {K : Env → Heap → Prop} {τ ρ : Env} {h : Heap} : vcOps Try.prog K maps_Read_r10 τ ρ h = vcOps Try.prog K [
  ⟨some (46, false), .move (.tmp 12), 3, none, true⟩,
  ⟨some (47, false), .fieldAddr 35 (.tmp 15) 0, 0, none, true⟩,
  ⟨none, .store 3 (.tmp 47) (.tmp 46), 0, none, false⟩] τ ρ h := _root_.id rfl
def maps_Read_r11 : List Sop := [
  ⟨some (48, false), .fieldAddr 35 (.tmp 15) 1, 0, none, true⟩,
  ⟨some (49, false), .load 23 (.tmp 48), 23, none, true⟩,
  ⟨some (11, true), .assign (.tmp 49), 23, none, true⟩]
theorem maps_Read_r11_go {K : Env → Heap → Prop} {τ ρ : Env} {h : Heap} : vcOps Try.prog K maps_Read_r11 τ ρ h = vcOps Try.prog K [
  ⟨some (48, false), .fieldAddr 35 (.tmp 15) 1, 0, none, true⟩,
  ⟨some (49, false), .load 23 (.tmp 48), 23, none, true⟩,
  ⟨some (11, true), .assign (.tmp 49), 23, none, true⟩] τ ρ h := _root_.id rfl
def maps_Read_r12 : List Sop := [
  ⟨some (50, false), .move (.tmp 13), 26, none, true⟩,
  ⟨some (51, false), .load 35 (.tmp 15), 35, none, true⟩,
  ⟨some (52, false), .buildSlice 26 1 #[(0, .tmp 51)], 26, none, false⟩,
  ⟨some (53, false), .call { callee := .builtin .append, args := #[.tmp 50, .tmp 52], argTypes := #[26, 26] }, 26, none, false⟩,
  ⟨some (13, true), .assign (.tmp 53), 26, none, true⟩]
theorem maps_Read_r12_go {K : Env → Heap → Prop} {τ ρ : Env} {h : Heap} : vcOps Try.prog K maps_Read_r12 τ ρ h = vcOps Try.prog K [
  ⟨some (50, false), .move (.tmp 13), 26, none, true⟩,
  ⟨some (51, false), .load 35 (.tmp 15), 35, none, true⟩,
  ⟨some (52, false), .buildSlice 26 1 #[(0, .tmp 51)], 26, none, false⟩,
  ⟨some (53, false), .call { callee := .builtin .append, args := #[.tmp 50, .tmp 52], argTypes := #[26, 26] }, 26, none, false⟩,
  ⟨some (13, true), .assign (.tmp 53), 26, none, true⟩] τ ρ h := _root_.id rfl
def maps_Read_r13 : List Sop := [
  ⟨some (33, false), .move (.tmp 14), 3, none, true⟩,
  ⟨some (34, false), .binOp .add 3 (.tmp 33) (.const (.int .i64 1)) 3, 3, none, true⟩,
  ⟨some (14, true), .assign (.tmp 34), 3, none, true⟩]
theorem maps_Read_r13_go {K : Env → Heap → Prop} {τ ρ : Env} {h : Heap} : vcOps Try.prog K maps_Read_r13 τ ρ h = vcOps Try.prog K [
  ⟨some (33, false), .move (.tmp 14), 3, none, true⟩,
  ⟨some (34, false), .binOp .add 3 (.tmp 33) (.const (.int .i64 1)) 3, 3, none, true⟩,
  ⟨some (14, true), .assign (.tmp 34), 3, none, true⟩] τ ρ h := _root_.id rfl
def maps_Read_r14 : List Sop := [
  ⟨some (54, false), .move (.tmp 9), 54, none, true⟩,
  ⟨some (55, false), .call { callee := .value (.func 27), args := #[.tmp 54], argTypes := #[54] }, 3, none, false⟩,
  ⟨some (56, true), .binOp .gtr 3 (.tmp 55) (.const (.int .i64 0)) 3, 4, none, true⟩]
theorem maps_Read_r14_go {K : Env → Heap → Prop} {τ ρ : Env} {h : Heap} : vcOps Try.prog K maps_Read_r14 τ ρ h = vcOps Try.prog K [
  ⟨some (54, false), .move (.tmp 9), 54, none, true⟩,
  ⟨some (55, false), .call { callee := .value (.func 27), args := #[.tmp 54], argTypes := #[54] }, 3, none, false⟩,
  ⟨some (56, true), .binOp .gtr 3 (.tmp 55) (.const (.int .i64 0)) 3, 4, none, true⟩] τ ρ h := _root_.id rfl
def maps_Read_r15 : List Sop := [
  ⟨some (57, false), .move (.tmp 9), 54, none, true⟩,
  ⟨some (58, false), .move (.tmp 9), 54, none, true⟩,
  ⟨some (59, false), .call { callee := .value (.func 29), args := #[.tmp 58], argTypes := #[54] }, 3, none, false⟩,
  ⟨some (60, false), .call { callee := .value (.func 28), args := #[.tmp 57, .const (.int .i64 2), .tmp 59], argTypes := #[54, 27, 3] }, 0, none, false⟩]
theorem maps_Read_r15_go {K : Env → Heap → Prop} {τ ρ : Env} {h : Heap} : vcOps Try.prog K maps_Read_r15 τ ρ h = vcOps Try.prog K [
  ⟨some (57, false), .move (.tmp 9), 54, none, true⟩,
  ⟨some (58, false), .move (.tmp 9), 54, none, true⟩,
  ⟨some (59, false), .call { callee := .value (.func 29), args := #[.tmp 58], argTypes := #[54] }, 3, none, false⟩,
  ⟨some (60, false), .call { callee := .value (.func 28), args := #[.tmp 57, .const (.int .i64 2), .tmp 59], argTypes := #[54, 27, 3] }, 0, none, false⟩] τ ρ h := _root_.id rfl
def maps_Read_r16 : List Sop := [
  ⟨some (62, false), .move (.tmp 9), 54, none, true⟩,
  ⟨some (63, false), .call { callee := .value (.func 30), args := #[.tmp 62], argTypes := #[54] }, 62, none, false⟩,
  ⟨some (61, false), .move (.tmp 63), 62, none, true⟩,
  ⟨some (64, false), .extract (.tmp 61) 0, 27, none, true⟩,
  ⟨some (65, false), .extract (.tmp 61) 1, 3, none, true⟩,
  ⟨some (17, true), .assign (.tmp 64), 27, none, true⟩,
  ⟨some (18, true), .assign (.tmp 65), 3, none, true⟩]
theorem maps_Read_r16_go {K : Env → Heap → Prop} {τ ρ : Env} {h : Heap} : vcOps Try.prog K maps_Read_r16 τ ρ h = vcOps Try.prog K [
  ⟨some (62, false), .move (.tmp 9), 54, none, true⟩,
  ⟨some (63, false), .call { callee := .value (.func 30), args := #[.tmp 62], argTypes := #[54] }, 62, none, false⟩,
  ⟨some (61, false), .move (.tmp 63), 62, none, true⟩,
  ⟨some (64, false), .extract (.tmp 61) 0, 27, none, true⟩,
  ⟨some (65, false), .extract (.tmp 61) 1, 3, none, true⟩,
  ⟨some (17, true), .assign (.tmp 64), 27, none, true⟩,
  ⟨some (18, true), .assign (.tmp 65), 3, none, true⟩] τ ρ h := _root_.id rfl
def maps_Read_r17 : List Sop := [
  ⟨some (66, false), .move (.tmp 17), 27, none, true⟩,
  ⟨some (67, true), .binOp .neq 27 (.tmp 66) (.const (.int .i64 0)) 27, 4, none, true⟩]
theorem maps_Read_r17_go {K : Env → Heap → Prop} {τ ρ : Env} {h : Heap} : vcOps Try.prog K maps_Read_r17 τ ρ h = vcOps Try.prog K [
  ⟨some (66, false), .move (.tmp 17), 27, none, true⟩,
  ⟨some (67, true), .binOp .neq 27 (.tmp 66) (.const (.int .i64 0)) 27, 4, none, true⟩] τ ρ h := _root_.id rfl
def maps_Read_r18 : List Sop := [
  ⟨some (68, false), .move (.tmp 17), 27, none, true⟩,
  ⟨some (69, false), .move (.tmp 18), 3, none, true⟩,
  ⟨some (6, true), .assign (.const (.slice none 0 0)), 26, none, true⟩,
  ⟨some (7, true), .assign (.tmp 68), 27, none, true⟩,
  ⟨some (8, true), .assign (.tmp 69), 3, none, true⟩]
theorem maps_Read_r18_go {K : Env → Heap → Prop} {τ ρ : Env} {h : Heap} : vcOps Try.prog K maps_Read_r18 τ ρ h = vcOps Try.prog K [
  ⟨some (68, false), .move (.tmp 17), 27, none, true⟩,
  ⟨some (69, false), .move (.tmp 18), 3, none, true⟩,
  ⟨some (6, true), .assign (.const (.slice none 0 0)), 26, none, true⟩,
  ⟨some (7, true), .assign (.tmp 68), 27, none, true⟩,
  ⟨some (8, true), .assign (.tmp 69), 3, none, true⟩] τ ρ h := _root_.id rfl
def maps_Read_r19 : List Sop := [
  ⟨some (70, false), .move (.tmp 13), 26, none, true⟩,
  ⟨some (6, true), .assign (.tmp 70), 26, none, true⟩,
  ⟨some (7, true), .assign (.const (.int .i64 0)), 27, none, true⟩,
  ⟨some (8, true), .assign (.const (.int .i64 0)), 3, none, true⟩]
theorem maps_Read_r19_go {K : Env → Heap → Prop} {τ ρ : Env} {h : Heap} : vcOps Try.prog K maps_Read_r19 τ ρ h = vcOps Try.prog K [
  ⟨some (70, false), .move (.tmp 13), 26, none, true⟩,
  ⟨some (6, true), .assign (.tmp 70), 26, none, true⟩,
  ⟨some (7, true), .assign (.const (.int .i64 0)), 27, none, true⟩,
  ⟨some (8, true), .assign (.const (.int .i64 0)), 3, none, true⟩] τ ρ h := _root_.id rfl
def maps_Read_l0 : Cd := .seq (.seq (.region maps_Read_r7) (.cond (.tmp 32) (.skip) (.exit 0))) (.seq (.block 1 (.seq (.region maps_Read_r8) (.seq (.region maps_Read_r9) (.seq (.region maps_Read_r10) (.seq (.region maps_Read_r11) (.region maps_Read_r12)))))) (.region maps_Read_r13))
theorem maps_Read_l0_go {Q : Ex → Env → Heap → Prop} {ρ : Env} {h : Heap} : Cd.vc Try.prog maps_Read_l0 Q ρ h = Cd.vc Try.prog (.seq (.seq (.region maps_Read_r7) (.cond (.tmp 32) (.skip) (.exit 0))) (.seq (.block 1 (.seq (.region maps_Read_r8) (.seq (.region maps_Read_r9) (.seq (.region maps_Read_r10) (.seq (.region maps_Read_r11) (.region maps_Read_r12)))))) (.region maps_Read_r13))) Q ρ h := _root_.id rfl
def maps_Read : Cd := .seq (.region maps_Read_r0) (.seq (.region maps_Read_r1) (.seq (.region maps_Read_r2) (.seq (.region maps_Read_r3) (.seq (.region maps_Read_r4) (.seq (.region maps_Read_r5) (.seq (.seq (.region maps_Read_r6) (.block 0 (.loop maps_Read_l0))) (.seq (.seq (.region maps_Read_r14) (.cond (.tmp 56) (.region maps_Read_r15) (.skip))) (.seq (.seq (.region maps_Read_r16) (.seq (.region maps_Read_r17) (.cond (.tmp 67) (.seq (.region maps_Read_r18) (.ret)) (.skip)))) (.seq (.region maps_Read_r19) (.ret))))))))))
theorem maps_Read_go {Q : Ex → Env → Heap → Prop} {ρ : Env} {h : Heap} : Cd.vc Try.prog maps_Read Q ρ h = Cd.vc Try.prog (.seq (.region maps_Read_r0) (.seq (.region maps_Read_r1) (.seq (.region maps_Read_r2) (.seq (.region maps_Read_r3) (.seq (.region maps_Read_r4) (.seq (.region maps_Read_r5) (.seq (.seq (.region maps_Read_r6) (.block 0 (.loop maps_Read_l0))) (.seq (.seq (.region maps_Read_r14) (.cond (.tmp 56) (.region maps_Read_r15) (.skip))) (.seq (.seq (.region maps_Read_r16) (.seq (.region maps_Read_r17) (.cond (.tmp 67) (.seq (.region maps_Read_r18) (.ret)) (.skip)))) (.seq (.region maps_Read_r19) (.ret))))))))))) Q ρ h := _root_.id rfl
theorem maps_Read_calls {args : List Value} {h : Heap} {R : Value → Heap → Prop} (hl : args.length = 3) (hv : Cd.vc Try.prog maps_Read (retQ Try.prog [(6, none), (7, none), (8, none)] R) (initEnv args [0, 1, 2, 6, 7, 8, 9, 10, 11, 12, 13, 14, 15, 16, 17, 18, 32, 56, 67]) h) : HCalls Try.prog 8 args.toArray h R :=
  hcalls_of_vc (by kernel_rfl) Try.func8 (cd := maps_Read) (L := [0, 1, 2, 6, 7, 8, 9, 10, 11, 12, 13, 14, 15, 16, 17, 18, 32, 56, 67]) (by kernel_rfl) (by kernel_rfl) ⟨by rw [hl, Try.ntmps8]; decide, by rw [Try.ntmps8]; decide⟩ hv
def maps_Read_gos := And.intro @maps_Read_go (And.intro @maps_Read_r0_go (And.intro @maps_Read_r1_go (And.intro @maps_Read_r2_go (And.intro @maps_Read_r3_go (And.intro @maps_Read_r4_go (And.intro @maps_Read_r5_go (And.intro @maps_Read_r6_go (And.intro @maps_Read_r7_go (And.intro @maps_Read_r8_go (And.intro @maps_Read_r9_go (And.intro @maps_Read_r10_go (And.intro @maps_Read_r11_go (And.intro @maps_Read_r12_go (And.intro @maps_Read_r13_go (And.intro @maps_Read_r14_go (And.intro @maps_Read_r15_go (And.intro @maps_Read_r16_go (And.intro @maps_Read_r17_go (And.intro @maps_Read_r18_go (And.intro @maps_Read_r19_go (@maps_Read_l0_go)))))))))))))))))))))

/-! slices.Clone[[]jvmcore/api.VType,jvmcore/api.VType]: function 24: slots [0, 2, 4] -/
def slices_Clone_r0 : List Sop := [
  ⟨some (2, true), .assign (.const (.slice none 0 0)), 23, none, true⟩]
theorem slices_Clone_r0_go {K : Env → Heap → Prop} {τ ρ : Env} {h : Heap} : vcOps Try.prog K slices_Clone_r0 τ ρ h = vcOps Try.prog K [
  ⟨some (2, true), .assign (.const (.slice none 0 0)), 23, none, true⟩] τ ρ h := _root_.id rfl
def slices_Clone_r1 : List Sop := [
  ⟨some (3, false), .move (.tmp 0), 23, none, true⟩,
  ⟨some (4, true), .binOp .eql 23 (.tmp 3) (.const (.slice none 0 0)) 23, 4, none, true⟩]
theorem slices_Clone_r1_go {K : Env → Heap → Prop} {τ ρ : Env} {h : Heap} : vcOps Try.prog K slices_Clone_r1 τ ρ h = vcOps Try.prog K [
  ⟨some (3, false), .move (.tmp 0), 23, none, true⟩,
  ⟨some (4, true), .binOp .eql 23 (.tmp 3) (.const (.slice none 0 0)) 23, 4, none, true⟩] τ ρ h := _root_.id rfl
def slices_Clone_r2 : List Sop := [
  ⟨some (2, true), .assign (.const (.slice none 0 0)), 23, none, true⟩]
theorem slices_Clone_r2_go {K : Env → Heap → Prop} {τ ρ : Env} {h : Heap} : vcOps Try.prog K slices_Clone_r2 τ ρ h = vcOps Try.prog K [
  ⟨some (2, true), .assign (.const (.slice none 0 0)), 23, none, true⟩] τ ρ h := _root_.id rfl
def slices_Clone_r3 : List Sop := [
  ⟨some (5, false), .buildSlice 23 0 #[], 23, none, false⟩,
  ⟨some (6, false), .move (.tmp 0), 23, none, true⟩,
  ⟨some (7, false), .call { callee := .builtin .append, args := #[.tmp 5, .tmp 6], argTypes := #[23, 23] }, 23, none, false⟩,
  ⟨some (2, true), .assign (.tmp 7), 23, none, true⟩]
theorem slices_Clone_r3_go {K : Env → Heap → Prop} {τ ρ : Env} {h : Heap} : vcOps Try.prog K slices_Clone_r3 τ ρ h = vcOps Try.prog K [
  ⟨some (5, false), .buildSlice 23 0 #[], 23, none, false⟩,
  ⟨some (6, false), .move (.tmp 0), 23, none, true⟩,
  ⟨some (7, false), .call { callee := .builtin .append, args := #[.tmp 5, .tmp 6], argTypes := #[23, 23] }, 23, none, false⟩,
  ⟨some (2, true), .assign (.tmp 7), 23, none, true⟩] τ ρ h := _root_.id rfl
def slices_Clone : Cd := .seq (.region slices_Clone_r0) (.seq (.seq (.region slices_Clone_r1) (.cond (.tmp 4) (.seq (.region slices_Clone_r2) (.ret)) (.skip))) (.seq (.region slices_Clone_r3) (.ret)))
theorem slices_Clone_go {Q : Ex → Env → Heap → Prop} {ρ : Env} {h : Heap} : Cd.vc Try.prog slices_Clone Q ρ h = Cd.vc Try.prog (.seq (.region slices_Clone_r0) (.seq (.seq (.region slices_Clone_r1) (.cond (.tmp 4) (.seq (.region slices_Clone_r2) (.ret)) (.skip))) (.seq (.region slices_Clone_r3) (.ret)))) Q ρ h := _root_.id rfl
theorem slices_Clone_calls {args : List Value} {h : Heap} {R : Value → Heap → Prop} (hl : args.length = 1) (hv : Cd.vc Try.prog slices_Clone (retQ Try.prog [(2, none)] R) (initEnv args [0, 2, 4]) h) : HCalls Try.prog 24 args.toArray h R :=
  hcalls_of_vc (by kernel_rfl) Try.func24 (cd := slices_Clone) (L := [0, 2, 4]) (by kernel_rfl) (by kernel_rfl) ⟨by rw [hl, Try.ntmps24]; decide, by rw [Try.ntmps24]; decide⟩ hv
def slices_Clone_gos := And.intro @slices_Clone_go (And.intro @slices_Clone_r0_go (And.intro @slices_Clone_r1_go (And.intro @slices_Clone_r2_go (@slices_Clone_r3_go))))

end Go.Proofs.Ytohkbpnblkkdgaa.C
