/- The stripped code of some functions of this seat's program, printed by a program; that it is that code is proved by the kernel. No condition. -/

import Derived.Test.YthhfbnkmhgadaaaProg

import Derived.Test.YthhfbnkmhgadaaaVcH

set_option maxRecDepth 100000

set_option linter.defProp false

namespace Go.Proofs.Ythhfbnkmhgadaaa.C

open Go.Vc

/-! jvmcore/jvmcorelaw3.weight: function 6: slots [0, 2, 3, 5, 8, 9, 10, 11] -/
def law3_weight_r0 : List Sop := [
  ⟨some (2, true), .assign (.const (.int .i64 0)), 3, none, true⟩]
theorem law3_weight_r0_go {K : Env → Heap → Prop} {τ ρ : Env} {h : Heap} : vcOps Try.prog K law3_weight_r0 τ ρ h = vcOps Try.prog K [
  ⟨some (2, true), .assign (.const (.int .i64 0)), 3, none, true⟩] τ ρ h := _root_.id rfl
def law3_weight_r1 : List Sop := [
  ⟨some (6, false), .move (.tmp 0), 22, none, true⟩,
  ⟨some (7, false), .call { callee := .builtin .len, args := #[.tmp 6], argTypes := #[22] }, 3, none, true⟩,
  ⟨some (3, true), .assign (.tmp 7), 3, none, true⟩]
theorem law3_weight_r1_go {K : Env → Heap → Prop} {τ ρ : Env} {h : Heap} : vcOps Try.prog K law3_weight_r1 τ ρ h = vcOps Try.prog K [
  ⟨some (6, false), .move (.tmp 0), 22, none, true⟩,
  ⟨some (7, false), .call { callee := .builtin .len, args := #[.tmp 6], argTypes := #[22] }, 3, none, true⟩,
  ⟨some (3, true), .assign (.tmp 7), 3, none, true⟩] τ ρ h := _root_.id rfl
def law3_weight_r2 : List Sop := [
  ⟨some (8, true), .move (.tmp 0), 22, none, true⟩,
  ⟨some (9, true), .call { callee := .builtin .len, args := #[.tmp 8], argTypes := #[22] }, 3, none, true⟩,
  ⟨some (10, true), .move (.const (.int .i64 0)), 3, none, true⟩]
theorem law3_weight_r2_go {K : Env → Heap → Prop} {τ ρ : Env} {h : Heap} : vcOps Try.prog K law3_weight_r2 τ ρ h = vcOps Try.prog K [
  ⟨some (8, true), .move (.tmp 0), 22, none, true⟩,
  ⟨some (9, true), .call { callee := .builtin .len, args := #[.tmp 8], argTypes := #[22] }, 3, none, true⟩,
  ⟨some (10, true), .move (.const (.int .i64 0)), 3, none, true⟩] τ ρ h := _root_.id rfl
def law3_weight_r3 : List Sop := [
  ⟨some (11, true), .binOp .lss 3 (.tmp 10) (.tmp 9) 3, 0, none, true⟩]
theorem law3_weight_r3_go {K : Env → Heap → Prop} {τ ρ : Env} {h : Heap} : vcOps Try.prog K law3_weight_r3 τ ρ h = vcOps Try.prog K [
  ⟨some (11, true), .binOp .lss 3 (.tmp 10) (.tmp 9) 3, 0, none, true⟩] τ ρ h := _root_.id rfl
def law3_weight_r4 : List Sop := [
  ⟨some (12, false), .indexAddr 22 (.tmp 8) (.tmp 10), 0, none, true⟩,
  ⟨some (13, false), .load 41 (.tmp 12), 41, none, true⟩,
  ⟨some (5, true), .alloc 41, 0, none, false⟩,
  ⟨none, .store 41 (.tmp 5) (.tmp 13), 0, none, false⟩]
theorem law3_weight_r4_go {K : Env → Heap → Prop} {τ ρ : Env} {h : Heap} : vcOps Try.prog K law3_weight_r4 τ ρ h = vcOps Try.prog K [
  ⟨some (12, false), .indexAddr 22 (.tmp 8) (.tmp 10), 0, none, true⟩,
  ⟨some (13, false), .load 41 (.tmp 12), 41, none, true⟩,
  ⟨some (5, true), .alloc 41, 0, none, false⟩,
  ⟨none, .store 41 (.tmp 5) (.tmp 13), 0, none, false⟩] τ ρ h := _root_.id rfl
def law3_weight_r5 : List Sop := [
  ⟨some (14, false), .move (.tmp 3), 3, none, true⟩,
  ⟨some (15, false), .fieldAddr 41 (.tmp 5) 1, 0, none, true⟩,
  ⟨some (16, false), .load 24 (.tmp 15), 24, none, true⟩,
  ⟨some (17, false), .call { callee := .builtin .len, args := #[.tmp 16], argTypes := #[24] }, 3, none, true⟩,
  ⟨some (18, false), .fieldAddr 41 (.tmp 5) 2, 0, none, true⟩,
  ⟨some (19, false), .load 24 (.tmp 18), 24, none, true⟩,
  ⟨some (20, false), .call { callee := .builtin .len, args := #[.tmp 19], argTypes := #[24] }, 3, none, true⟩,
  ⟨some (21, false), .binOp .add 3 (.tmp 17) (.tmp 20) 3, 3, none, true⟩,
  ⟨some (22, false), .binOp .add 3 (.tmp 14) (.tmp 21) 3, 3, none, true⟩,
  ⟨some (3, true), .assign (.tmp 22), 3, none, true⟩]
theorem law3_weight_r5_go {K : Env → Heap → Prop} {τ ρ : Env} {h : Heap} : vcOps Try.prog K law3_weight_r5 τ ρ h = vcOps Try.prog K [
  ⟨some (14, false), .move (.tmp 3), 3, none, true⟩,
  ⟨some (15, false), .fieldAddr 41 (.tmp 5) 1, 0, none, true⟩,
  ⟨some (16, false), .load 24 (.tmp 15), 24, none, true⟩,
  ⟨some (17, false), .call { callee := .builtin .len, args := #[.tmp 16], argTypes := #[24] }, 3, none, true⟩,
  ⟨some (18, false), .fieldAddr 41 (.tmp 5) 2, 0, none, true⟩,
  ⟨some (19, false), .load 24 (.tmp 18), 24, none, true⟩,
  ⟨some (20, false), .call { callee := .builtin .len, args := #[.tmp 19], argTypes := #[24] }, 3, none, true⟩,
  ⟨some (21, false), .binOp .add 3 (.tmp 17) (.tmp 20) 3, 3, none, true⟩,
  ⟨some (22, false), .binOp .add 3 (.tmp 14) (.tmp 21) 3, 3, none, true⟩,
  ⟨some (3, true), .assign (.tmp 22), 3, none, true⟩] τ ρ h := _root_.id rfl
def law3_weight_r6 : List Sop := [
  ⟨some (23, false), .binOp .add 3 (.tmp 10) (.const (.int .i64 1)) 3, 3, none, true⟩,
  ⟨some (10, true), .move (.tmp 23), 3, none, true⟩]
theorem law3_weight_r6_go {K : Env → Heap → Prop} {τ ρ : Env} {h : Heap} : vcOps Try.prog K law3_weight_r6 τ ρ h = vcOps Try.prog K [
  ⟨some (23, false), .binOp .add 3 (.tmp 10) (.const (.int .i64 1)) 3, 3, none, true⟩,
  ⟨some (10, true), .move (.tmp 23), 3, none, true⟩] τ ρ h := _root_.id rfl
def law3_weight_r7 : List Sop := [
  ⟨some (24, false), .move (.tmp 3), 3, none, true⟩,
  ⟨some (2, true), .assign (.tmp 24), 3, none, true⟩]
theorem law3_weight_r7_go {K : Env → Heap → Prop} {τ ρ : Env} {h : Heap} : vcOps Try.prog K law3_weight_r7 τ ρ h = vcOps Try.prog K [
  ⟨some (24, false), .move (.tmp 3), 3, none, true⟩,
  ⟨some (2, true), .assign (.tmp 24), 3, none, true⟩] τ ρ h := _root_.id rfl
def law3_weight_l0 : Cd := .seq (.region law3_weight_r3) (.seq (.cond (.tmp 11) (.skip) (.exit 0)) (.seq (.block 1 (.seq (.region law3_weight_r4) (.region law3_weight_r5))) (.region law3_weight_r6)))
theorem law3_weight_l0_go {Q : Ex → Env → Heap → Prop} {ρ : Env} {h : Heap} : Cd.vc Try.prog law3_weight_l0 Q ρ h = Cd.vc Try.prog (.seq (.region law3_weight_r3) (.seq (.cond (.tmp 11) (.skip) (.exit 0)) (.seq (.block 1 (.seq (.region law3_weight_r4) (.region law3_weight_r5))) (.region law3_weight_r6)))) Q ρ h := _root_.id rfl
def law3_weight : Cd := .seq (.region law3_weight_r0) (.seq (.region law3_weight_r1) (.seq (.seq (.region law3_weight_r2) (.block 0 (.loop law3_weight_l0))) (.seq (.region law3_weight_r7) (.ret))))
theorem law3_weight_go {Q : Ex → Env → Heap → Prop} {ρ : Env} {h : Heap} : Cd.vc Try.prog law3_weight Q ρ h = Cd.vc Try.prog (.seq (.region law3_weight_r0) (.seq (.region law3_weight_r1) (.seq (.seq (.region law3_weight_r2) (.block 0 (.loop law3_weight_l0))) (.seq (.region law3_weight_r7) (.ret))))) Q ρ h := _root_.id rfl
theorem law3_weight_calls {args : List Value} {h : Heap} {R : Value → Heap → Prop} (hl : args.length = 1) (hv : Cd.vc Try.prog law3_weight (retQ Try.prog [(2, none)] R) (initEnv args [0, 2, 3, 5, 8, 9, 10, 11]) h) : HCalls Try.prog 6 args.toArray h R :=
  hcalls_of_vc (by kernel_rfl) Try.func6 (cd := law3_weight) (L := [0, 2, 3, 5, 8, 9, 10, 11]) (by kernel_rfl) (by kernel_rfl) ⟨by rw [hl, Try.ntmps6]; decide, by rw [Try.ntmps6]; decide⟩ hv
def law3_weight_gos := And.intro @law3_weight_go (And.intro @law3_weight_r0_go (And.intro @law3_weight_r1_go (And.intro @law3_weight_r2_go (And.intro @law3_weight_r3_go (And.intro @law3_weight_r4_go (And.intro @law3_weight_r5_go (And.intro @law3_weight_r6_go (And.intro @law3_weight_r7_go (@law3_weight_l0_go)))))))))

/-! jvmcore/jvmcorelaw3.twin: function 7: slots [0, 2, 3, 5, 6, 7, 8, 9] -/
def law3_twin_r0 : List Sop := [
  ⟨some (2, true), .assign (.const (.slice none 0 0)), 22, none, true⟩]
theorem law3_twin_r0_go {K : Env → Heap → Prop} {τ ρ : Env} {h : Heap} : vcOps Try.prog K law3_twin_r0 τ ρ h = vcOps Try.prog K [
  ⟨some (2, true), .assign (.const (.slice none 0 0)), 22, none, true⟩] τ ρ h := _root_.id rfl
def law3_twin_r1 : List Sop := [
  ⟨some (3, true), .assign (.const (.slice none 0 0)), 22, none, true⟩]
theorem law3_twin_r1_go {K : Env → Heap → Prop} {τ ρ : Env} {h : Heap} : vcOps Try.prog K law3_twin_r1 τ ρ h = vcOps Try.prog K [
  ⟨some (3, true), .assign (.const (.slice none 0 0)), 22, none, true⟩] τ ρ h := _root_.id rfl
def law3_twin_r2 : List Sop := [
  ⟨some (6, true), .move (.tmp 0), 22, none, true⟩,
  ⟨some (7, true), .call { callee := .builtin .len, args := #[.tmp 6], argTypes := #[22] }, 3, none, true⟩,
  ⟨some (8, true), .move (.const (.int .i64 0)), 3, none, true⟩]
theorem law3_twin_r2_go {K : Env → Heap → Prop} {τ ρ : Env} {h : Heap} : vcOps Try.prog K law3_twin_r2 τ ρ h = vcOps Try.prog K [
  ⟨some (6, true), .move (.tmp 0), 22, none, true⟩,
  ⟨some (7, true), .call { callee := .builtin .len, args := #[.tmp 6], argTypes := #[22] }, 3, none, true⟩,
  ⟨some (8, true), .move (.const (.int .i64 0)), 3, none, true⟩] τ ρ h := _root_.id rfl
def law3_twin_r3 : List Sop := [
  ⟨some (9, true), .binOp .lss 3 (.tmp 8) (.tmp 7) 3, 0, none, true⟩]
theorem law3_twin_r3_go {K : Env → Heap → Prop} {τ ρ : Env} {h : Heap} : vcOps Try.prog K law3_twin_r3 τ ρ h = vcOps Try.prog K [
  ⟨some (9, true), .binOp .lss 3 (.tmp 8) (.tmp 7) 3, 0, none, true⟩] τ ρ h := _root_.id rfl
def law3_twin_r4 : List Sop := [
  ⟨some (10, false), .indexAddr 22 (.tmp 6) (.tmp 8), 0, none, true⟩,
  ⟨some (11, false), .load 41 (.tmp 10), 41, none, true⟩,
  ⟨some (5, true), .alloc 41, 0, none, false⟩,
  ⟨none, .store 41 (.tmp 5) (.tmp 11), 0, none, false⟩]
theorem law3_twin_r4_go {K : Env → Heap → Prop} {τ ρ : Env} {h : Heap} : vcOps Try.prog K law3_twin_r4 τ ρ h = vcOps Try.prog K [
  ⟨some (10, false), .indexAddr 22 (.tmp 6) (.tmp 8), 0, none, true⟩,
  ⟨some (11, false), .load 41 (.tmp 10), 41, none, true⟩,
  ⟨some (5, true), .alloc 41, 0, none, false⟩,
  ⟨none, .store 41 (.tmp 5) (.tmp 11), 0, none, false⟩] τ ρ h := _root_.id rfl
def law3_twin_r5 : List Sop := [
  ⟨some (12, false), .fieldAddr 41 (.tmp 5) 1, 0, none, true⟩,
  ⟨some (13, false), .load 24 (.tmp 12), 24, none, true⟩,
  ⟨some (14, false), .call { callee := .builtin .append, args := #[.const (.slice none 0 0), .tmp 13], argTypes := #[24, 24] }, 24, none, false⟩,
  ⟨some (15, false), .fieldAddr 41 (.tmp 5) 1, 0, none, true⟩,
  ⟨none, .store 24 (.tmp 15) (.tmp 14), 0, none, false⟩]
theorem law3_twin_r5_go {K : Env → Heap → Prop} {τ ρ : Env} {h : Heap} : vcOps Try.prog K law3_twin_r5 τ ρ h = vcOps Try.prog K [
  ⟨some (12, false), .fieldAddr 41 (.tmp 5) 1, 0, none, true⟩,
  ⟨some (13, false), .load 24 (.tmp 12), 24, none, true⟩,
  ⟨some (14, false), .call { callee := .builtin .append, args := #[.const (.slice none 0 0), .tmp 13], argTypes := #[24, 24] }, 24, none, false⟩,
  ⟨some (15, false), .fieldAddr 41 (.tmp 5) 1, 0, none, true⟩,
  ⟨none, .store 24 (.tmp 15) (.tmp 14), 0, none, false⟩] τ ρ h := _root_.id rfl
def law3_twin_r6 : List Sop := [
  ⟨some (16, false), .fieldAddr 41 (.tmp 5) 2, 0, none, true⟩,
  ⟨some (17, false), .load 24 (.tmp 16), 24, none, true⟩,
  ⟨some (18, false), .call { callee := .builtin .append, args := #[.const (.slice none 0 0), .tmp 17], argTypes := #[24, 24] }, 24, none, false⟩,
  ⟨some (19, false), .fieldAddr 41 (.tmp 5) 2, 0, none, true⟩,
  ⟨none, .store 24 (.tmp 19) (.tmp 18), 0, none, false⟩]
theorem law3_twin_r6_go {K : Env → Heap → Prop} {τ ρ : Env} {h : Heap} : vcOps Try.prog K law3_twin_r6 τ ρ h = vcOps Try.prog K [
  ⟨some (16, false), .fieldAddr 41 (.tmp 5) 2, 0, none, true⟩,
  ⟨some (17, false), .load 24 (.tmp 16), 24, none, true⟩,
  ⟨some (18, false), .call { callee := .builtin .append, args := #[.const (.slice none 0 0), .tmp 17], argTypes := #[24, 24] }, 24, none, false⟩,
  ⟨some (19, false), .fieldAddr 41 (.tmp 5) 2, 0, none, true⟩,
  ⟨none, .store 24 (.tmp 19) (.tmp 18), 0, none, false⟩] τ ρ h := _root_.id rfl
def law3_twin_r7 : List Sop := [
  ⟨some (20, false), .move (.tmp 3), 22, none, true⟩,
  ⟨some (21, false), .load 41 (.tmp 5), 41, none, true⟩,
  ⟨some (22, false), .buildSlice 22 1 #[(0, .tmp 21)], 22, none, false⟩,
  ⟨some (23, false), .call { callee := .builtin .append, args := #[.tmp 20, .tmp 22], argTypes := #[22, 22] }, 22, none, false⟩,
  ⟨some (3, true), .assign (.tmp 23), 22, none, true⟩]
theorem law3_twin_r7_go {K : Env → Heap → Prop} {τ ρ : Env} {h : Heap} : vcOps Try.prog K law3_twin_r7 τ ρ h = vcOps Try.prog K [
  ⟨some (20, false), .move (.tmp 3), 22, none, true⟩,
  ⟨some (21, false), .load 41 (.tmp 5), 41, none, true⟩,
  ⟨some (22, false), .buildSlice 22 1 #[(0, .tmp 21)], 22, none, false⟩,
  ⟨some (23, false), .call { callee := .builtin .append, args := #[.tmp 20, .tmp 22], argTypes := #[22, 22] }, 22, none, false⟩,
  ⟨some (3, true), .assign (.tmp 23), 22, none, true⟩] τ ρ h := _root_.id rfl
def law3_twin_r8 : List Sop := [
  ⟨some (24, false), .binOp .add 3 (.tmp 8) (.const (.int .i64 1)) 3, 3, none, true⟩,
  ⟨some (8, true), .move (.tmp 24), 3, none, true⟩]
theorem law3_twin_r8_go {K : Env → Heap → Prop} {τ ρ : Env} {h : Heap} : vcOps Try.prog K law3_twin_r8 τ ρ h = vcOps Try.prog K [
  ⟨some (24, false), .binOp .add 3 (.tmp 8) (.const (.int .i64 1)) 3, 3, none, true⟩,
  ⟨some (8, true), .move (.tmp 24), 3, none, true⟩] τ ρ h := _root_.id rfl
def law3_twin_r9 : List Sop := [
  ⟨some (25, false), .move (.tmp 3), 22, none, true⟩,
  ⟨some (2, true), .assign (.tmp 25), 22, none, true⟩]
theorem law3_twin_r9_go {K : Env → Heap → Prop} {τ ρ : Env} {h : Heap} : vcOps Try.prog K law3_twin_r9 τ ρ h = vcOps Try.prog K [
  ⟨some (25, false), .move (.tmp 3), 22, none, true⟩,
  ⟨some (2, true), .assign (.tmp 25), 22, none, true⟩] τ ρ h := _root_.id rfl
def law3_twin_l0 : Cd := .seq (.region law3_twin_r3) (.seq (.cond (.tmp 9) (.skip) (.exit 0)) (.seq (.block 1 (.seq (.region law3_twin_r4) (.seq (.region law3_twin_r5) (.seq (.region law3_twin_r6) (.region law3_twin_r7))))) (.region law3_twin_r8)))
theorem law3_twin_l0_go {Q : Ex → Env → Heap → Prop} {ρ : Env} {h : Heap} : Cd.vc Try.prog law3_twin_l0 Q ρ h = Cd.vc Try.prog (.seq (.region law3_twin_r3) (.seq (.cond (.tmp 9) (.skip) (.exit 0)) (.seq (.block 1 (.seq (.region law3_twin_r4) (.seq (.region law3_twin_r5) (.seq (.region law3_twin_r6) (.region law3_twin_r7))))) (.region law3_twin_r8)))) Q ρ h := _root_.id rfl
def law3_twin : Cd := .seq (.region law3_twin_r0) (.seq (.region law3_twin_r1) (.seq (.seq (.region law3_twin_r2) (.block 0 (.loop law3_twin_l0))) (.seq (.region law3_twin_r9) (.ret))))
theorem law3_twin_go {Q : Ex → Env → Heap → Prop} {ρ : Env} {h : Heap} : Cd.vc Try.prog law3_twin Q ρ h = Cd.vc Try.prog (.seq (.region law3_twin_r0) (.seq (.region law3_twin_r1) (.seq (.seq (.region law3_twin_r2) (.block 0 (.loop law3_twin_l0))) (.seq (.region law3_twin_r9) (.ret))))) Q ρ h := _root_.id rfl
theorem law3_twin_calls {args : List Value} {h : Heap} {R : Value → Heap → Prop} (hl : args.length = 1) (hv : Cd.vc Try.prog law3_twin (retQ Try.prog [(2, none)] R) (initEnv args [0, 2, 3, 5, 6, 7, 8, 9]) h) : HCalls Try.prog 7 args.toArray h R :=
  hcalls_of_vc (by kernel_rfl) Try.func7 (cd := law3_twin) (L := [0, 2, 3, 5, 6, 7, 8, 9]) (by kernel_rfl) (by kernel_rfl) ⟨by rw [hl, Try.ntmps7]; decide, by rw [Try.ntmps7]; decide⟩ hv
def law3_twin_gos := And.intro @law3_twin_go (And.intro @law3_twin_r0_go (And.intro @law3_twin_r1_go (And.intro @law3_twin_r2_go (And.intro @law3_twin_r3_go (And.intro @law3_twin_r4_go (And.intro @law3_twin_r5_go (And.intro @law3_twin_r6_go (And.intro @law3_twin_r7_go (And.intro @law3_twin_r8_go (And.intro @law3_twin_r9_go (@law3_twin_l0_go)))))))))))

/-! jvmcore/jvmcorelaw3.sameFrames: function 10: slots [0, 1, 4, 5, 10, 12, 13, 14, 54] -/
def law3_sameFrames_r0 : List Sop := [
  ⟨some (4, true), .assign (.const (.bool false)), 4, none, true⟩]
theorem law3_sameFrames_r0_go {K : Env → Heap → Prop} {τ ρ : Env} {h : Heap} : vcOps Try.prog K law3_sameFrames_r0 τ ρ h = vcOps Try.prog K [
  ⟨some (4, true), .assign (.const (.bool false)), 4, none, true⟩] τ ρ h := _root_.id rfl
def law3_sameFrames_r1 : List Sop := [
  ⟨some (6, false), .move (.tmp 0), 22, none, true⟩,
  ⟨some (7, false), .call { callee := .builtin .len, args := #[.tmp 6], argTypes := #[22] }, 3, none, true⟩,
  ⟨some (8, false), .move (.tmp 1), 22, none, true⟩,
  ⟨some (9, false), .call { callee := .builtin .len, args := #[.tmp 8], argTypes := #[22] }, 3, none, true⟩,
  ⟨some (10, true), .binOp .neq 3 (.tmp 7) (.tmp 9) 3, 4, none, true⟩]
theorem law3_sameFrames_r1_go {K : Env → Heap → Prop} {τ ρ : Env} {h : Heap} : vcOps Try.prog K law3_sameFrames_r1 τ ρ h = vcOps Try.prog K [
  ⟨some (6, false), .move (.tmp 0), 22, none, true⟩,
  ⟨some (7, false), .call { callee := .builtin .len, args := #[.tmp 6], argTypes := #[22] }, 3, none, true⟩,
  ⟨some (8, false), .move (.tmp 1), 22, none, true⟩,
  ⟨some (9, false), .call { callee := .builtin .len, args := #[.tmp 8], argTypes := #[22] }, 3, none, true⟩,
  ⟨some (10, true), .binOp .neq 3 (.tmp 7) (.tmp 9) 3, 4, none, true⟩] τ ρ h := _root_.id rfl
def law3_sameFrames_r2 : List Sop := [
  ⟨some (4, true), .assign (.const (.bool false)), 4, none, true⟩]
theorem law3_sameFrames_r2_go {K : Env → Heap → Prop} {τ ρ : Env} {h : Heap} : vcOps Try.prog K law3_sameFrames_r2 τ ρ h = vcOps Try.prog K [
  ⟨some (4, true), .assign (.const (.bool false)), 4, none, true⟩] τ ρ h := _root_.id rfl
def law3_sameFrames_r3 : List Sop := [
  ⟨some (11, false), .move (.tmp 0), 22, none, true⟩,
  ⟨some (12, true), .call { callee := .builtin .len, args := #[.tmp 11], argTypes := #[22] }, 3, none, true⟩,
  ⟨some (13, true), .move (.const (.int .i64 0)), 3, none, true⟩]
theorem law3_sameFrames_r3_go {K : Env → Heap → Prop} {τ ρ : Env} {h : Heap} : vcOps Try.prog K law3_sameFrames_r3 τ ρ h = vcOps Try.prog K [
  ⟨some (11, false), .move (.tmp 0), 22, none, true⟩,
  ⟨some (12, true), .call { callee := .builtin .len, args := #[.tmp 11], argTypes := #[22] }, 3, none, true⟩,
  ⟨some (13, true), .move (.const (.int .i64 0)), 3, none, true⟩] τ ρ h := _root_.id rfl
def law3_sameFrames_r4 : List Sop := [
  ⟨some (14, true), .binOp .lss 3 (.tmp 13) (.tmp 12) 3, 0, none, true⟩]
theorem law3_sameFrames_r4_go {K : Env → Heap → Prop} {τ ρ : Env} {h : Heap} : vcOps Try.prog K law3_sameFrames_r4 τ ρ h = vcOps Try.prog K [
  ⟨some (14, true), .binOp .lss 3 (.tmp 13) (.tmp 12) 3, 0, none, true⟩] τ ρ h := _root_.id rfl
def law3_sameFrames_r5 : List Sop := [
  ⟨some (15, false), .move (.tmp 13), 3, none, true⟩,
  ⟨some (5, true), .assign (.tmp 15), 3, none, true⟩]
theorem law3_sameFrames_r5_go {K : Env → Heap → Prop} {τ ρ : Env} {h : Heap} : vcOps Try.prog K law3_sameFrames_r5 τ ρ h = vcOps Try.prog K [
  ⟨some (15, false), .move (.tmp 13), 3, none, true⟩,
  ⟨some (5, true), .assign (.tmp 15), 3, none, true⟩] τ ρ h := _root_.id rfl
def law3_sameFrames_r6 : List (Sop × List Sop) := [
  (⟨some (16, false), .move (.tmp 0), 22, none, true⟩, []),
  (⟨some (17, false), .move (.tmp 5), 3, none, true⟩, []),
  (⟨some (18, false), .indexAddr 22 (.tmp 16) (.tmp 17), 0, none, true⟩, []),
  (⟨some (19, false), .fieldAddr 41 (.tmp 18) 0, 0, none, true⟩, []),
  (⟨some (20, false), .load 3 (.tmp 19), 3, none, true⟩, []),
  (⟨some (21, false), .move (.tmp 1), 22, none, true⟩, []),
  (⟨some (22, false), .move (.tmp 5), 3, none, true⟩, []),
  (⟨some (23, false), .indexAddr 22 (.tmp 21) (.tmp 22), 0, none, true⟩, []),
  (⟨some (24, false), .fieldAddr 41 (.tmp 23) 0, 0, none, true⟩, []),
  (⟨some (25, false), .load 3 (.tmp 24), 3, none, true⟩, []),
  (⟨some (26, false), .binOp .neq 3 (.tmp 20) (.tmp 25) 3, 4, none, true⟩, []),
  (⟨some (27, false), .move (.tmp 26), 4, none, true⟩, []),
  (⟨some (28, false), .move (.tmp 0), 22, some (27, false), true⟩, []),
  (⟨some (29, false), .move (.tmp 5), 3, some (27, false), true⟩, []),
  (⟨some (30, false), .indexAddr 22 (.tmp 28) (.tmp 29), 0, some (27, false), true⟩, []),
  (⟨some (31, false), .fieldAddr 41 (.tmp 30) 1, 0, some (27, false), true⟩, []),
  (⟨some (32, false), .load 24 (.tmp 31), 24, some (27, false), true⟩, []),
  (⟨some (33, false), .move (.tmp 1), 22, some (27, false), true⟩, []),
  (⟨some (34, false), .move (.tmp 5), 3, some (27, false), true⟩, []),
  (⟨some (35, false), .indexAddr 22 (.tmp 33) (.tmp 34), 0, some (27, false), true⟩, []),
  (⟨some (36, false), .fieldAddr 41 (.tmp 35) 1, 0, some (27, false), true⟩, []),
  (⟨some (37, false), .load 24 (.tmp 36), 24, some (27, false), true⟩, []),
  (⟨some (38, false), .call { callee := .value (.func 11), args := #[.tmp 32, .tmp 37], argTypes := #[24, 24] }, 4, some (27, false), false⟩, []),
  (⟨some (39, false), .unOp .not 4 (.tmp 38), 4, some (27, false), true⟩, []),
  (⟨some (40, false), .pick (.tmp 27) (.const (.bool true)) (.tmp 39), 4, none, true⟩, []),
  (⟨some (41, false), .move (.tmp 40), 4, none, true⟩, []),
  (⟨some (42, false), .move (.tmp 0), 22, some (41, false), true⟩, []),
  (⟨some (43, false), .move (.tmp 5), 3, some (41, false), true⟩, []),
  (⟨some (44, false), .indexAddr 22 (.tmp 42) (.tmp 43), 0, some (41, false), true⟩, []),
  (⟨some (45, false), .fieldAddr 41 (.tmp 44) 2, 0, some (41, false), true⟩, []),
  (⟨some (46, false), .load 24 (.tmp 45), 24, some (41, false), true⟩, []),
  (⟨some (47, false), .move (.tmp 1), 22, some (41, false), true⟩, []),
  (⟨some (48, false), .move (.tmp 5), 3, some (41, false), true⟩, []),
  (⟨some (49, false), .indexAddr 22 (.tmp 47) (.tmp 48), 0, some (41, false), true⟩, []),
  (⟨some (50, false), .fieldAddr 41 (.tmp 49) 2, 0, some (41, false), true⟩, []),
  (⟨some (51, false), .load 24 (.tmp 50), 24, some (41, false), true⟩, []),
  (⟨some (52, false), .call { callee := .value (.func 11), args := #[.tmp 46, .tmp 51], argTypes := #[24, 24] }, 4, some (41, false), false⟩, []),
  (⟨some (53, false), .unOp .not 4 (.tmp 52), 4, some (41, false), true⟩, []),
  (⟨some (54, true), .pick (.tmp 41) (.const (.bool true)) (.tmp 53), 4, none, true⟩, [])]
theorem law3_sameFrames_r6_go {K : Env → Heap → Prop} {τ ρ : Env} {h : Heap} : vcDraw Try.prog K law3_sameFrames_r6 τ ρ h = vcDraw Try.prog K [
  (⟨some (16, false), .move (.tmp 0), 22, none, true⟩, []),
  (⟨some (17, false), .move (.tmp 5), 3, none, true⟩, []),
  (⟨some (18, false), .indexAddr 22 (.tmp 16) (.tmp 17), 0, none, true⟩, []),
  (⟨some (19, false), .fieldAddr 41 (.tmp 18) 0, 0, none, true⟩, []),
  (⟨some (20, false), .load 3 (.tmp 19), 3, none, true⟩, []),
  (⟨some (21, false), .move (.tmp 1), 22, none, true⟩, []),
  (⟨some (22, false), .move (.tmp 5), 3, none, true⟩, []),
  (⟨some (23, false), .indexAddr 22 (.tmp 21) (.tmp 22), 0, none, true⟩, []),
  (⟨some (24, false), .fieldAddr 41 (.tmp 23) 0, 0, none, true⟩, []),
  (⟨some (25, false), .load 3 (.tmp 24), 3, none, true⟩, []),
  (⟨some (26, false), .binOp .neq 3 (.tmp 20) (.tmp 25) 3, 4, none, true⟩, []),
  (⟨some (27, false), .move (.tmp 26), 4, none, true⟩, []),
  (⟨some (28, false), .move (.tmp 0), 22, some (27, false), true⟩, []),
  (⟨some (29, false), .move (.tmp 5), 3, some (27, false), true⟩, []),
  (⟨some (30, false), .indexAddr 22 (.tmp 28) (.tmp 29), 0, some (27, false), true⟩, []),
  (⟨some (31, false), .fieldAddr 41 (.tmp 30) 1, 0, some (27, false), true⟩, []),
  (⟨some (32, false), .load 24 (.tmp 31), 24, some (27, false), true⟩, []),
  (⟨some (33, false), .move (.tmp 1), 22, some (27, false), true⟩, []),
  (⟨some (34, false), .move (.tmp 5), 3, some (27, false), true⟩, []),
  (⟨some (35, false), .indexAddr 22 (.tmp 33) (.tmp 34), 0, some (27, false), true⟩, []),
  (⟨some (36, false), .fieldAddr 41 (.tmp 35) 1, 0, some (27, false), true⟩, []),
  (⟨some (37, false), .load 24 (.tmp 36), 24, some (27, false), true⟩, []),
  (⟨some (38, false), .call { callee := .value (.func 11), args := #[.tmp 32, .tmp 37], argTypes := #[24, 24] }, 4, some (27, false), false⟩, []),
  (⟨some (39, false), .unOp .not 4 (.tmp 38), 4, some (27, false), true⟩, []),
  (⟨some (40, false), .pick (.tmp 27) (.const (.bool true)) (.tmp 39), 4, none, true⟩, []),
  (⟨some (41, false), .move (.tmp 40), 4, none, true⟩, []),
  (⟨some (42, false), .move (.tmp 0), 22, some (41, false), true⟩, []),
  (⟨some (43, false), .move (.tmp 5), 3, some (41, false), true⟩, []),
  (⟨some (44, false), .indexAddr 22 (.tmp 42) (.tmp 43), 0, some (41, false), true⟩, []),
  (⟨some (45, false), .fieldAddr 41 (.tmp 44) 2, 0, some (41, false), true⟩, []),
  (⟨some (46, false), .load 24 (.tmp 45), 24, some (41, false), true⟩, []),
  (⟨some (47, false), .move (.tmp 1), 22, some (41, false), true⟩, []),
  (⟨some (48, false), .move (.tmp 5), 3, some (41, false), true⟩, []),
  (⟨some (49, false), .indexAddr 22 (.tmp 47) (.tmp 48), 0, some (41, false), true⟩, []),
  (⟨some (50, false), .fieldAddr 41 (.tmp 49) 2, 0, some (41, false), true⟩, []),
  (⟨some (51, false), .load 24 (.tmp 50), 24, some (41, false), true⟩, []),
  (⟨some (52, false), .call { callee := .value (.func 11), args := #[.tmp 46, .tmp 51], argTypes := #[24, 24] }, 4, some (41, false), false⟩, []),
  (⟨some (53, false), .unOp .not 4 (.tmp 52), 4, some (41, false), true⟩, []),
  (⟨some (54, true), .pick (.tmp 41) (.const (.bool true)) (.tmp 53), 4, none, true⟩, [])] τ ρ h := _root_.id rfl
def law3_sameFrames_r7 : List Sop := [
  ⟨some (4, true), .assign (.const (.bool false)), 4, none, true⟩]
theorem law3_sameFrames_r7_go {K : Env → Heap → Prop} {τ ρ : Env} {h : Heap} : vcOps Try.prog K law3_sameFrames_r7 τ ρ h = vcOps Try.prog K [
  ⟨some (4, true), .assign (.const (.bool false)), 4, none, true⟩] τ ρ h := _root_.id rfl
def law3_sameFrames_r8 : List Sop := [
  ⟨some (55, false), .binOp .add 3 (.tmp 13) (.const (.int .i64 1)) 3, 3, none, true⟩,
  ⟨some (13, true), .move (.tmp 55), 3, none, true⟩]
theorem law3_sameFrames_r8_go {K : Env → Heap → Prop} {τ ρ : Env} {h : Heap} : vcOps Try.prog K law3_sameFrames_r8 τ ρ h = vcOps Try.prog K [
  ⟨some (55, false), .binOp .add 3 (.tmp 13) (.const (.int .i64 1)) 3, 3, none, true⟩,
  ⟨some (13, true), .move (.tmp 55), 3, none, true⟩] τ ρ h := _root_.id rfl
def law3_sameFrames_r9 : List Sop := [
  ⟨some (4, true), .assign (.const (.bool true)), 4, none, true⟩]
theorem law3_sameFrames_r9_go {K : Env → Heap → Prop} {τ ρ : Env} {h : Heap} : vcOps Try.prog K law3_sameFrames_r9 τ ρ h = vcOps Try.prog K [
  ⟨some (4, true), .assign (.const (.bool true)), 4, none, true⟩] τ ρ h := _root_.id rfl
def law3_sameFrames_l0 : Cd := .seq (.region law3_sameFrames_r4) (.seq (.cond (.tmp 14) (.skip) (.exit 0)) (.seq (.block 1 (.seq (.region law3_sameFrames_r5) (.seq (.draw law3_sameFrames_r6) (.cond (.tmp 54) (.seq (.region law3_sameFrames_r7) (.ret)) (.skip))))) (.region law3_sameFrames_r8)))
theorem law3_sameFrames_l0_go {Q : Ex → Env → Heap → Prop} {ρ : Env} {h : Heap} : Cd.vc Try.prog law3_sameFrames_l0 Q ρ h = Cd.vc Try.prog (.seq (.region law3_sameFrames_r4) (.seq (.cond (.tmp 14) (.skip) (.exit 0)) (.seq (.block 1 (.seq (.region law3_sameFrames_r5) (.seq (.draw law3_sameFrames_r6) (.cond (.tmp 54) (.seq (.region law3_sameFrames_r7) (.ret)) (.skip))))) (.region law3_sameFrames_r8)))) Q ρ h := _root_.id rfl
def law3_sameFrames : Cd := .seq (.region law3_sameFrames_r0) (.seq (.seq (.region law3_sameFrames_r1) (.cond (.tmp 10) (.seq (.region law3_sameFrames_r2) (.ret)) (.skip))) (.seq (.seq (.region law3_sameFrames_r3) (.block 0 (.loop law3_sameFrames_l0))) (.seq (.region law3_sameFrames_r9) (.ret))))
theorem law3_sameFrames_go {Q : Ex → Env → Heap → Prop} {ρ : Env} {h : Heap} : Cd.vc Try.prog law3_sameFrames Q ρ h = Cd.vc Try.prog (.seq (.region law3_sameFrames_r0) (.seq (.seq (.region law3_sameFrames_r1) (.cond (.tmp 10) (.seq (.region law3_sameFrames_r2) (.ret)) (.skip))) (.seq (.seq (.region law3_sameFrames_r3) (.block 0 (.loop law3_sameFrames_l0))) (.seq (.region law3_sameFrames_r9) (.ret))))) Q ρ h := _root_.id rfl
theorem law3_sameFrames_calls {args : List Value} {h : Heap} {R : Value → Heap → Prop} (hl : args.length = 2) (hv : Cd.vc Try.prog law3_sameFrames (retQ Try.prog [(4, none)] R) (initEnv args [0, 1, 4, 5, 10, 12, 13, 14, 54]) h) : HCalls Try.prog 10 args.toArray h R :=
  hcalls_of_vc (by kernel_rfl) Try.func10 (cd := law3_sameFrames) (L := [0, 1, 4, 5, 10, 12, 13, 14, 54]) (by kernel_rfl) (by kernel_rfl) ⟨by rw [hl, Try.ntmps10]; decide, by rw [Try.ntmps10]; decide⟩ hv
def law3_sameFrames_gos := And.intro @law3_sameFrames_go (And.intro @law3_sameFrames_r0_go (And.intro @law3_sameFrames_r1_go (And.intro @law3_sameFrames_r2_go (And.intro @law3_sameFrames_r3_go (And.intro @law3_sameFrames_r4_go (And.intro @law3_sameFrames_r5_go (And.intro @law3_sameFrames_r6_go (And.intro @law3_sameFrames_r7_go (And.intro @law3_sameFrames_r8_go (And.intro @law3_sameFrames_r9_go (@law3_sameFrames_l0_go)))))))))))

/-! jvmcore/jvmcorelaw3.sameTypes: function 11: slots [0, 1, 4, 5, 10, 12, 13, 14, 24] -/
def law3_sameTypes_r0 : List Sop := [
  ⟨some (4, true), .assign (.const (.bool false)), 4, none, true⟩]
theorem law3_sameTypes_r0_go {K : Env → Heap → Prop} {τ ρ : Env} {h : Heap} : vcOps Try.prog K law3_sameTypes_r0 τ ρ h = vcOps Try.prog K [
  ⟨some (4, true), .assign (.const (.bool false)), 4, none, true⟩] τ ρ h := _root_.id rfl
def law3_sameTypes_r1 : List Sop := [
  ⟨some (6, false), .move (.tmp 0), 24, none, true⟩,
  ⟨some (7, false), .call { callee := .builtin .len, args := #[.tmp 6], argTypes := #[24] }, 3, none, true⟩,
  ⟨some (8, false), .move (.tmp 1), 24, none, true⟩,
  ⟨some (9, false), .call { callee := .builtin .len, args := #[.tmp 8], argTypes := #[24] }, 3, none, true⟩,
  ⟨some (10, true), .binOp .neq 3 (.tmp 7) (.tmp 9) 3, 4, none, true⟩]
theorem law3_sameTypes_r1_go {K : Env → Heap → Prop} {τ ρ : Env} {h : Heap} : vcOps Try.prog K law3_sameTypes_r1 τ ρ h = vcOps Try.prog K [
  ⟨some (6, false), .move (.tmp 0), 24, none, true⟩,
  ⟨some (7, false), .call { callee := .builtin .len, args := #[.tmp 6], argTypes := #[24] }, 3, none, true⟩,
  ⟨some (8, false), .move (.tmp 1), 24, none, true⟩,
  ⟨some (9, false), .call { callee := .builtin .len, args := #[.tmp 8], argTypes := #[24] }, 3, none, true⟩,
  ⟨some (10, true), .binOp .neq 3 (.tmp 7) (.tmp 9) 3, 4, none, true⟩] τ ρ h := _root_.id rfl
def law3_sameTypes_r2 : List Sop := [
  ⟨some (4, true), .assign (.const (.bool false)), 4, none, true⟩]
theorem law3_sameTypes_r2_go {K : Env → Heap → Prop} {τ ρ : Env} {h : Heap} : vcOps Try.prog K law3_sameTypes_r2 τ ρ h = vcOps Try.prog K [
  ⟨some (4, true), .assign (.const (.bool false)), 4, none, true⟩] τ ρ h := _root_.id rfl
def law3_sameTypes_r3 : List Sop := [
  ⟨some (11, false), .move (.tmp 0), 24, none, true⟩,
  ⟨some (12, true), .call { callee := .builtin .len, args := #[.tmp 11], argTypes := #[24] }, 3, none, true⟩,
  ⟨some (13, true), .move (.const (.int .i64 0)), 3, none, true⟩]
theorem law3_sameTypes_r3_go {K : Env → Heap → Prop} {τ ρ : Env} {h : Heap} : vcOps Try.prog K law3_sameTypes_r3 τ ρ h = vcOps Try.prog K [
  ⟨some (11, false), .move (.tmp 0), 24, none, true⟩,
  ⟨some (12, true), .call { callee := .builtin .len, args := #[.tmp 11], argTypes := #[24] }, 3, none, true⟩,
  ⟨some (13, true), .move (.const (.int .i64 0)), 3, none, true⟩] τ ρ h := _root_.id rfl
def law3_sameTypes_r4 : List Sop := [
  ⟨some (14, true), .binOp .lss 3 (.tmp 13) (.tmp 12) 3, 0, none, true⟩]
theorem law3_sameTypes_r4_go {K : Env → Heap → Prop} {τ ρ : Env} {h : Heap} : vcOps Try.prog K law3_sameTypes_r4 τ ρ h = vcOps Try.prog K [
  ⟨some (14, true), .binOp .lss 3 (.tmp 13) (.tmp 12) 3, 0, none, true⟩] τ ρ h := _root_.id rfl
def law3_sameTypes_r5 : List Sop := [
  ⟨some (15, false), .move (.tmp 13), 3, none, true⟩,
  ⟨some (5, true), .assign (.tmp 15), 3, none, true⟩]
theorem law3_sameTypes_r5_go {K : Env → Heap → Prop} {τ ρ : Env} {h : Heap} : vcOps Try.prog K law3_sameTypes_r5 τ ρ h = vcOps Try.prog K [
  ⟨some (15, false), .move (.tmp 13), 3, none, true⟩,
  ⟨some (5, true), .assign (.tmp 15), 3, none, true⟩] τ ρ h := _root_.id rfl
def law3_sameTypes_r6 : List (Sop × List Sop) := [
  (⟨some (16, false), .move (.tmp 0), 24, none, true⟩, []),
  (⟨some (17, false), .move (.tmp 5), 3, none, true⟩, []),
  (⟨some (18, false), .indexAddr 24 (.tmp 16) (.tmp 17), 0, none, true⟩, []),
  (⟨some (19, false), .load 35 (.tmp 18), 35, none, true⟩, []),
  (⟨some (20, false), .move (.tmp 1), 24, none, true⟩, []),
  (⟨some (21, false), .move (.tmp 5), 3, none, true⟩, []),
  (⟨some (22, false), .indexAddr 24 (.tmp 20) (.tmp 21), 0, none, true⟩, []),
  (⟨some (23, false), .load 35 (.tmp 22), 35, none, true⟩, []),
  (⟨some (24, true), .binOp .neq 35 (.tmp 19) (.tmp 23) 35, 4, none, true⟩, [])]
theorem law3_sameTypes_r6_go {K : Env → Heap → Prop} {τ ρ : Env} {h : Heap} : vcDraw Try.prog K law3_sameTypes_r6 τ ρ h = vcDraw Try.prog K [
  (⟨some (16, false), .move (.tmp 0), 24, none, true⟩, []),
  (⟨some (17, false), .move (.tmp 5), 3, none, true⟩, []),
  (⟨some (18, false), .indexAddr 24 (.tmp 16) (.tmp 17), 0, none, true⟩, []),
  (⟨some (19, false), .load 35 (.tmp 18), 35, none, true⟩, []),
  (⟨some (20, false), .move (.tmp 1), 24, none, true⟩, []),
  (⟨some (21, false), .move (.tmp 5), 3, none, true⟩, []),
  (⟨some (22, false), .indexAddr 24 (.tmp 20) (.tmp 21), 0, none, true⟩, []),
  (⟨some (23, false), .load 35 (.tmp 22), 35, none, true⟩, []),
  (⟨some (24, true), .binOp .neq 35 (.tmp 19) (.tmp 23) 35, 4, none, true⟩, [])] τ ρ h := _root_.id rfl
def law3_sameTypes_r7 : List Sop := [
  ⟨some (4, true), .assign (.const (.bool false)), 4, none, true⟩]
theorem law3_sameTypes_r7_go {K : Env → Heap → Prop} {τ ρ : Env} {h : Heap} : vcOps Try.prog K law3_sameTypes_r7 τ ρ h = vcOps Try.prog K [
  ⟨some (4, true), .assign (.const (.bool false)), 4, none, true⟩] τ ρ h := _root_.id rfl
def law3_sameTypes_r8 : List Sop := [
  ⟨some (25, false), .binOp .add 3 (.tmp 13) (.const (.int .i64 1)) 3, 3, none, true⟩,
  ⟨some (13, true), .move (.tmp 25), 3, none, true⟩]
theorem law3_sameTypes_r8_go {K : Env → Heap → Prop} {τ ρ : Env} {h : Heap} : vcOps Try.prog K law3_sameTypes_r8 τ ρ h = vcOps Try.prog K [
  ⟨some (25, false), .binOp .add 3 (.tmp 13) (.const (.int .i64 1)) 3, 3, none, true⟩,
  ⟨some (13, true), .move (.tmp 25), 3, none, true⟩] τ ρ h := _root_.id rfl
def law3_sameTypes_r9 : List Sop := [
  ⟨some (4, true), .assign (.const (.bool true)), 4, none, true⟩]
theorem law3_sameTypes_r9_go {K : Env → Heap → Prop} {τ ρ : Env} {h : Heap} : vcOps Try.prog K law3_sameTypes_r9 τ ρ h = vcOps Try.prog K [
  ⟨some (4, true), .assign (.const (.bool true)), 4, none, true⟩] τ ρ h := _root_.id rfl
def law3_sameTypes_l0 : Cd := .seq (.region law3_sameTypes_r4) (.seq (.cond (.tmp 14) (.skip) (.exit 0)) (.seq (.block 1 (.seq (.region law3_sameTypes_r5) (.seq (.draw law3_sameTypes_r6) (.cond (.tmp 24) (.seq (.region law3_sameTypes_r7) (.ret)) (.skip))))) (.region law3_sameTypes_r8)))
theorem law3_sameTypes_l0_go {Q : Ex → Env → Heap → Prop} {ρ : Env} {h : Heap} : Cd.vc Try.prog law3_sameTypes_l0 Q ρ h = Cd.vc Try.prog (.seq (.region law3_sameTypes_r4) (.seq (.cond (.tmp 14) (.skip) (.exit 0)) (.seq (.block 1 (.seq (.region law3_sameTypes_r5) (.seq (.draw law3_sameTypes_r6) (.cond (.tmp 24) (.seq (.region law3_sameTypes_r7) (.ret)) (.skip))))) (.region law3_sameTypes_r8)))) Q ρ h := _root_.id rfl
def law3_sameTypes : Cd := .seq (.region law3_sameTypes_r0) (.seq (.seq (.region law3_sameTypes_r1) (.cond (.tmp 10) (.seq (.region law3_sameTypes_r2) (.ret)) (.skip))) (.seq (.seq (.region law3_sameTypes_r3) (.block 0 (.loop law3_sameTypes_l0))) (.seq (.region law3_sameTypes_r9) (.ret))))
theorem law3_sameTypes_go {Q : Ex → Env → Heap → Prop} {ρ : Env} {h : Heap} : Cd.vc Try.prog law3_sameTypes Q ρ h = Cd.vc Try.prog (.seq (.region law3_sameTypes_r0) (.seq (.seq (.region law3_sameTypes_r1) (.cond (.tmp 10) (.seq (.region law3_sameTypes_r2) (.ret)) (.skip))) (.seq (.seq (.region law3_sameTypes_r3) (.block 0 (.loop law3_sameTypes_l0))) (.seq (.region law3_sameTypes_r9) (.ret))))) Q ρ h := _root_.id rfl
theorem law3_sameTypes_calls {args : List Value} {h : Heap} {R : Value → Heap → Prop} (hl : args.length = 2) (hv : Cd.vc Try.prog law3_sameTypes (retQ Try.prog [(4, none)] R) (initEnv args [0, 1, 4, 5, 10, 12, 13, 14, 24]) h) : HCalls Try.prog 11 args.toArray h R :=
  hcalls_of_vc (by kernel_rfl) Try.func11 (cd := law3_sameTypes) (L := [0, 1, 4, 5, 10, 12, 13, 14, 24]) (by kernel_rfl) (by kernel_rfl) ⟨by rw [hl, Try.ntmps11]; decide, by rw [Try.ntmps11]; decide⟩ hv
def law3_sameTypes_gos := And.intro @law3_sameTypes_go (And.intro @law3_sameTypes_r0_go (And.intro @law3_sameTypes_r1_go (And.intro @law3_sameTypes_r2_go (And.intro @law3_sameTypes_r3_go (And.intro @law3_sameTypes_r4_go (And.intro @law3_sameTypes_r5_go (And.intro @law3_sameTypes_r6_go (And.intro @law3_sameTypes_r7_go (And.intro @law3_sameTypes_r8_go (And.intro @law3_sameTypes_r9_go (@law3_sameTypes_l0_go)))))))))))

/-! jvmcore/jvmcorelaw3.samePool: function 12: slots [0, 1, 4, 5, 10, 12, 13, 14, 24] -/
def law3_samePool_r0 : List Sop := [
  ⟨some (4, true), .assign (.const (.bool false)), 4, none, true⟩]
theorem law3_samePool_r0_go {K : Env → Heap → Prop} {τ ρ : Env} {h : Heap} : vcOps Try.prog K law3_samePool_r0 τ ρ h = vcOps Try.prog K [
  ⟨some (4, true), .assign (.const (.bool false)), 4, none, true⟩] τ ρ h := _root_.id rfl
def law3_samePool_r1 : List Sop := [
  ⟨some (6, false), .move (.tmp 0), 23, none, true⟩,
  ⟨some (7, false), .call { callee := .builtin .len, args := #[.tmp 6], argTypes := #[23] }, 3, none, true⟩,
  ⟨some (8, false), .move (.tmp 1), 23, none, true⟩,
  ⟨some (9, false), .call { callee := .builtin .len, args := #[.tmp 8], argTypes := #[23] }, 3, none, true⟩,
  ⟨some (10, true), .binOp .neq 3 (.tmp 7) (.tmp 9) 3, 4, none, true⟩]
theorem law3_samePool_r1_go {K : Env → Heap → Prop} {τ ρ : Env} {h : Heap} : vcOps Try.prog K law3_samePool_r1 τ ρ h = vcOps Try.prog K [
  ⟨some (6, false), .move (.tmp 0), 23, none, true⟩,
  ⟨some (7, false), .call { callee := .builtin .len, args := #[.tmp 6], argTypes := #[23] }, 3, none, true⟩,
  ⟨some (8, false), .move (.tmp 1), 23, none, true⟩,
  ⟨some (9, false), .call { callee := .builtin .len, args := #[.tmp 8], argTypes := #[23] }, 3, none, true⟩,
  ⟨some (10, true), .binOp .neq 3 (.tmp 7) (.tmp 9) 3, 4, none, true⟩] τ ρ h := _root_.id rfl
def law3_samePool_r2 : List Sop := [
  ⟨some (4, true), .assign (.const (.bool false)), 4, none, true⟩]
theorem law3_samePool_r2_go {K : Env → Heap → Prop} {τ ρ : Env} {h : Heap} : vcOps Try.prog K law3_samePool_r2 τ ρ h = vcOps Try.prog K [
  ⟨some (4, true), .assign (.const (.bool false)), 4, none, true⟩] τ ρ h := _root_.id rfl
def law3_samePool_r3 : List Sop := [
  ⟨some (11, false), .move (.tmp 0), 23, none, true⟩,
  ⟨some (12, true), .call { callee := .builtin .len, args := #[.tmp 11], argTypes := #[23] }, 3, none, true⟩,
  ⟨some (13, true), .move (.const (.int .i64 0)), 3, none, true⟩]
theorem law3_samePool_r3_go {K : Env → Heap → Prop} {τ ρ : Env} {h : Heap} : vcOps Try.prog K law3_samePool_r3 τ ρ h = vcOps Try.prog K [
  ⟨some (11, false), .move (.tmp 0), 23, none, true⟩,
  ⟨some (12, true), .call { callee := .builtin .len, args := #[.tmp 11], argTypes := #[23] }, 3, none, true⟩,
  ⟨some (13, true), .move (.const (.int .i64 0)), 3, none, true⟩] τ ρ h := _root_.id rfl
def law3_samePool_r4 : List Sop := [
  ⟨some (14, true), .binOp .lss 3 (.tmp 13) (.tmp 12) 3, 0, none, true⟩]
theorem law3_samePool_r4_go {K : Env → Heap → Prop} {τ ρ : Env} {h : Heap} : vcOps Try.prog K law3_samePool_r4 τ ρ h = vcOps Try.prog K [
  ⟨some (14, true), .binOp .lss 3 (.tmp 13) (.tmp 12) 3, 0, none, true⟩] τ ρ h := _root_.id rfl
def law3_samePool_r5 : List Sop := [
  ⟨some (15, false), .move (.tmp 13), 3, none, true⟩,
  ⟨some (5, true), .assign (.tmp 15), 3, none, true⟩]
theorem law3_samePool_r5_go {K : Env → Heap → Prop} {τ ρ : Env} {h : Heap} : vcOps Try.prog K law3_samePool_r5 τ ρ h = vcOps Try.prog K [
  ⟨some (15, false), .move (.tmp 13), 3, none, true⟩,
  ⟨some (5, true), .assign (.tmp 15), 3, none, true⟩] τ ρ h := _root_.id rfl
def law3_samePool_r6 : List (Sop × List Sop) := [
  (⟨some (16, false), .move (.tmp 0), 23, none, true⟩, []),
  (⟨some (17, false), .move (.tmp 5), 3, none, true⟩, []),
  (⟨some (18, false), .indexAddr 23 (.tmp 16) (.tmp 17), 0, none, true⟩, []),
  (⟨some (19, false), .load 54 (.tmp 18), 54, none, true⟩, []),
  (⟨some (20, false), .move (.tmp 1), 23, none, true⟩, []),
  (⟨some (21, false), .move (.tmp 5), 3, none, true⟩, []),
  (⟨some (22, false), .indexAddr 23 (.tmp 20) (.tmp 21), 0, none, true⟩, []),
  (⟨some (23, false), .load 54 (.tmp 22), 54, none, true⟩, []),
  (⟨some (24, true), .binOp .neq 54 (.tmp 19) (.tmp 23) 54, 4, none, true⟩, [])]
theorem law3_samePool_r6_go {K : Env → Heap → Prop} {τ ρ : Env} {h : Heap} : vcDraw Try.prog K law3_samePool_r6 τ ρ h = vcDraw Try.prog K [
  (⟨some (16, false), .move (.tmp 0), 23, none, true⟩, []),
  (⟨some (17, false), .move (.tmp 5), 3, none, true⟩, []),
  (⟨some (18, false), .indexAddr 23 (.tmp 16) (.tmp 17), 0, none, true⟩, []),
  (⟨some (19, false), .load 54 (.tmp 18), 54, none, true⟩, []),
  (⟨some (20, false), .move (.tmp 1), 23, none, true⟩, []),
  (⟨some (21, false), .move (.tmp 5), 3, none, true⟩, []),
  (⟨some (22, false), .indexAddr 23 (.tmp 20) (.tmp 21), 0, none, true⟩, []),
  (⟨some (23, false), .load 54 (.tmp 22), 54, none, true⟩, []),
  (⟨some (24, true), .binOp .neq 54 (.tmp 19) (.tmp 23) 54, 4, none, true⟩, [])] τ ρ h := _root_.id rfl
def law3_samePool_r7 : List Sop := [
  ⟨some (4, true), .assign (.const (.bool false)), 4, none, true⟩]
theorem law3_samePool_r7_go {K : Env → Heap → Prop} {τ ρ : Env} {h : Heap} : vcOps Try.prog K law3_samePool_r7 τ ρ h = vcOps Try.prog K [
  ⟨some (4, true), .assign (.const (.bool false)), 4, none, true⟩] τ ρ h := _root_.id rfl
def law3_samePool_r8 : List Sop := [
  ⟨some (25, false), .binOp .add 3 (.tmp 13) (.const (.int .i64 1)) 3, 3, none, true⟩,
  ⟨some (13, true), .move (.tmp 25), 3, none, true⟩]
theorem law3_samePool_r8_go {K : Env → Heap → Prop} {τ ρ : Env} {h : Heap} : vcOps Try.prog K law3_samePool_r8 τ ρ h = vcOps Try.prog K [
  ⟨some (25, false), .binOp .add 3 (.tmp 13) (.const (.int .i64 1)) 3, 3, none, true⟩,
  ⟨some (13, true), .move (.tmp 25), 3, none, true⟩] τ ρ h := _root_.id rfl
def law3_samePool_r9 : List Sop := [
  ⟨some (4, true), .assign (.const (.bool true)), 4, none, true⟩]
theorem law3_samePool_r9_go {K : Env → Heap → Prop} {τ ρ : Env} {h : Heap} : vcOps Try.prog K law3_samePool_r9 τ ρ h = vcOps Try.prog K [
  ⟨some (4, true), .assign (.const (.bool true)), 4, none, true⟩] τ ρ h := _root_.id rfl
def law3_samePool_l0 : Cd := .seq (.region law3_samePool_r4) (.seq (.cond (.tmp 14) (.skip) (.exit 0)) (.seq (.block 1 (.seq (.region law3_samePool_r5) (.seq (.draw law3_samePool_r6) (.cond (.tmp 24) (.seq (.region law3_samePool_r7) (.ret)) (.skip))))) (.region law3_samePool_r8)))
theorem law3_samePool_l0_go {Q : Ex → Env → Heap → Prop} {ρ : Env} {h : Heap} : Cd.vc Try.prog law3_samePool_l0 Q ρ h = Cd.vc Try.prog (.seq (.region law3_samePool_r4) (.seq (.cond (.tmp 14) (.skip) (.exit 0)) (.seq (.block 1 (.seq (.region law3_samePool_r5) (.seq (.draw law3_samePool_r6) (.cond (.tmp 24) (.seq (.region law3_samePool_r7) (.ret)) (.skip))))) (.region law3_samePool_r8)))) Q ρ h := _root_.id rfl
def law3_samePool : Cd := .seq (.region law3_samePool_r0) (.seq (.seq (.region law3_samePool_r1) (.cond (.tmp 10) (.seq (.region law3_samePool_r2) (.ret)) (.skip))) (.seq (.seq (.region law3_samePool_r3) (.block 0 (.loop law3_samePool_l0))) (.seq (.region law3_samePool_r9) (.ret))))
theorem law3_samePool_go {Q : Ex → Env → Heap → Prop} {ρ : Env} {h : Heap} : Cd.vc Try.prog law3_samePool Q ρ h = Cd.vc Try.prog (.seq (.region law3_samePool_r0) (.seq (.seq (.region law3_samePool_r1) (.cond (.tmp 10) (.seq (.region law3_samePool_r2) (.ret)) (.skip))) (.seq (.seq (.region law3_samePool_r3) (.block 0 (.loop law3_samePool_l0))) (.seq (.region law3_samePool_r9) (.ret))))) Q ρ h := _root_.id rfl
theorem law3_samePool_calls {args : List Value} {h : Heap} {R : Value → Heap → Prop} (hl : args.length = 2) (hv : Cd.vc Try.prog law3_samePool (retQ Try.prog [(4, none)] R) (initEnv args [0, 1, 4, 5, 10, 12, 13, 14, 24]) h) : HCalls Try.prog 12 args.toArray h R :=
  hcalls_of_vc (by kernel_rfl) Try.func12 (cd := law3_samePool) (L := [0, 1, 4, 5, 10, 12, 13, 14, 24]) (by kernel_rfl) (by kernel_rfl) ⟨by rw [hl, Try.ntmps12]; decide, by rw [Try.ntmps12]; decide⟩ hv
def law3_samePool_gos := And.intro @law3_samePool_go (And.intro @law3_samePool_r0_go (And.intro @law3_samePool_r1_go (And.intro @law3_samePool_r2_go (And.intro @law3_samePool_r3_go (And.intro @law3_samePool_r4_go (And.intro @law3_samePool_r5_go (And.intro @law3_samePool_r6_go (And.intro @law3_samePool_r7_go (And.intro @law3_samePool_r8_go (And.intro @law3_samePool_r9_go (@law3_samePool_l0_go)))))))))))

/-! jvmcore/jvmcorelaw3.MapWrites: function 3: slots [0, 1, 2, 6, 7, 8, 9, 10, 11, 12, 13, 14, 15, 24] -/
def law3_MapWrites_r0 : List Sop := [
  ⟨some (6, true), .assign (.const (.bool false)), 4, none, true⟩]
theorem law3_MapWrites_r0_go {K : Env → Heap → Prop} {τ ρ : Env} {h : Heap} : vcOps Try.prog K law3_MapWrites_r0 τ ρ h = vcOps Try.prog K [
  ⟨some (6, true), .assign (.const (.bool false)), 4, none, true⟩] τ ρ h := _root_.id rfl
def law3_MapWrites_r1 : List Sop := [
  ⟨some (16, false), .move (.tmp 0), 22, none, true⟩,
  ⟨some (17, false), .call { callee := .value (.func 6), args := #[.tmp 16], argTypes := #[22] }, 3, none, false⟩,
  ⟨some (18, false), .move (.tmp 1), 23, none, true⟩,
  ⟨some (19, false), .call { callee := .builtin .len, args := #[.tmp 18], argTypes := #[23] }, 3, none, true⟩,
  ⟨some (20, false), .binOp .add 3 (.tmp 17) (.tmp 19) 3, 3, none, true⟩,
  ⟨some (21, false), .move (.tmp 2), 24, none, true⟩,
  ⟨some (22, false), .call { callee := .builtin .len, args := #[.tmp 21], argTypes := #[24] }, 3, none, true⟩,
  ⟨some (23, false), .binOp .add 3 (.tmp 20) (.tmp 22) 3, 3, none, true⟩,
  ⟨some (24, true), .binOp .gtr 3 (.tmp 23) (.const (.int .i64 4096)) 3, 4, none, true⟩]
theorem law3_MapWrites_r1_go {K : Env → Heap → Prop} {τ ρ : Env} {h : Heap} : vcOps Try.prog K law3_MapWrites_r1 τ ρ h = vcOps Try.prog K [
  ⟨some (16, false), .move (.tmp 0), 22, none, true⟩,
  ⟨some (17, false), .call { callee := .value (.func 6), args := #[.tmp 16], argTypes := #[22] }, 3, none, false⟩,
  ⟨some (18, false), .move (.tmp 1), 23, none, true⟩,
  ⟨some (19, false), .call { callee := .builtin .len, args := #[.tmp 18], argTypes := #[23] }, 3, none, true⟩,
  ⟨some (20, false), .binOp .add 3 (.tmp 17) (.tmp 19) 3, 3, none, true⟩,
  ⟨some (21, false), .move (.tmp 2), 24, none, true⟩,
  ⟨some (22, false), .call { callee := .builtin .len, args := #[.tmp 21], argTypes := #[24] }, 3, none, true⟩,
  ⟨some (23, false), .binOp .add 3 (.tmp 20) (.tmp 22) 3, 3, none, true⟩,
  ⟨some (24, true), .binOp .gtr 3 (.tmp 23) (.const (.int .i64 4096)) 3, 4, none, true⟩] τ ρ h := _root_.id rfl
def law3_MapWrites_r2 : List Sop := [
  ⟨some (6, true), .assign (.const (.bool true)), 4, none, true⟩]
theorem law3_MapWrites_r2_go {K : Env → Heap → Prop} {τ ρ : Env} {h : Heap} : vcOps Try.prog K law3_MapWrites_r2 τ ρ h = vcOps Try.prog K [
  ⟨some (6, true), .assign (.const (.bool true)), 4, none, true⟩] τ ρ h := _root_.id rfl
def law3_MapWrites_r3 : List Sop := [
  ⟨some (25, false), .move (.tmp 0), 22, none, true⟩,
  ⟨some (26, false), .call { callee := .value (.func 7), args := #[.tmp 25], argTypes := #[22] }, 22, none, false⟩,
  ⟨some (7, true), .assign (.tmp 26), 22, none, true⟩]
theorem law3_MapWrites_r3_go {K : Env → Heap → Prop} {τ ρ : Env} {h : Heap} : vcOps Try.prog K law3_MapWrites_r3 τ ρ h = vcOps Try.prog K [
  ⟨some (25, false), .move (.tmp 0), 22, none, true⟩,
  ⟨some (26, false), .call { callee := .value (.func 7), args := #[.tmp 25], argTypes := #[22] }, 22, none, false⟩,
  ⟨some (7, true), .assign (.tmp 26), 22, none, true⟩] τ ρ h := _root_.id rfl
def law3_MapWrites_r4 : List Sop := [
  ⟨some (27, false), .move (.tmp 1), 23, none, true⟩,
  ⟨some (28, false), .call { callee := .builtin .append, args := #[.const (.slice none 0 0), .tmp 27], argTypes := #[23, 23] }, 23, none, false⟩,
  ⟨some (8, true), .assign (.tmp 28), 23, none, true⟩]
theorem law3_MapWrites_r4_go {K : Env → Heap → Prop} {τ ρ : Env} {h : Heap} : vcOps Try.prog K law3_MapWrites_r4 τ ρ h = vcOps Try.prog K [
  ⟨some (27, false), .move (.tmp 1), 23, none, true⟩,
  ⟨some (28, false), .call { callee := .builtin .append, args := #[.const (.slice none 0 0), .tmp 27], argTypes := #[23, 23] }, 23, none, false⟩,
  ⟨some (8, true), .assign (.tmp 28), 23, none, true⟩] τ ρ h := _root_.id rfl
def law3_MapWrites_r5 : List Sop := [
  ⟨some (29, false), .move (.tmp 2), 24, none, true⟩,
  ⟨some (30, false), .call { callee := .builtin .append, args := #[.const (.slice none 0 0), .tmp 29], argTypes := #[24, 24] }, 24, none, false⟩,
  ⟨some (9, true), .assign (.tmp 30), 24, none, true⟩]
theorem law3_MapWrites_r5_go {K : Env → Heap → Prop} {τ ρ : Env} {h : Heap} : vcOps Try.prog K law3_MapWrites_r5 τ ρ h = vcOps Try.prog K [
  ⟨some (29, false), .move (.tmp 2), 24, none, true⟩,
  ⟨some (30, false), .call { callee := .builtin .append, args := #[.const (.slice none 0 0), .tmp 29], argTypes := #[24, 24] }, 24, none, false⟩,
  ⟨some (9, true), .assign (.tmp 30), 24, none, true⟩] τ ρ h := _root_.id rfl
def law3_MapWrites_r6 : List Sop := [
  ⟨some (32, false), .move (.tmp 0), 22, none, true⟩,
  ⟨some (33, false), .move (.tmp 1), 23, none, true⟩,
  ⟨some (34, false), .move (.tmp 2), 24, none, true⟩,
  ⟨some (35, false), .call { callee := .value (.func 8), args := #[.tmp 32, .tmp 33, .tmp 34], argTypes := #[22, 23, 24] }, 28, none, false⟩,
  ⟨some (31, false), .move (.tmp 35), 28, none, true⟩,
  ⟨some (36, false), .extract (.tmp 31) 0, 9, none, true⟩,
  ⟨some (37, false), .extract (.tmp 31) 1, 27, none, true⟩,
  ⟨some (38, false), .extract (.tmp 31) 2, 3, none, true⟩,
  ⟨some (10, true), .assign (.tmp 36), 9, none, true⟩,
  ⟨some (11, true), .assign (.tmp 37), 27, none, true⟩,
  ⟨some (12, true), .assign (.tmp 38), 3, none, true⟩]
theorem law3_MapWrites_r6_go {K : Env → Heap → Prop} {τ ρ : Env} {h : Heap} : vcOps Try.prog K law3_MapWrites_r6 τ ρ h = vcOps Try.prog K [
  ⟨some (32, false), .move (.tmp 0), 22, none, true⟩,
  ⟨some (33, false), .move (.tmp 1), 23, none, true⟩,
  ⟨some (34, false), .move (.tmp 2), 24, none, true⟩,
  ⟨some (35, false), .call { callee := .value (.func 8), args := #[.tmp 32, .tmp 33, .tmp 34], argTypes := #[22, 23, 24] }, 28, none, false⟩,
  ⟨some (31, false), .move (.tmp 35), 28, none, true⟩,
  ⟨some (36, false), .extract (.tmp 31) 0, 9, none, true⟩,
  ⟨some (37, false), .extract (.tmp 31) 1, 27, none, true⟩,
  ⟨some (38, false), .extract (.tmp 31) 2, 3, none, true⟩,
  ⟨some (10, true), .assign (.tmp 36), 9, none, true⟩,
  ⟨some (11, true), .assign (.tmp 37), 27, none, true⟩,
  ⟨some (12, true), .assign (.tmp 38), 3, none, true⟩] τ ρ h := _root_.id rfl
def law3_MapWrites_r7 : List Sop := [
  ⟨some (40, false), .move (.tmp 7), 22, none, true⟩,
  ⟨some (41, false), .move (.tmp 8), 23, none, true⟩,
  ⟨some (42, false), .move (.tmp 9), 24, none, true⟩,
  ⟨some (43, false), .call { callee := .value (.func 9), args := #[.tmp 40, .tmp 41, .tmp 42], argTypes := #[22, 23, 24] }, 28, none, false⟩,
  ⟨some (39, false), .move (.tmp 43), 28, none, true⟩,
  ⟨some (44, false), .extract (.tmp 39) 0, 9, none, true⟩,
  ⟨some (45, false), .extract (.tmp 39) 1, 27, none, true⟩,
  ⟨some (46, false), .extract (.tmp 39) 2, 3, none, true⟩,
  ⟨some (13, true), .assign (.tmp 44), 9, none, true⟩,
  ⟨some (14, true), .assign (.tmp 45), 27, none, true⟩,
  ⟨some (15, true), .assign (.tmp 46), 3, none, true⟩]
theorem law3_MapWrites_r7_go {K : Env → Heap → Prop} {τ ρ : Env} {h : Heap} : vcOps Try.prog K law3_MapWrites_r7 τ ρ h = vcOps Try.prog K [
  ⟨some (40, false), .move (.tmp 7), 22, none, true⟩,
  ⟨some (41, false), .move (.tmp 8), 23, none, true⟩,
  ⟨some (42, false), .move (.tmp 9), 24, none, true⟩,
  ⟨some (43, false), .call { callee := .value (.func 9), args := #[.tmp 40, .tmp 41, .tmp 42], argTypes := #[22, 23, 24] }, 28, none, false⟩,
  ⟨some (39, false), .move (.tmp 43), 28, none, true⟩,
  ⟨some (44, false), .extract (.tmp 39) 0, 9, none, true⟩,
  ⟨some (45, false), .extract (.tmp 39) 1, 27, none, true⟩,
  ⟨some (46, false), .extract (.tmp 39) 2, 3, none, true⟩,
  ⟨some (13, true), .assign (.tmp 44), 9, none, true⟩,
  ⟨some (14, true), .assign (.tmp 45), 27, none, true⟩,
  ⟨some (15, true), .assign (.tmp 46), 3, none, true⟩] τ ρ h := _root_.id rfl
def law3_MapWrites_r8 : List Sop := [
  ⟨some (47, false), .move (.tmp 10), 9, none, true⟩,
  ⟨some (48, false), .move (.tmp 13), 9, none, true⟩,
  ⟨some (49, false), .binOp .eql 9 (.tmp 47) (.tmp 48) 9, 4, none, true⟩,
  ⟨some (50, false), .move (.tmp 49), 4, none, true⟩,
  ⟨some (51, false), .move (.tmp 11), 27, some (50, true), true⟩,
  ⟨some (52, false), .move (.tmp 14), 27, some (50, true), true⟩,
  ⟨some (53, false), .binOp .eql 27 (.tmp 51) (.tmp 52) 27, 4, some (50, true), true⟩,
  ⟨some (54, false), .pick (.tmp 50) (.tmp 53) (.const (.bool false)), 4, none, true⟩,
  ⟨some (55, false), .move (.tmp 54), 4, none, true⟩,
  ⟨some (56, false), .move (.tmp 12), 3, some (55, true), true⟩,
  ⟨some (57, false), .move (.tmp 15), 3, some (55, true), true⟩,
  ⟨some (58, false), .binOp .eql 3 (.tmp 56) (.tmp 57) 3, 4, some (55, true), true⟩,
  ⟨some (59, false), .pick (.tmp 55) (.tmp 58) (.const (.bool false)), 4, none, true⟩,
  ⟨some (60, false), .move (.tmp 59), 4, none, true⟩,
  ⟨some (61, false), .move (.tmp 0), 22, some (60, true), true⟩,
  ⟨some (62, false), .move (.tmp 7), 22, some (60, true), true⟩,
  ⟨some (63, false), .call { callee := .value (.func 10), args := #[.tmp 61, .tmp 62], argTypes := #[22, 22] }, 4, some (60, true), false⟩,
  ⟨some (64, false), .pick (.tmp 60) (.tmp 63) (.const (.bool false)), 4, none, true⟩,
  ⟨some (65, false), .move (.tmp 64), 4, none, true⟩,
  ⟨some (66, false), .move (.tmp 2), 24, some (65, true), true⟩,
  ⟨some (67, false), .move (.tmp 9), 24, some (65, true), true⟩,
  ⟨some (68, false), .call { callee := .value (.func 11), args := #[.tmp 66, .tmp 67], argTypes := #[24, 24] }, 4, some (65, true), false⟩,
  ⟨some (69, false), .pick (.tmp 65) (.tmp 68) (.const (.bool false)), 4, none, true⟩,
  ⟨some (70, false), .move (.tmp 69), 4, none, true⟩,
  ⟨some (71, false), .move (.tmp 1), 23, some (70, true), true⟩,
  ⟨some (72, false), .move (.tmp 8), 23, some (70, true), true⟩,
  ⟨some (73, false), .call { callee := .value (.func 12), args := #[.tmp 71, .tmp 72], argTypes := #[23, 23] }, 4, some (70, true), false⟩,
  ⟨some (74, false), .pick (.tmp 70) (.tmp 73) (.const (.bool false)), 4, none, true⟩,
  ⟨some (6, true), .assign (.tmp 74), 4, none, true⟩]
theorem law3_MapWrites_r8_go {K : Env → Heap → Prop} {τ ρ : Env} {h : Heap} : vcOps Try.prog K law3_MapWrites_r8 τ ρ h = vcOps Try.prog K [
  ⟨some (47, false), .move (.tmp 10), 9, none, true⟩,
  ⟨some (48, false), .move (.tmp 13), 9, none, true⟩,
  ⟨some (49, false), .binOp .eql 9 (.tmp 47) (.tmp 48) 9, 4, none, true⟩,
  ⟨some (50, false), .move (.tmp 49), 4, none, true⟩,
  ⟨some (51, false), .move (.tmp 11), 27, some (50, true), true⟩,
  ⟨some (52, false), .move (.tmp 14), 27, some (50, true), true⟩,
  ⟨some (53, false), .binOp .eql 27 (.tmp 51) (.tmp 52) 27, 4, some (50, true), true⟩,
  ⟨some (54, false), .pick (.tmp 50) (.tmp 53) (.const (.bool false)), 4, none, true⟩,
  ⟨some (55, false), .move (.tmp 54), 4, none, true⟩,
  ⟨some (56, false), .move (.tmp 12), 3, some (55, true), true⟩,
  ⟨some (57, false), .move (.tmp 15), 3, some (55, true), true⟩,
  ⟨some (58, false), .binOp .eql 3 (.tmp 56) (.tmp 57) 3, 4, some (55, true), true⟩,
  ⟨some (59, false), .pick (.tmp 55) (.tmp 58) (.const (.bool false)), 4, none, true⟩,
  ⟨some (60, false), .move (.tmp 59), 4, none, true⟩,
  ⟨some (61, false), .move (.tmp 0), 22, some (60, true), true⟩,
  ⟨some (62, false), .move (.tmp 7), 22, some (60, true), true⟩,
  ⟨some (63, false), .call { callee := .value (.func 10), args := #[.tmp 61, .tmp 62], argTypes := #[22, 22] }, 4, some (60, true), false⟩,
  ⟨some (64, false), .pick (.tmp 60) (.tmp 63) (.const (.bool false)), 4, none, true⟩,
  ⟨some (65, false), .move (.tmp 64), 4, none, true⟩,
  ⟨some (66, false), .move (.tmp 2), 24, some (65, true), true⟩,
  ⟨some (67, false), .move (.tmp 9), 24, some (65, true), true⟩,
  ⟨some (68, false), .call { callee := .value (.func 11), args := #[.tmp 66, .tmp 67], argTypes := #[24, 24] }, 4, some (65, true), false⟩,
  ⟨some (69, false), .pick (.tmp 65) (.tmp 68) (.const (.bool false)), 4, none, true⟩,
  ⟨some (70, false), .move (.tmp 69), 4, none, true⟩,
  ⟨some (71, false), .move (.tmp 1), 23, some (70, true), true⟩,
  ⟨some (72, false), .move (.tmp 8), 23, some (70, true), true⟩,
  ⟨some (73, false), .call { callee := .value (.func 12), args := #[.tmp 71, .tmp 72], argTypes := #[23, 23] }, 4, some (70, true), false⟩,
  ⟨some (74, false), .pick (.tmp 70) (.tmp 73) (.const (.bool false)), 4, none, true⟩,
  ⟨some (6, true), .assign (.tmp 74), 4, none, true⟩] τ ρ h := _root_.id rfl
def law3_MapWrites : Cd := .seq (.region law3_MapWrites_r0) (.seq (.seq (.region law3_MapWrites_r1) (.cond (.tmp 24) (.seq (.region law3_MapWrites_r2) (.ret)) (.skip))) (.seq (.region law3_MapWrites_r3) (.seq (.region law3_MapWrites_r4) (.seq (.region law3_MapWrites_r5) (.seq (.region law3_MapWrites_r6) (.seq (.region law3_MapWrites_r7) (.seq (.region law3_MapWrites_r8) (.ret))))))))
theorem law3_MapWrites_go {Q : Ex → Env → Heap → Prop} {ρ : Env} {h : Heap} : Cd.vc Try.prog law3_MapWrites Q ρ h = Cd.vc Try.prog (.seq (.region law3_MapWrites_r0) (.seq (.seq (.region law3_MapWrites_r1) (.cond (.tmp 24) (.seq (.region law3_MapWrites_r2) (.ret)) (.skip))) (.seq (.region law3_MapWrites_r3) (.seq (.region law3_MapWrites_r4) (.seq (.region law3_MapWrites_r5) (.seq (.region law3_MapWrites_r6) (.seq (.region law3_MapWrites_r7) (.seq (.region law3_MapWrites_r8) (.ret))))))))) Q ρ h := _root_.id rfl
theorem law3_MapWrites_calls {args : List Value} {h : Heap} {R : Value → Heap → Prop} (hl : args.length = 3) (hv : Cd.vc Try.prog law3_MapWrites (retQ Try.prog [(6, none)] R) (initEnv args [0, 1, 2, 6, 7, 8, 9, 10, 11, 12, 13, 14, 15, 24]) h) : HCalls Try.prog 3 args.toArray h R :=
  hcalls_of_vc (by kernel_rfl) Try.func3 (cd := law3_MapWrites) (L := [0, 1, 2, 6, 7, 8, 9, 10, 11, 12, 13, 14, 15, 24]) (by kernel_rfl) (by kernel_rfl) ⟨by rw [hl, Try.ntmps3]; decide, by rw [Try.ntmps3]; decide⟩ hv
def law3_MapWrites_gos := And.intro @law3_MapWrites_go (And.intro @law3_MapWrites_r0_go (And.intro @law3_MapWrites_r1_go (And.intro @law3_MapWrites_r2_go (And.intro @law3_MapWrites_r3_go (And.intro @law3_MapWrites_r4_go (And.intro @law3_MapWrites_r5_go (And.intro @law3_MapWrites_r6_go (And.intro @law3_MapWrites_r7_go (@law3_MapWrites_r8_go)))))))))

end Go.Proofs.Ythhfbnkmhgadaaa.C
