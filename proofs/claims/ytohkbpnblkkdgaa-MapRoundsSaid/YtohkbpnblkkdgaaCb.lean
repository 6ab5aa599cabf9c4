/- The stripped code of some functions of this seat's program, printed by a program; that it is that code is proved by the kernel. No condition. -/

import Derived.Test.YtohkbpnblkkdgaaProg

import Derived.Test.YtohkbpnblkkdgaaVcH

set_option maxRecDepth 100000

set_option linter.defProp false

namespace Go.Proofs.Ytohkbpnblkkdgaa.C

open Go.Vc

/-! jvmcore/jvmcorelaw3.sameTypes: function 10: slots [0, 1, 4, 5, 10, 12, 13, 14, 24] -/
def law3_sameTypes_r0 : List Sop := [
  ⟨some (4, true), .assign (.const (.bool false)), 4, none, true⟩]
theorem law3_sameTypes_r0_go {K : Env → Heap → Prop} {τ ρ : Env} {h : Heap} : vcOps Try.prog K law3_sameTypes_r0 τ ρ h = vcOps Try.prog K [
  ⟨some (4, true), .assign (.const (.bool false)), 4, none, true⟩] τ ρ h := _root_.id rfl
def law3_sameTypes_r1 : List Sop := [
  ⟨some (6, false), .move (.tmp 0), 23, none, true⟩,
  ⟨some (7, false), .call { callee := .builtin .len, args := #[.tmp 6], argTypes := #[23] }, 3, none, true⟩,
  ⟨some (8, false), .move (.tmp 1), 23, none, true⟩,
  ⟨some (9, false), .call { callee := .builtin .len, args := #[.tmp 8], argTypes := #[23] }, 3, none, true⟩,
  ⟨some (10, true), .binOp .neq 3 (.tmp 7) (.tmp 9) 3, 4, none, true⟩]
theorem law3_sameTypes_r1_go {K : Env → Heap → Prop} {τ ρ : Env} {h : Heap} : vcOps Try.prog K law3_sameTypes_r1 τ ρ h = vcOps Try.prog K [
  ⟨some (6, false), .move (.tmp 0), 23, none, true⟩,
  ⟨some (7, false), .call { callee := .builtin .len, args := #[.tmp 6], argTypes := #[23] }, 3, none, true⟩,
  ⟨some (8, false), .move (.tmp 1), 23, none, true⟩,
  ⟨some (9, false), .call { callee := .builtin .len, args := #[.tmp 8], argTypes := #[23] }, 3, none, true⟩,
  ⟨some (10, true), .binOp .neq 3 (.tmp 7) (.tmp 9) 3, 4, none, true⟩] τ ρ h := _root_.id rfl
def law3_sameTypes_r2 : List Sop := [
  ⟨some (4, true), .assign (.const (.bool false)), 4, none, true⟩]
theorem law3_sameTypes_r2_go {K : Env → Heap → Prop} {τ ρ : Env} {h : Heap} : vcOps Try.prog K law3_sameTypes_r2 τ ρ h = vcOps Try.prog K [
  ⟨some (4, true), .assign (.const (.bool false)), 4, none, true⟩] τ ρ h := _root_.id rfl
def law3_sameTypes_r3 : List Sop := [
  ⟨some (11, false), .move (.tmp 0), 23, none, true⟩,
  ⟨some (12, true), .call { callee := .builtin .len, args := #[.tmp 11], argTypes := #[23] }, 3, none, true⟩,
  ⟨some (13, true), .move (.const (.int .i64 0)), 3, none, true⟩]
theorem law3_sameTypes_r3_go {K : Env → Heap → Prop} {τ ρ : Env} {h : Heap} : vcOps Try.prog K law3_sameTypes_r3 τ ρ h = vcOps Try.prog K [
  ⟨some (11, false), .move (.tmp 0), 23, none, true⟩,
  ⟨some (12, true), .call { callee := .builtin .len, args := #[.tmp 11], argTypes := #[23] }, 3, none, true⟩,
  ⟨some (13, true), .move (.const (.int .i64 0)), 3, none, true⟩] τ ρ h := _root_.id rfl
def law3_sameTypes_r4 : List Sop := [
  ⟨some (14, true), .binOp .lss 3 (.tmp 13) (.tmp 12) 3, 0, none, true⟩]
theorem law3_sameTypes_r4_go {K : Env → Heap → Prop} {τ ρ : Env} {h : Heap} : vcOps Try.prog K law3_sameTypes_r4 τ ρ h = vcOps Try.prog K [
  ⟨some (14, true), .binOp .lss 3 (.tmp 13) (.tmp 12) 3, 0, none, true⟩] τ ρ h := _root_.id rfl
def law3_sameTypes_r5 : List Sop := [
  ⟨some (15, false), .move (.tmp 13), 3, none, true⟩,
  ⟨some (5, true), .assign (.tmp 15), 3, none, true⟩]
theorem law3_sameTypes_r5_go {K : Env → Heap → Prop} {τ ρ : Env} {h : Heap} : vcOps Try.prog K law3_sameTypes_r5 τ ρ h = vcOps Try.prog K [
  ⟨some (15, false), .move (.tmp 13), 3, none, true⟩,
  ⟨some (5, true), .assign (.tmp 15), 3, none, true⟩] τ ρ h := _root_.id rfl
def law3_sameTypes_r6 : List (Sop × List Sop) := [
  (⟨some (16, false), .move (.tmp 0), 23, none, true⟩, []),
  (⟨some (17, false), .move (.tmp 5), 3, none, true⟩, []),
  (⟨some (18, false), .indexAddr 23 (.tmp 16) (.tmp 17), 0, none, true⟩, []),
  (⟨some (19, false), .load 25 (.tmp 18), 25, none, true⟩, []),
  (⟨some (20, false), .move (.tmp 1), 23, none, true⟩, []),
  (⟨some (21, false), .move (.tmp 5), 3, none, true⟩, []),
  (⟨some (22, false), .indexAddr 23 (.tmp 20) (.tmp 21), 0, none, true⟩, []),
  (⟨some (23, false), .load 25 (.tmp 22), 25, none, true⟩, []),
  (⟨some (24, true), .binOp .neq 25 (.tmp 19) (.tmp 23) 25, 4, none, true⟩, [])]
theorem law3_sameTypes_r6_go {K : Env → Heap → Prop} {τ ρ : Env} {h : Heap} : vcDraw Try.prog K law3_sameTypes_r6 τ ρ h = vcDraw Try.prog K [
  (⟨some (16, false), .move (.tmp 0), 23, none, true⟩, []),
  (⟨some (17, false), .move (.tmp 5), 3, none, true⟩, []),
  (⟨some (18, false), .indexAddr 23 (.tmp 16) (.tmp 17), 0, none, true⟩, []),
  (⟨some (19, false), .load 25 (.tmp 18), 25, none, true⟩, []),
  (⟨some (20, false), .move (.tmp 1), 23, none, true⟩, []),
  (⟨some (21, false), .move (.tmp 5), 3, none, true⟩, []),
  (⟨some (22, false), .indexAddr 23 (.tmp 20) (.tmp 21), 0, none, true⟩, []),
  (⟨some (23, false), .load 25 (.tmp 22), 25, none, true⟩, []),
  (⟨some (24, true), .binOp .neq 25 (.tmp 19) (.tmp 23) 25, 4, none, true⟩, [])] τ ρ h := _root_.id rfl
def law3_sameTypes_r7 : List Sop := [
  ⟨some (4, true), .assign (.const (.bool false)), 4, none, true⟩]
theorem law3_sameTypes_r7_go {K : Env → Heap → Prop} {τ ρ : Env} {h : Heap} : vcOps Try.prog K law3_sameTypes_r7 τ ρ h = vcOps Try.prog K [
  ⟨some (4, true), .assign (.const (.bool false)), 4, none, true⟩] τ ρ h := _root_.id rfl
def law3_sameTypes_r8 : List Sop := [
  ⟨some (25, false), .binOp .add 3 (.tmp 13) (.const (.int .i64 1)) 3, 3, none, true⟩,
  ⟨some (13, true), .move (.tmp 25), 3, none, true⟩]
theorem law3_sameTypes_r8_go {K : Env → Heap → Prop} {τ ρ : Env} {h : Heap} : vcOps Try.prog K law3_sameTypes_r8 τ ρ h = vcOps Try.prog K [
  ⟨some (25, false), .binOp .add 3 (.tmp 13) (.const (.int .i64 1)) 3, 3, none, true⟩,
  ⟨some (13, true), .move (.tmp 25), 3, none, true⟩] τ ρ h := _root_.id rfl
def law3_sameTypes_r9 : List Sop := [
  ⟨some (4, true), .assign (.const (.bool true)), 4, none, true⟩]
theorem law3_sameTypes_r9_go {K : Env → Heap → Prop} {τ ρ : Env} {h : Heap} : vcOps Try.prog K law3_sameTypes_r9 τ ρ h = vcOps Try.prog K [
  ⟨some (4, true), .assign (.const (.bool true)), 4, none, true⟩] τ ρ h := _root_.id rfl
def law3_sameTypes_l0 : Cd := .seq (.region law3_sameTypes_r4) (.seq (.cond (.tmp 14) (.skip) (.exit 0)) (.seq (.block 1 (.seq (.region law3_sameTypes_r5) (.seq (.draw law3_sameTypes_r6) (.cond (.tmp 24) (.seq (.region law3_sameTypes_r7) (.ret)) (.skip))))) (.region law3_sameTypes_r8)))
theorem law3_sameTypes_l0_go {Q : Ex → Env → Heap → Prop} {ρ : Env} {h : Heap} : Cd.vc Try.prog law3_sameTypes_l0 Q ρ h = Cd.vc Try.prog (.seq (.region law3_sameTypes_r4) (.seq (.cond (.tmp 14) (.skip) (.exit 0)) (.seq (.block 1 (.seq (.region law3_sameTypes_r5) (.seq (.draw law3_sameTypes_r6) (.cond (.tmp 24) (.seq (.region law3_sameTypes_r7) (.ret)) (.skip))))) (.region law3_sameTypes_r8)))) Q ρ h := _root_.id rfl
def law3_sameTypes : Cd := .seq (.region law3_sameTypes_r0) (.seq (.seq (.region law3_sameTypes_r1) (.cond (.tmp 10) (.seq (.region law3_sameTypes_r2) (.ret)) (.skip))) (.seq (.seq (.region law3_sameTypes_r3) (.block 0 (.loop law3_sameTypes_l0))) (.seq (.region law3_sameTypes_r9) (.ret))))
theorem law3_sameTypes_go {Q : Ex → Env → Heap → Prop} {ρ : Env} {h : Heap} : Cd.vc Try.prog law3_sameTypes Q ρ h = Cd.vc Try.prog (.seq (.region law3_sameTypes_r0) (.seq (.seq (.region law3_sameTypes_r1) (.cond (.tmp 10) (.seq (.region law3_sameTypes_r2) (.ret)) (.skip))) (.seq (.seq (.region law3_sameTypes_r3) (.block 0 (.loop law3_sameTypes_l0))) (.seq (.region law3_sameTypes_r9) (.ret))))) Q ρ h := _root_.id rfl
theorem law3_sameTypes_calls {args : List Value} {h : Heap} {R : Value → Heap → Prop} (hl : args.length = 2) (hv : Cd.vc Try.prog law3_sameTypes (retQ Try.prog [(4, none)] R) (initEnv args [0, 1, 4, 5, 10, 12, 13, 14, 24]) h) : HCalls Try.prog 10 args.toArray h R :=
  hcalls_of_vc (by kernel_rfl) Try.func10 (cd := law3_sameTypes) (L := [0, 1, 4, 5, 10, 12, 13, 14, 24]) (by kernel_rfl) (by kernel_rfl) ⟨by rw [hl, Try.ntmps10]; decide, by rw [Try.ntmps10]; decide⟩ hv
def law3_sameTypes_gos := And.intro @law3_sameTypes_go (And.intro @law3_sameTypes_r0_go (And.intro @law3_sameTypes_r1_go (And.intro @law3_sameTypes_r2_go (And.intro @law3_sameTypes_r3_go (And.intro @law3_sameTypes_r4_go (And.intro @law3_sameTypes_r5_go (And.intro @law3_sameTypes_r6_go (And.intro @law3_sameTypes_r7_go (And.intro @law3_sameTypes_r8_go (And.intro @law3_sameTypes_r9_go (@law3_sameTypes_l0_go)))))))))))

/-! jvmcore/jvmcorelaw3.sameFrames: function 11: slots [0, 1, 4, 5, 10, 12, 13, 14, 54] -/
def law3_sameFrames_r0 : List Sop := [
  ⟨some (4, true), .assign (.const (.bool false)), 4, none, true⟩]
theorem law3_sameFrames_r0_go {K : Env → Heap → Prop} {τ ρ : Env} {h : Heap} : vcOps Try.prog K law3_sameFrames_r0 τ ρ h = vcOps Try.prog K [
  ⟨some (4, true), .assign (.const (.bool false)), 4, none, true⟩] τ ρ h := _root_.id rfl
def law3_sameFrames_r1 : List Sop := [
  ⟨some (6, false), .move (.tmp 0), 26, none, true⟩,
  ⟨some (7, false), .call { callee := .builtin .len, args := #[.tmp 6], argTypes := #[26] }, 3, none, true⟩,
  ⟨some (8, false), .move (.tmp 1), 26, none, true⟩,
  ⟨some (9, false), .call { callee := .builtin .len, args := #[.tmp 8], argTypes := #[26] }, 3, none, true⟩,
  ⟨some (10, true), .binOp .neq 3 (.tmp 7) (.tmp 9) 3, 4, none, true⟩]
theorem law3_sameFrames_r1_go {K : Env → Heap → Prop} {τ ρ : Env} {h : Heap} : vcOps Try.prog K law3_sameFrames_r1 τ ρ h = vcOps Try.prog K [
  ⟨some (6, false), .move (.tmp 0), 26, none, true⟩,
  ⟨some (7, false), .call { callee := .builtin .len, args := #[.tmp 6], argTypes := #[26] }, 3, none, true⟩,
  ⟨some (8, false), .move (.tmp 1), 26, none, true⟩,
  ⟨some (9, false), .call { callee := .builtin .len, args := #[.tmp 8], argTypes := #[26] }, 3, none, true⟩,
  ⟨some (10, true), .binOp .neq 3 (.tmp 7) (.tmp 9) 3, 4, none, true⟩] τ ρ h := _root_.id rfl
def law3_sameFrames_r2 : List Sop := [
  ⟨some (4, true), .assign (.const (.bool false)), 4, none, true⟩]
theorem law3_sameFrames_r2_go {K : Env → Heap → Prop} {τ ρ : Env} {h : Heap} : vcOps Try.prog K law3_sameFrames_r2 τ ρ h = vcOps Try.prog K [
  ⟨some (4, true), .assign (.const (.bool false)), 4, none, true⟩] τ ρ h := _root_.id rfl
def law3_sameFrames_r3 : List Sop := [
  ⟨some (11, false), .move (.tmp 0), 26, none, true⟩,
  ⟨some (12, true), .call { callee := .builtin .len, args := #[.tmp 11], argTypes := #[26] }, 3, none, true⟩,
  ⟨some (13, true), .move (.const (.int .i64 0)), 3, none, true⟩]
theorem law3_sameFrames_r3_go {K : Env → Heap → Prop} {τ ρ : Env} {h : Heap} : vcOps Try.prog K law3_sameFrames_r3 τ ρ h = vcOps Try.prog K [
  ⟨some (11, false), .move (.tmp 0), 26, none, true⟩,
  ⟨some (12, true), .call { callee := .builtin .len, args := #[.tmp 11], argTypes := #[26] }, 3, none, true⟩,
  ⟨some (13, true), .move (.const (.int .i64 0)), 3, none, true⟩] τ ρ h := _root_.id rfl
def law3_sameFrames_r4 : List Sop := [
  ⟨some (14, true), .binOp .lss 3 (.tmp 13) (.tmp 12) 3, 0, none, true⟩]
theorem law3_sameFrames_r4_go {K : Env → Heap → Prop} {τ ρ : Env} {h : Heap} : vcOps Try.prog K law3_sameFrames_r4 τ ρ h = vcOps Try.prog K [
  ⟨some (14, true), .binOp .lss 3 (.tmp 13) (.tmp 12) 3, 0, none, true⟩] τ ρ h := _root_.id rfl
def law3_sameFrames_r5 : List Sop := [
  ⟨some (15, false), .move (.tmp 13), 3, none, true⟩,
  ⟨some (5, true), .assign (.tmp 15), 3, none, true⟩]
theorem law3_sameFrames_r5_go {K : Env → Heap → Prop} {τ ρ : Env} {h : Heap} : vcOps Try.prog K law3_sameFrames_r5 τ ρ h = vcOps Try.prog K [
  ⟨some (15, false), .move (.tmp 13), 3, none, true⟩,
  ⟨some (5, true), .assign (.tmp 15), 3, none, true⟩] τ ρ h := _root_.id rfl
def law3_sameFrames_r6 : List (Sop × List Sop) := [
  (⟨some (16, false), .move (.tmp 0), 26, none, true⟩, []),
  (⟨some (17, false), .move (.tmp 5), 3, none, true⟩, []),
  (⟨some (18, false), .indexAddr 26 (.tmp 16) (.tmp 17), 0, none, true⟩, []),
  (⟨some (19, false), .fieldAddr 35 (.tmp 18) 0, 0, none, true⟩, []),
  (⟨some (20, false), .load 3 (.tmp 19), 3, none, true⟩, []),
  (⟨some (21, false), .move (.tmp 1), 26, none, true⟩, []),
  (⟨some (22, false), .move (.tmp 5), 3, none, true⟩, []),
  (⟨some (23, false), .indexAddr 26 (.tmp 21) (.tmp 22), 0, none, true⟩, []),
  (⟨some (24, false), .fieldAddr 35 (.tmp 23) 0, 0, none, true⟩, []),
  (⟨some (25, false), .load 3 (.tmp 24), 3, none, true⟩, []),
  (⟨some (26, false), .binOp .neq 3 (.tmp 20) (.tmp 25) 3, 4, none, true⟩, []),
  (⟨some (27, false), .move (.tmp 26), 4, none, true⟩, []),
  (⟨some (28, false), .move (.tmp 0), 26, some (27, false), true⟩, []),
  (⟨some (29, false), .move (.tmp 5), 3, some (27, false), true⟩, []),
  (⟨some (30, false), .indexAddr 26 (.tmp 28) (.tmp 29), 0, some (27, false), true⟩, []),
  (⟨some (31, false), .fieldAddr 35 (.tmp 30) 1, 0, some (27, false), true⟩, []),
  (⟨some (32, false), .load 23 (.tmp 31), 23, some (27, false), true⟩, []),
  (⟨some (33, false), .move (.tmp 1), 26, some (27, false), true⟩, []),
  (⟨some (34, false), .move (.tmp 5), 3, some (27, false), true⟩, []),
  (⟨some (35, false), .indexAddr 26 (.tmp 33) (.tmp 34), 0, some (27, false), true⟩, []),
  (⟨some (36, false), .fieldAddr 35 (.tmp 35) 1, 0, some (27, false), true⟩, []),
  (⟨some (37, false), .load 23 (.tmp 36), 23, some (27, false), true⟩, []),
  (⟨some (38, false), .call { callee := .value (.func 10), args := #[.tmp 32, .tmp 37], argTypes := #[23, 23] }, 4, some (27, false), false⟩, []),
  (⟨some (39, false), .unOp .not 4 (.tmp 38), 4, some (27, false), true⟩, []),
  (⟨some (40, false), .pick (.tmp 27) (.const (.bool true)) (.tmp 39), 4, none, true⟩, []),
  (⟨some (41, false), .move (.tmp 40), 4, none, true⟩, []),
  (⟨some (42, false), .move (.tmp 0), 26, some (41, false), true⟩, []),
  (⟨some (43, false), .move (.tmp 5), 3, some (41, false), true⟩, []),
  (⟨some (44, false), .indexAddr 26 (.tmp 42) (.tmp 43), 0, some (41, false), true⟩, []),
  (⟨some (45, false), .fieldAddr 35 (.tmp 44) 2, 0, some (41, false), true⟩, []),
  (⟨some (46, false), .load 23 (.tmp 45), 23, some (41, false), true⟩, []),
  (⟨some (47, false), .move (.tmp 1), 26, some (41, false), true⟩, []),
  (⟨some (48, false), .move (.tmp 5), 3, some (41, false), true⟩, []),
  (⟨some (49, false), .indexAddr 26 (.tmp 47) (.tmp 48), 0, some (41, false), true⟩, []),
  (⟨some (50, false), .fieldAddr 35 (.tmp 49) 2, 0, some (41, false), true⟩, []),
  (⟨some (51, false), .load 23 (.tmp 50), 23, some (41, false), true⟩, []),
  (⟨some (52, false), .call { callee := .value (.func 10), args := #[.tmp 46, .tmp 51], argTypes := #[23, 23] }, 4, some (41, false), false⟩, []),
  (⟨some (53, false), .unOp .not 4 (.tmp 52), 4, some (41, false), true⟩, []),
  (⟨some (54, true), .pick (.tmp 41) (.const (.bool true)) (.tmp 53), 4, none, true⟩, [])]
theorem law3_sameFrames_r6_go {K : Env → Heap → Prop} {τ ρ : Env} {h : Heap} : vcDraw Try.prog K law3_sameFrames_r6 τ ρ h = vcDraw Try.prog K [
  (⟨some (16, false), .move (.tmp 0), 26, none, true⟩, []),
  (⟨some (17, false), .move (.tmp 5), 3, none, true⟩, []),
  (⟨some (18, false), .indexAddr 26 (.tmp 16) (.tmp 17), 0, none, true⟩, []),
  (⟨some (19, false), .fieldAddr 35 (.tmp 18) 0, 0, none, true⟩, []),
  (⟨some (20, false), .load 3 (.tmp 19), 3, none, true⟩, []),
  (⟨some (21, false), .move (.tmp 1), 26, none, true⟩, []),
  (⟨some (22, false), .move (.tmp 5), 3, none, true⟩, []),
  (⟨some (23, false), .indexAddr 26 (.tmp 21) (.tmp 22), 0, none, true⟩, []),
  (⟨some (24, false), .fieldAddr 35 (.tmp 23) 0, 0, none, true⟩, []),
  (⟨some (25, false), .load 3 (.tmp 24), 3, none, true⟩, []),
  (⟨some (26, false), .binOp .neq 3 (.tmp 20) (.tmp 25) 3, 4, none, true⟩, []),
  (⟨some (27, false), .move (.tmp 26), 4, none, true⟩, []),
  (⟨some (28, false), .move (.tmp 0), 26, some (27, false), true⟩, []),
  (⟨some (29, false), .move (.tmp 5), 3, some (27, false), true⟩, []),
  (⟨some (30, false), .indexAddr 26 (.tmp 28) (.tmp 29), 0, some (27, false), true⟩, []),
  (⟨some (31, false), .fieldAddr 35 (.tmp 30) 1, 0, some (27, false), true⟩, []),
  (⟨some (32, false), .load 23 (.tmp 31), 23, some (27, false), true⟩, []),
  (⟨some (33, false), .move (.tmp 1), 26, some (27, false), true⟩, []),
  (⟨some (34, false), .move (.tmp 5), 3, some (27, false), true⟩, []),
  (⟨some (35, false), .indexAddr 26 (.tmp 33) (.tmp 34), 0, some (27, false), true⟩, []),
  (⟨some (36, false), .fieldAddr 35 (.tmp 35) 1, 0, some (27, false), true⟩, []),
  (⟨some (37, false), .load 23 (.tmp 36), 23, some (27, false), true⟩, []),
  (⟨some (38, false), .call { callee := .value (.func 10), args := #[.tmp 32, .tmp 37], argTypes := #[23, 23] }, 4, some (27, false), false⟩, []),
  (⟨some (39, false), .unOp .not 4 (.tmp 38), 4, some (27, false), true⟩, []),
  (⟨some (40, false), .pick (.tmp 27) (.const (.bool true)) (.tmp 39), 4, none, true⟩, []),
  (⟨some (41, false), .move (.tmp 40), 4, none, true⟩, []),
  (⟨some (42, false), .move (.tmp 0), 26, some (41, false), true⟩, []),
  (⟨some (43, false), .move (.tmp 5), 3, some (41, false), true⟩, []),
  (⟨some (44, false), .indexAddr 26 (.tmp 42) (.tmp 43), 0, some (41, false), true⟩, []),
  (⟨some (45, false), .fieldAddr 35 (.tmp 44) 2, 0, some (41, false), true⟩, []),
  (⟨some (46, false), .load 23 (.tmp 45), 23, some (41, false), true⟩, []),
  (⟨some (47, false), .move (.tmp 1), 26, some (41, false), true⟩, []),
  (⟨some (48, false), .move (.tmp 5), 3, some (41, false), true⟩, []),
  (⟨some (49, false), .indexAddr 26 (.tmp 47) (.tmp 48), 0, some (41, false), true⟩, []),
  (⟨some (50, false), .fieldAddr 35 (.tmp 49) 2, 0, some (41, false), true⟩, []),
  (⟨some (51, false), .load 23 (.tmp 50), 23, some (41, false), true⟩, []),
  (⟨some (52, false), .call { callee := .value (.func 10), args := #[.tmp 46, .tmp 51], argTypes := #[23, 23] }, 4, some (41, false), false⟩, []),
  (⟨some (53, false), .unOp .not 4 (.tmp 52), 4, some (41, false), true⟩, []),
  (⟨some (54, true), .pick (.tmp 41) (.const (.bool true)) (.tmp 53), 4, none, true⟩, [])] τ ρ h := _root_.id rfl
def law3_sameFrames_r7 : List Sop := [
  ⟨some (4, true), .assign (.const (.bool false)), 4, none, true⟩]
theorem law3_sameFrames_r7_go {K : Env → Heap → Prop} {τ ρ : Env} {h : Heap} : vcOps Try.prog K law3_sameFrames_r7 τ ρ h = vcOps Try.prog K [
  ⟨some (4, true), .assign (.const (.bool false)), 4, none, true⟩] τ ρ h := _root_.id rfl
def law3_sameFrames_r8 : List Sop := [
  ⟨some (55, false), .binOp .add 3 (.tmp 13) (.const (.int .i64 1)) 3, 3, none, true⟩,
  ⟨some (13, true), .move (.tmp 55), 3, none, true⟩]
theorem law3_sameFrames_r8_go {K : Env → Heap → Prop} {τ ρ : Env} {h : Heap} : vcOps Try.prog K law3_sameFrames_r8 τ ρ h = vcOps Try.prog K [
  ⟨some (55, false), .binOp .add 3 (.tmp 13) (.const (.int .i64 1)) 3, 3, none, true⟩,
  ⟨some (13, true), .move (.tmp 55), 3, none, true⟩] τ ρ h := _root_.id rfl
def law3_sameFrames_r9 : List Sop := [
  ⟨some (4, true), .assign (.const (.bool true)), 4, none, true⟩]
theorem law3_sameFrames_r9_go {K : Env → Heap → Prop} {τ ρ : Env} {h : Heap} : vcOps Try.prog K law3_sameFrames_r9 τ ρ h = vcOps Try.prog K [
  ⟨some (4, true), .assign (.const (.bool true)), 4, none, true⟩] τ ρ h := _root_.id rfl
def law3_sameFrames_l0 : Cd := .seq (.region law3_sameFrames_r4) (.seq (.cond (.tmp 14) (.skip) (.exit 0)) (.seq (.block 1 (.seq (.region law3_sameFrames_r5) (.seq (.draw law3_sameFrames_r6) (.cond (.tmp 54) (.seq (.region law3_sameFrames_r7) (.ret)) (.skip))))) (.region law3_sameFrames_r8)))
theorem law3_sameFrames_l0_go {Q : Ex → Env → Heap → Prop} {ρ : Env} {h : Heap} : Cd.vc Try.prog law3_sameFrames_l0 Q ρ h = Cd.vc Try.prog (.seq (.region law3_sameFrames_r4) (.seq (.cond (.tmp 14) (.skip) (.exit 0)) (.seq (.block 1 (.seq (.region law3_sameFrames_r5) (.seq (.draw law3_sameFrames_r6) (.cond (.tmp 54) (.seq (.region law3_sameFrames_r7) (.ret)) (.skip))))) (.region law3_sameFrames_r8)))) Q ρ h := _root_.id rfl
def law3_sameFrames : Cd := .seq (.region law3_sameFrames_r0) (.seq (.seq (.region law3_sameFrames_r1) (.cond (.tmp 10) (.seq (.region law3_sameFrames_r2) (.ret)) (.skip))) (.seq (.seq (.region law3_sameFrames_r3) (.block 0 (.loop law3_sameFrames_l0))) (.seq (.region law3_sameFrames_r9) (.ret))))
theorem law3_sameFrames_go {Q : Ex → Env → Heap → Prop} {ρ : Env} {h : Heap} : Cd.vc Try.prog law3_sameFrames Q ρ h = Cd.vc Try.prog (.seq (.region law3_sameFrames_r0) (.seq (.seq (.region law3_sameFrames_r1) (.cond (.tmp 10) (.seq (.region law3_sameFrames_r2) (.ret)) (.skip))) (.seq (.seq (.region law3_sameFrames_r3) (.block 0 (.loop law3_sameFrames_l0))) (.seq (.region law3_sameFrames_r9) (.ret))))) Q ρ h := _root_.id rfl
theorem law3_sameFrames_calls {args : List Value} {h : Heap} {R : Value → Heap → Prop} (hl : args.length = 2) (hv : Cd.vc Try.prog law3_sameFrames (retQ Try.prog [(4, none)] R) (initEnv args [0, 1, 4, 5, 10, 12, 13, 14, 54]) h) : HCalls Try.prog 11 args.toArray h R :=
  hcalls_of_vc (by kernel_rfl) Try.func11 (cd := law3_sameFrames) (L := [0, 1, 4, 5, 10, 12, 13, 14, 54]) (by kernel_rfl) (by kernel_rfl) ⟨by rw [hl, Try.ntmps11]; decide, by rw [Try.ntmps11]; decide⟩ hv
def law3_sameFrames_gos := And.intro @law3_sameFrames_go (And.intro @law3_sameFrames_r0_go (And.intro @law3_sameFrames_r1_go (And.intro @law3_sameFrames_r2_go (And.intro @law3_sameFrames_r3_go (And.intro @law3_sameFrames_r4_go (And.intro @law3_sameFrames_r5_go (And.intro @law3_sameFrames_r6_go (And.intro @law3_sameFrames_r7_go (And.intro @law3_sameFrames_r8_go (And.intro @law3_sameFrames_r9_go (@law3_sameFrames_l0_go)))))))))))

end Go.Proofs.Ytohkbpnblkkdgaa.C
