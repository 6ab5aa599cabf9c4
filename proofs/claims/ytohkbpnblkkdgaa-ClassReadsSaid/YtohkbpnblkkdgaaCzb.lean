/- The stripped code of some functions of this seat's program, printed by a program; that it is that code is proved by the kernel. No condition. -/

import Derived.Test.YtohkbpnblkkdgaaProg

import Derived.Test.YtohkbpnblkkdgaaVcJ

set_option maxRecDepth 100000

set_option linter.defProp false

namespace Go.Proofs.Ytohkbpnblkkdgaa.C

open Go.Vc

/-! jvmcore/jvmcorelaw3.ClassReads: function 6: slots [0, 2, 3, 4, 5, 6, 7, 8, 11] -/
def law3_ClassReads_r0 : List Sop := [
  ⟨some (2, true), .assign (.const (.bool false)), 4, none, true⟩]
def law3_ClassReads_r0_go := @goOps Try.prog _ _ law3_ClassReads_r0.eq_1
def law3_ClassReads_r1 : List Sop := [
  ⟨some (9, false), .move (.tmp 0), 9, none, true⟩,
  ⟨some (10, false), .call { callee := .builtin .len, args := #[.tmp 9], argTypes := #[9] }, 3, none, true⟩,
  ⟨some (11, true), .binOp .gtr 3 (.tmp 10) (.const (.int .i64 32768)) 3, 4, none, true⟩]
def law3_ClassReads_r1_go := @goOps Try.prog _ _ law3_ClassReads_r1.eq_1
def law3_ClassReads_r2 : List Sop := [
  ⟨some (2, true), .assign (.const (.bool true)), 4, none, true⟩]
def law3_ClassReads_r2_go := @goOps Try.prog _ _ law3_ClassReads_r2.eq_1
def law3_ClassReads_r3 : List Sop := [
  ⟨some (13, false), .move (.tmp 0), 9, none, true⟩,
  ⟨some (14, false), .call { callee := .value (.func 19), args := #[.tmp 13], argTypes := #[9] }, 50, none, false⟩,
  ⟨some (12, false), .move (.tmp 14), 50, none, true⟩,
  ⟨some (15, false), .extract (.tmp 12) 0, 43, none, true⟩,
  ⟨some (16, false), .extract (.tmp 12) 1, 27, none, true⟩,
  ⟨some (17, false), .extract (.tmp 12) 2, 3, none, true⟩,
  ⟨some (3, true), .alloc 43, 0, none, false⟩,
  ⟨none, .store 43 (.tmp 3) (.tmp 15), 0, none, false⟩,
  ⟨some (4, true), .assign (.tmp 16), 27, none, true⟩,
  ⟨some (5, true), .assign (.tmp 17), 3, none, true⟩]
def law3_ClassReads_r3_go := @goOps Try.prog _ _ law3_ClassReads_r3.eq_1
def law3_ClassReads_r4 : List Sop := [
  ⟨some (19, false), .move (.tmp 0), 9, none, true⟩,
  ⟨some (20, false), .call { callee := .value (.func 20), args := #[.tmp 19], argTypes := #[9] }, 50, none, false⟩,
  ⟨some (18, false), .move (.tmp 20), 50, none, true⟩,
  ⟨some (21, false), .extract (.tmp 18) 0, 43, none, true⟩,
  ⟨some (22, false), .extract (.tmp 18) 1, 27, none, true⟩,
  ⟨some (23, false), .extract (.tmp 18) 2, 3, none, true⟩,
  ⟨some (6, true), .alloc 43, 0, none, false⟩,
  ⟨none, .store 43 (.tmp 6) (.tmp 21), 0, none, false⟩,
  ⟨some (7, true), .assign (.tmp 22), 27, none, true⟩,
  ⟨some (8, true), .assign (.tmp 23), 3, none, true⟩]
def law3_ClassReads_r4_go := @goOps Try.prog _ _ law3_ClassReads_r4.eq_1
def law3_ClassReads_r5 : List Sop := [
  ⟨some (24, false), .load 43 (.tmp 3), 43, none, true⟩,
  ⟨some (25, false), .load 43 (.tmp 6), 43, none, true⟩,
  ⟨some (26, false), .call { callee := .value (.func 18), args := #[.tmp 24, .tmp 25], argTypes := #[43, 43] }, 4, none, false⟩,
  ⟨some (27, false), .move (.tmp 26), 4, none, true⟩,
  ⟨some (28, false), .move (.tmp 4), 27, some (27, true), true⟩,
  ⟨some (29, false), .move (.tmp 7), 27, some (27, true), true⟩,
  ⟨some (30, false), .binOp .eql 27 (.tmp 28) (.tmp 29) 27, 4, some (27, true), true⟩,
  ⟨some (31, false), .pick (.tmp 27) (.tmp 30) (.const (.bool false)), 4, none, true⟩,
  ⟨some (32, false), .move (.tmp 31), 4, none, true⟩,
  ⟨some (33, false), .move (.tmp 5), 3, some (32, true), true⟩,
  ⟨some (34, false), .move (.tmp 8), 3, some (32, true), true⟩,
  ⟨some (35, false), .binOp .eql 3 (.tmp 33) (.tmp 34) 3, 4, some (32, true), true⟩,
  ⟨some (36, false), .pick (.tmp 32) (.tmp 35) (.const (.bool false)), 4, none, true⟩,
  ⟨some (2, true), .assign (.tmp 36), 4, none, true⟩]
def law3_ClassReads_r5_go := @goOps Try.prog _ _ law3_ClassReads_r5.eq_1
def law3_ClassReads : Cd := .seq (.region law3_ClassReads_r0) (.seq (.seq (.region law3_ClassReads_r1) (.cond (.tmp 11) (.seq (.region law3_ClassReads_r2) (.ret)) (.skip))) (.seq (.region law3_ClassReads_r3) (.seq (.region law3_ClassReads_r4) (.seq (.region law3_ClassReads_r5) (.ret)))))
def law3_ClassReads_go := @goVc Try.prog _ _ law3_ClassReads.eq_1
theorem law3_ClassReads_calls {args : List Value} {h : Heap} {R : Value → Heap → Prop} (hl : args.length = 1) (hv : Cd.vc Try.prog law3_ClassReads (retQ Try.prog [(2, none)] R) (initEnv args [0, 2, 3, 4, 5, 6, 7, 8, 11]) h) : HCalls Try.prog 6 args.toArray h R :=
  hcalls_of_vc (by kernel_rfl) Try.func6 (cd := law3_ClassReads) (L := [0, 2, 3, 4, 5, 6, 7, 8, 11]) (by kernel_rfl) (by kernel_rfl) ⟨by rw [hl, Try.ntmps6]; decide, by rw [Try.ntmps6]; decide⟩ hv
def law3_ClassReads_gos := And.intro @law3_ClassReads_go (And.intro @law3_ClassReads_r0_go (And.intro @law3_ClassReads_r1_go (And.intro @law3_ClassReads_r2_go (And.intro @law3_ClassReads_r3_go (And.intro @law3_ClassReads_r4_go (@law3_ClassReads_r5_go))))))

end Go.Proofs.Ytohkbpnblkkdgaa.C
