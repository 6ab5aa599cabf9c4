/- The stripped code of some functions of this seat's program, printed by a program; that it is that code is proved by the kernel. No condition. -/

import Derived.Test.YtgdmoimclelfhaaDoorProg

import Derived.Test.YtgdmoimclelfhaaDoorVcJ

set_option maxRecDepth 100000

set_option linter.defProp false

namespace Go.Proofs.YtgdmoimclelfhaaDoor.C

open Go.Vc

/-! jvmcore/jvmcorelaw2.same: function 8: slots [0, 1, 4, 5, 6, 7, 12, 14, 15, 16, 81] -/
def law2_same_r0 : List Sop := [
  sw 4 (.assign (.const (.bool false))) 4]
def law2_same_r1 : List Sop := [
  sq 8 (.move (.tmp 0)) 22,
  sq 9 (.call { callee := .builtin .len, args := #[.tmp 8], argTypes := #[22] }) 3,
  sq 10 (.move (.tmp 1)) 22,
  sq 11 (.call { callee := .builtin .len, args := #[.tmp 10], argTypes := #[22] }) 3,
  sw 12 (.binOp .neq 3 (.tmp 9) (.tmp 11) 3) 4]
def law2_same_r2 : List Sop := [
  sw 4 (.assign (.const (.bool false))) 4]
def law2_same_r3 : List Sop := [
  sq 13 (.move (.tmp 0)) 22,
  sw 14 (.call { callee := .builtin .len, args := #[.tmp 13], argTypes := #[22] }) 3,
  sw 15 (.move (.const (.int .i64 0))) 3]
def law2_same_r4 : List Sop := [
  sw 16 (.binOp .lss 3 (.tmp 15) (.tmp 14) 3) 0]
def law2_same_r5 : List Sop := [
  sq 17 (.move (.tmp 15)) 3,
  sw 5 (.assign (.tmp 17)) 3]
def law2_same_r6 : List Sop := [
  sq 18 (.move (.tmp 0)) 22,
  sq 19 (.move (.tmp 5)) 3,
  sq 20 (.indexAddr 22 (.tmp 18) (.tmp 19)) 0,
  sq 21 (.load 37 (.tmp 20)) 37,
  sa 6 (.alloc 37) 0,
  ss (.store 37 (.tmp 6) (.tmp 21))]
def law2_same_r7 : List Sop := [
  sq 22 (.move (.tmp 1)) 22,
  sq 23 (.move (.tmp 5)) 3,
  sq 24 (.indexAddr 22 (.tmp 22) (.tmp 23)) 0,
  sq 25 (.load 37 (.tmp 24)) 37,
  sa 7 (.alloc 37) 0,
  ss (.store 37 (.tmp 7) (.tmp 25))]
def law2_same_r8 : List Sop := [
  sq 26 (.fieldAddr 37 (.tmp 6) 0) 0,
  sq 27 (.load 3 (.tmp 26)) 3,
  sq 28 (.fieldAddr 37 (.tmp 7) 0) 0,
  sq 29 (.load 3 (.tmp 28)) 3,
  sq 30 (.binOp .neq 3 (.tmp 27) (.tmp 29) 3) 4,
  sq 31 (.move (.tmp 30)) 4,
  ⟨some (32, false), .fieldAddr 37 (.tmp 6) 1, 0, some (31, false), true⟩,
  ⟨some (33, false), .load 5 (.tmp 32), 5, some (31, false), true⟩,
  ⟨some (34, false), .fieldAddr 37 (.tmp 7) 1, 0, some (31, false), true⟩,
  ⟨some (35, false), .load 5 (.tmp 34), 5, some (31, false), true⟩,
  ⟨some (36, false), .binOp .neq 5 (.tmp 33) (.tmp 35) 5, 4, some (31, false), true⟩,
  sq 37 (.pick (.tmp 31) (.const (.bool true)) (.tmp 36)) 4,
  sq 38 (.move (.tmp 37)) 4,
  ⟨some (39, false), .fieldAddr 37 (.tmp 6) 2, 0, some (38, false), true⟩,
  ⟨some (40, false), .load 4 (.tmp 39), 4, some (38, false), true⟩,
  ⟨some (41, false), .fieldAddr 37 (.tmp 7) 2, 0, some (38, false), true⟩,
  ⟨some (42, false), .load 4 (.tmp 41), 4, some (38, false), true⟩,
  ⟨some (43, false), .binOp .neq 4 (.tmp 40) (.tmp 42) 4, 4, some (38, false), true⟩,
  sq 44 (.pick (.tmp 38) (.const (.bool true)) (.tmp 43)) 4,
  sq 45 (.move (.tmp 44)) 4,
  ⟨some (46, false), .fieldAddr 37 (.tmp 6) 3, 0, some (45, false), true⟩,
  ⟨some (47, false), .load 3 (.tmp 46), 3, some (45, false), true⟩,
  ⟨some (48, false), .fieldAddr 37 (.tmp 7) 3, 0, some (45, false), true⟩,
  ⟨some (49, false), .load 3 (.tmp 48), 3, some (45, false), true⟩,
  ⟨some (50, false), .binOp .neq 3 (.tmp 47) (.tmp 49) 3, 4, some (45, false), true⟩,
  sq 51 (.pick (.tmp 45) (.const (.bool true)) (.tmp 50)) 4,
  sq 52 (.move (.tmp 51)) 4,
  ⟨some (53, false), .fieldAddr 37 (.tmp 6) 4, 0, some (52, false), true⟩,
  ⟨some (54, false), .load 3 (.tmp 53), 3, some (52, false), true⟩,
  ⟨some (55, false), .fieldAddr 37 (.tmp 7) 4, 0, some (52, false), true⟩,
  ⟨some (56, false), .load 3 (.tmp 55), 3, some (52, false), true⟩,
  ⟨some (57, false), .binOp .neq 3 (.tmp 54) (.tmp 56) 3, 4, some (52, false), true⟩,
  sq 58 (.pick (.tmp 52) (.const (.bool true)) (.tmp 57)) 4,
  sq 59 (.move (.tmp 58)) 4,
  ⟨some (60, false), .fieldAddr 37 (.tmp 6) 5, 0, some (59, false), true⟩,
  ⟨some (61, false), .load 3 (.tmp 60), 3, some (59, false), true⟩,
  ⟨some (62, false), .fieldAddr 37 (.tmp 7) 5, 0, some (59, false), true⟩,
  ⟨some (63, false), .load 3 (.tmp 62), 3, some (59, false), true⟩,
  ⟨some (64, false), .binOp .neq 3 (.tmp 61) (.tmp 63) 3, 4, some (59, false), true⟩,
  sq 65 (.pick (.tmp 59) (.const (.bool true)) (.tmp 64)) 4,
  sq 66 (.move (.tmp 65)) 4,
  ⟨some (67, false), .fieldAddr 37 (.tmp 6) 6, 0, some (66, false), true⟩,
  ⟨some (68, false), .load 35 (.tmp 67), 35, some (66, false), true⟩,
  ⟨some (69, false), .fieldAddr 37 (.tmp 7) 6, 0, some (66, false), true⟩,
  ⟨some (70, false), .load 35 (.tmp 69), 35, some (66, false), true⟩,
  ⟨some (71, false), .call { callee := .value (.func 13), args := #[.tmp 68, .tmp 70], argTypes := #[35, 35] }, 4, some (66, false), false⟩,
  ⟨some (72, false), .unOp .not 4 (.tmp 71), 4, some (66, false), true⟩,
  sq 73 (.pick (.tmp 66) (.const (.bool true)) (.tmp 72)) 4,
  sq 74 (.move (.tmp 73)) 4,
  ⟨some (75, false), .fieldAddr 37 (.tmp 6) 7, 0, some (74, false), true⟩,
  ⟨some (76, false), .load 35 (.tmp 75), 35, some (74, false), true⟩,
  ⟨some (77, false), .fieldAddr 37 (.tmp 7) 7, 0, some (74, false), true⟩,
  ⟨some (78, false), .load 35 (.tmp 77), 35, some (74, false), true⟩,
  ⟨some (79, false), .call { callee := .value (.func 13), args := #[.tmp 76, .tmp 78], argTypes := #[35, 35] }, 4, some (74, false), false⟩,
  ⟨some (80, false), .unOp .not 4 (.tmp 79), 4, some (74, false), true⟩,
  sw 81 (.pick (.tmp 74) (.const (.bool true)) (.tmp 80)) 4]
def law2_same_r9 : List Sop := [
  sw 4 (.assign (.const (.bool false))) 4]
def law2_same_r10 : List Sop := [
  sq 82 (.binOp .add 3 (.tmp 15) (.const (.int .i64 1)) 3) 3,
  sw 15 (.move (.tmp 82)) 3]
def law2_same_r11 : List Sop := [
  sw 4 (.assign (.const (.bool true))) 4]
def law2_same_l0 : Cd := .seq (.region law2_same_r4) (.seq (.cond (.tmp 16) (.skip) (.exit 0)) (.seq (.block 1 (.seq (.region law2_same_r5) (.seq (.region law2_same_r6) (.seq (.region law2_same_r7) (.seq (.region law2_same_r8) (.cond (.tmp 81) (.seq (.region law2_same_r9) (.ret)) (.skip))))))) (.region law2_same_r10)))
def law2_same : Cd := .seq (.region law2_same_r0) (.seq (.seq (.region law2_same_r1) (.cond (.tmp 12) (.seq (.region law2_same_r2) (.ret)) (.skip))) (.seq (.seq (.region law2_same_r3) (.block 0 (.loop law2_same_l0))) (.seq (.region law2_same_r11) (.ret))))
theorem law2_same_calls {args : List Value} {h : Heap} {R : Value → Heap → Prop} (hl : args.length = 2) (hv : Cd.vc Tryd.prog law2_same (retQ Tryd.prog [(4, none)] R) (initEnv args [0, 1, 4, 5, 6, 7, 12, 14, 15, 16, 81]) h) : HCalls Tryd.prog 8 args.toArray h R :=
  hcalls_of_vc (by kernel_rfl) Tryd.func8 (cd := law2_same) (L := [0, 1, 4, 5, 6, 7, 12, 14, 15, 16, 81]) (by kernel_rfl) (by kernel_rfl) ⟨by rw [hl, Tryd.ntmps8]; decide, by rw [Tryd.ntmps8]; decide⟩ hv
def law2_same_gos := And.intro (@goVc Tryd.prog _ _ law2_same.eq_1) (And.intro (@goOps Tryd.prog _ _ law2_same_r0.eq_1) (And.intro (@goOps Tryd.prog _ _ law2_same_r1.eq_1) (And.intro (@goOps Tryd.prog _ _ law2_same_r2.eq_1) (And.intro (@goOps Tryd.prog _ _ law2_same_r3.eq_1) (And.intro (@goOps Tryd.prog _ _ law2_same_r4.eq_1) (And.intro (@goOps Tryd.prog _ _ law2_same_r5.eq_1) (And.intro (@goOps Tryd.prog _ _ law2_same_r6.eq_1) (And.intro (@goOps Tryd.prog _ _ law2_same_r7.eq_1) (And.intro (@goOps Tryd.prog _ _ law2_same_r8.eq_1) (And.intro (@goOps Tryd.prog _ _ law2_same_r9.eq_1) (And.intro (@goOps Tryd.prog _ _ law2_same_r10.eq_1) (And.intro (@goOps Tryd.prog _ _ law2_same_r11.eq_1) (@goVc Tryd.prog _ _ law2_same_l0.eq_1)))))))))))))

/-! jvmcore/jvmcorelaw2.sameInts: function 13: slots [0, 1, 4, 5, 10, 12, 13, 14, 24] -/
def law2_sameInts_r0 : List Sop := [
  sw 4 (.assign (.const (.bool false))) 4]
def law2_sameInts_r1 : List Sop := [
  sq 6 (.move (.tmp 0)) 35,
  sq 7 (.call { callee := .builtin .len, args := #[.tmp 6], argTypes := #[35] }) 3,
  sq 8 (.move (.tmp 1)) 35,
  sq 9 (.call { callee := .builtin .len, args := #[.tmp 8], argTypes := #[35] }) 3,
  sw 10 (.binOp .neq 3 (.tmp 7) (.tmp 9) 3) 4]
def law2_sameInts_r2 : List Sop := [
  sw 4 (.assign (.const (.bool false))) 4]
def law2_sameInts_r3 : List Sop := [
  sq 11 (.move (.tmp 0)) 35,
  sw 12 (.call { callee := .builtin .len, args := #[.tmp 11], argTypes := #[35] }) 3,
  sw 13 (.move (.const (.int .i64 0))) 3]
def law2_sameInts_r4 : List Sop := [
  sw 14 (.binOp .lss 3 (.tmp 13) (.tmp 12) 3) 0]
def law2_sameInts_r5 : List Sop := [
  sq 15 (.move (.tmp 13)) 3,
  sw 5 (.assign (.tmp 15)) 3]
def law2_sameInts_r6 : List (Sop × List Sop) := [
  (sq 16 (.move (.tmp 0)) 35, []),
  (sq 17 (.move (.tmp 5)) 3, []),
  (sq 18 (.indexAddr 35 (.tmp 16) (.tmp 17)) 0, []),
  (sq 19 (.load 3 (.tmp 18)) 3, []),
  (sq 20 (.move (.tmp 1)) 35, []),
  (sq 21 (.move (.tmp 5)) 3, []),
  (sq 22 (.indexAddr 35 (.tmp 20) (.tmp 21)) 0, []),
  (sq 23 (.load 3 (.tmp 22)) 3, []),
  (sw 24 (.binOp .neq 3 (.tmp 19) (.tmp 23) 3) 4, [])]
def law2_sameInts_r7 : List Sop := [
  sw 4 (.assign (.const (.bool false))) 4]
def law2_sameInts_r8 : List Sop := [
  sq 25 (.binOp .add 3 (.tmp 13) (.const (.int .i64 1)) 3) 3,
  sw 13 (.move (.tmp 25)) 3]
def law2_sameInts_r9 : List Sop := [
  sw 4 (.assign (.const (.bool true))) 4]
def law2_sameInts_l0 : Cd := .seq (.region law2_sameInts_r4) (.seq (.cond (.tmp 14) (.skip) (.exit 0)) (.seq (.block 1 (.seq (.region law2_sameInts_r5) (.seq (.draw law2_sameInts_r6) (.cond (.tmp 24) (.seq (.region law2_sameInts_r7) (.ret)) (.skip))))) (.region law2_sameInts_r8)))
def law2_sameInts : Cd := .seq (.region law2_sameInts_r0) (.seq (.seq (.region law2_sameInts_r1) (.cond (.tmp 10) (.seq (.region law2_sameInts_r2) (.ret)) (.skip))) (.seq (.seq (.region law2_sameInts_r3) (.block 0 (.loop law2_sameInts_l0))) (.seq (.region law2_sameInts_r9) (.ret))))
theorem law2_sameInts_calls {args : List Value} {h : Heap} {R : Value → Heap → Prop} (hl : args.length = 2) (hv : Cd.vc Tryd.prog law2_sameInts (retQ Tryd.prog [(4, none)] R) (initEnv args [0, 1, 4, 5, 10, 12, 13, 14, 24]) h) : HCalls Tryd.prog 13 args.toArray h R :=
  hcalls_of_vc (by kernel_rfl) Tryd.func13 (cd := law2_sameInts) (L := [0, 1, 4, 5, 10, 12, 13, 14, 24]) (by kernel_rfl) (by kernel_rfl) ⟨by rw [hl, Tryd.ntmps13]; decide, by rw [Tryd.ntmps13]; decide⟩ hv
def law2_sameInts_gos := And.intro (@goVc Tryd.prog _ _ law2_sameInts.eq_1) (And.intro (@goOps Tryd.prog _ _ law2_sameInts_r0.eq_1) (And.intro (@goOps Tryd.prog _ _ law2_sameInts_r1.eq_1) (And.intro (@goOps Tryd.prog _ _ law2_sameInts_r2.eq_1) (And.intro (@goOps Tryd.prog _ _ law2_sameInts_r3.eq_1) (And.intro (@goOps Tryd.prog _ _ law2_sameInts_r4.eq_1) (And.intro (@goOps Tryd.prog _ _ law2_sameInts_r5.eq_1) (And.intro (@goDraw Tryd.prog _ _ law2_sameInts_r6.eq_1) (And.intro (@goOps Tryd.prog _ _ law2_sameInts_r7.eq_1) (And.intro (@goOps Tryd.prog _ _ law2_sameInts_r8.eq_1) (And.intro (@goOps Tryd.prog _ _ law2_sameInts_r9.eq_1) (@goVc Tryd.prog _ _ law2_sameInts_l0.eq_1)))))))))))

end Go.Proofs.YtgdmoimclelfhaaDoor.C
