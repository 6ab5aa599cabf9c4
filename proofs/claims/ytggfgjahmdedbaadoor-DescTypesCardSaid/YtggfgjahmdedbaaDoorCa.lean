/- The stripped code of some functions of this seat's program, printed by a program; that it is that code is proved by the kernel. No condition. -/

import Derived.Test.YtggfgjahmdedbaaDoorProg

import Derived.Test.YtggfgjahmdedbaaDoorVcJ

set_option maxRecDepth 100000

set_option linter.defProp false

namespace Go.Proofs.YtggfgjahmdedbaaDoor.C

open Go.Vc

/-! jvmcore/jvmcorelaw1.DescNames: function 3: slots [0, 1, 4, 7] -/
def law1_DescNames_r0 : List Sop := [
  sw 4 (.assign (.const (.bool false))) 4]
def law1_DescNames_r1 : List Sop := [
  sq 5 (.move (.tmp 0)) 9,
  sq 6 (.call { callee := .builtin .len, args := #[.tmp 5], argTypes := #[9] }) 3,
  sw 7 (.binOp .gtr 3 (.tmp 6) (.const (.int .i64 32768)) 3) 4]
def law1_DescNames_r2 : List Sop := [
  sw 4 (.assign (.const (.bool true))) 4]
def law1_DescNames_r3 : List Sop := [
  sq 8 (.move (.tmp 0)) 9,
  sq 9 (.move (.tmp 1)) 4,
  sc 10 (.call { callee := .value (.func 5), args := #[.tmp 8, .tmp 9], argTypes := #[9, 4] }) 3,
  sq 11 (.move (.tmp 0)) 9,
  sq 12 (.move (.tmp 1)) 4,
  sc 13 (.call { callee := .value (.func 6), args := #[.tmp 11, .tmp 12], argTypes := #[9, 4] }) 3,
  sq 14 (.binOp .eql 3 (.tmp 10) (.tmp 13) 3) 4,
  sq 15 (.move (.tmp 14)) 4,
  ⟨some (16, false), .move (.tmp 0), 9, some (15, true), true⟩,
  ⟨some (17, false), .call { callee := .value (.func 7), args := #[.tmp 16], argTypes := #[9] }, 4, some (15, true), false⟩,
  ⟨some (18, false), .move (.tmp 0), 9, some (15, true), true⟩,
  ⟨some (19, false), .call { callee := .value (.func 8), args := #[.tmp 18], argTypes := #[9] }, 4, some (15, true), false⟩,
  ⟨some (20, false), .binOp .eql 4 (.tmp 17) (.tmp 19) 4, 4, some (15, true), true⟩,
  sq 21 (.pick (.tmp 15) (.tmp 20) (.const (.bool false))) 4,
  sw 4 (.assign (.tmp 21)) 4]
def law1_DescNames : Cd := .seq (.region law1_DescNames_r0) (.seq (.seq (.region law1_DescNames_r1) (.cond (.tmp 7) (.seq (.region law1_DescNames_r2) (.ret)) (.skip))) (.seq (.region law1_DescNames_r3) (.ret)))
theorem law1_DescNames_calls {args : List Value} {h : Heap} {R : Value → Heap → Prop} (hl : args.length = 2) (hv : Cd.vc Tryd.prog law1_DescNames (retQ Tryd.prog [(4, none)] R) (initEnv args [0, 1, 4, 7]) h) : HCalls Tryd.prog 3 args.toArray h R :=
  hcalls_of_vc (by kernel_rfl) Tryd.func3 (cd := law1_DescNames) (L := [0, 1, 4, 7]) (by kernel_rfl) (by kernel_rfl) ⟨by rw [hl, Tryd.ntmps3]; decide, by rw [Tryd.ntmps3]; decide⟩ hv
def law1_DescNames_gos := And.intro (@goVc Tryd.prog _ _ law1_DescNames.eq_1) (And.intro (@goOps Tryd.prog _ _ law1_DescNames_r0.eq_1) (And.intro (@goOps Tryd.prog _ _ law1_DescNames_r1.eq_1) (And.intro (@goOps Tryd.prog _ _ law1_DescNames_r2.eq_1) (@goOps Tryd.prog _ _ law1_DescNames_r3.eq_1))))

/-! jvmcore/jvmcorelaw1.DescTypes: function 4: slots [0, 2, 3, 4, 5, 6, 7, 8, 9, 10, 13, 61, 63, 64, 65, 88] -/
def law1_DescTypes_r0 : List Sop := [
  sw 2 (.assign (.const (.bool false))) 4]
def law1_DescTypes_r1 : List Sop := [
  sq 11 (.move (.tmp 0)) 9,
  sq 12 (.call { callee := .builtin .len, args := #[.tmp 11], argTypes := #[9] }) 3,
  sw 13 (.binOp .gtr 3 (.tmp 12) (.const (.int .i64 32768)) 3) 4]
def law1_DescTypes_r2 : List Sop := [
  sw 2 (.assign (.const (.bool true))) 4]
def law1_DescTypes_r3 : List Sop := [
  sq 15 (.move (.tmp 0)) 9,
  sc 16 (.call { callee := .value (.func 9), args := #[.tmp 15], argTypes := #[9] }) 26,
  sq 14 (.move (.tmp 16)) 26,
  sq 17 (.extract (.tmp 14) 0) 25,
  sq 18 (.extract (.tmp 14) 1) 9,
  sq 19 (.extract (.tmp 14) 2) 4,
  sw 3 (.assign (.tmp 17)) 25,
  sw 4 (.assign (.tmp 18)) 9,
  sw 5 (.assign (.tmp 19)) 4]
def law1_DescTypes_r4 : List Sop := [
  sq 21 (.move (.tmp 0)) 9,
  sc 22 (.call { callee := .value (.func 10), args := #[.tmp 21], argTypes := #[9] }) 26,
  sq 20 (.move (.tmp 22)) 26,
  sq 23 (.extract (.tmp 20) 0) 25,
  sq 24 (.extract (.tmp 20) 1) 9,
  sq 25 (.extract (.tmp 20) 2) 4,
  sw 6 (.assign (.tmp 23)) 25,
  sw 7 (.assign (.tmp 24)) 9,
  sw 8 (.assign (.tmp 25)) 4]
def law1_DescTypes_r5 : List Sop := [
  sq 26 (.move (.tmp 0)) 9,
  sc 27 (.call { callee := .value (.func 11), args := #[.tmp 26], argTypes := #[9] }) 4,
  sq 28 (.move (.tmp 0)) 9,
  sc 29 (.call { callee := .value (.func 12), args := #[.tmp 28], argTypes := #[9] }) 4,
  sq 30 (.binOp .neq 4 (.tmp 27) (.tmp 29) 4) 4,
  sq 31 (.move (.tmp 30)) 4,
  ⟨some (32, false), .move (.tmp 5), 4, some (31, false), true⟩,
  ⟨some (33, false), .move (.tmp 8), 4, some (31, false), true⟩,
  ⟨some (34, false), .binOp .neq 4 (.tmp 32) (.tmp 33) 4, 4, some (31, false), true⟩,
  sq 35 (.pick (.tmp 31) (.const (.bool true)) (.tmp 34)) 4,
  sq 36 (.move (.tmp 35)) 4,
  ⟨some (37, false), .move (.tmp 4), 9, some (36, false), true⟩,
  ⟨some (38, false), .move (.tmp 7), 9, some (36, false), true⟩,
  ⟨some (39, false), .binOp .neq 9 (.tmp 37) (.tmp 38) 9, 4, some (36, false), true⟩,
  sq 40 (.pick (.tmp 36) (.const (.bool true)) (.tmp 39)) 4,
  sq 41 (.move (.tmp 40)) 4,
  ⟨some (42, false), .move (.tmp 3), 25, some (41, false), true⟩,
  ⟨some (43, false), .call { callee := .builtin .len, args := #[.tmp 42], argTypes := #[25] }, 3, some (41, false), true⟩,
  ⟨some (44, false), .move (.tmp 6), 25, some (41, false), true⟩,
  ⟨some (45, false), .call { callee := .builtin .len, args := #[.tmp 44], argTypes := #[25] }, 3, some (41, false), true⟩,
  ⟨some (46, false), .binOp .neq 3 (.tmp 43) (.tmp 45) 3, 4, some (41, false), true⟩,
  sq 47 (.pick (.tmp 41) (.const (.bool true)) (.tmp 46)) 4,
  sq 48 (.move (.tmp 47)) 4,
  ⟨some (49, false), .move (.tmp 0), 9, some (48, false), true⟩,
  ⟨some (50, false), .call { callee := .value (.func 13), args := #[.tmp 49], argTypes := #[9] }, 3, some (48, false), false⟩,
  ⟨some (51, false), .move (.tmp 0), 9, some (48, false), true⟩,
  ⟨some (52, false), .call { callee := .value (.func 14), args := #[.tmp 51], argTypes := #[9] }, 3, some (48, false), false⟩,
  ⟨some (53, false), .binOp .neq 3 (.tmp 50) (.tmp 52) 3, 4, some (48, false), true⟩,
  sq 54 (.pick (.tmp 48) (.const (.bool true)) (.tmp 53)) 4,
  sq 55 (.move (.tmp 54)) 4,
  ⟨some (56, false), .move (.tmp 4), 9, some (55, false), true⟩,
  ⟨some (57, false), .call { callee := .value (.func 13), args := #[.tmp 56], argTypes := #[9] }, 3, some (55, false), false⟩,
  ⟨some (58, false), .move (.tmp 4), 9, some (55, false), true⟩,
  ⟨some (59, false), .call { callee := .value (.func 14), args := #[.tmp 58], argTypes := #[9] }, 3, some (55, false), false⟩,
  ⟨some (60, false), .binOp .neq 3 (.tmp 57) (.tmp 59) 3, 4, some (55, false), true⟩,
  sw 61 (.pick (.tmp 55) (.const (.bool true)) (.tmp 60)) 4]
def law1_DescTypes_r6 : List Sop := [
  sw 2 (.assign (.const (.bool false))) 4]
def law1_DescTypes_r7 : List Sop := [
  sw 9 (.assign (.const (.string { data := #[40] }))) 9]
def law1_DescTypes_r8 : List Sop := [
  sq 62 (.move (.tmp 3)) 25,
  sw 63 (.call { callee := .builtin .len, args := #[.tmp 62], argTypes := #[25] }) 3,
  sw 64 (.move (.const (.int .i64 0))) 3]
def law1_DescTypes_r9 : List Sop := [
  sw 65 (.binOp .lss 3 (.tmp 64) (.tmp 63) 3) 0]
def law1_DescTypes_r10 : List Sop := [
  sq 66 (.move (.tmp 64)) 3,
  sw 10 (.assign (.tmp 66)) 3]
def law1_DescTypes_r11 : List (Sop × List Sop) := [
  (sq 67 (.move (.tmp 3)) 25, []),
  (sq 68 (.move (.tmp 10)) 3, []),
  (sq 69 (.indexAddr 25 (.tmp 67) (.tmp 68)) 0, []),
  (sq 70 (.load 9 (.tmp 69)) 9, []),
  (sq 71 (.move (.tmp 6)) 25, []),
  (sq 72 (.move (.tmp 10)) 3, []),
  (sq 73 (.indexAddr 25 (.tmp 71) (.tmp 72)) 0, []),
  (sq 74 (.load 9 (.tmp 73)) 9, []),
  (sq 75 (.binOp .neq 9 (.tmp 70) (.tmp 74) 9) 4, []),
  (sq 76 (.move (.tmp 75)) 4, []),
  (⟨some (77, false), .move (.tmp 3), 25, some (76, false), true⟩, []),
  (⟨some (78, false), .move (.tmp 10), 3, some (76, false), true⟩, []),
  (⟨some (79, false), .indexAddr 25 (.tmp 77) (.tmp 78), 0, some (76, false), true⟩, []),
  (⟨some (80, false), .load 9 (.tmp 79), 9, some (76, false), true⟩, []),
  (⟨some (82, false), .move (.tmp 3), 25, some (76, false), true⟩, []),
  (⟨some (83, false), .move (.tmp 10), 3, some (76, false), true⟩, []),
  (⟨some (84, false), .indexAddr 25 (.tmp 82) (.tmp 83), 0, some (76, false), true⟩, []),
  (⟨some (85, false), .load 9 (.tmp 84), 9, some (76, false), true⟩, []),
  (⟨some (81, false), .call { callee := .value (.func 13), args := #[.tmp 80], argTypes := #[9] }, 3, some (76, false), false⟩, [⟨some (84, false), .indexAddr 25 (.tmp 82) (.tmp 83), 0, some (76, false), true⟩, ⟨some (85, false), .load 9 (.tmp 84), 9, some (76, false), true⟩]),
  (⟨some (86, false), .call { callee := .value (.func 14), args := #[.tmp 85], argTypes := #[9] }, 3, some (76, false), false⟩, []),
  (⟨some (87, false), .binOp .neq 3 (.tmp 81) (.tmp 86) 3, 4, some (76, false), true⟩, []),
  (sw 88 (.pick (.tmp 76) (.const (.bool true)) (.tmp 87)) 4, [])]
def law1_DescTypes_r12 : List Sop := [
  sw 2 (.assign (.const (.bool false))) 4]
def law1_DescTypes_r13 : List Sop := [
  sq 89 (.move (.tmp 9)) 9,
  sq 90 (.move (.tmp 3)) 25,
  sq 91 (.move (.tmp 10)) 3,
  sq 92 (.indexAddr 25 (.tmp 90) (.tmp 91)) 0,
  sq 93 (.load 9 (.tmp 92)) 9,
  sq 94 (.binOp .add 9 (.tmp 89) (.tmp 93) 9) 9,
  sw 9 (.assign (.tmp 94)) 9]
def law1_DescTypes_r14 : List Sop := [
  sq 95 (.binOp .add 3 (.tmp 64) (.const (.int .i64 1)) 3) 3,
  sw 64 (.move (.tmp 95)) 3]
def law1_DescTypes_r15 : List Sop := [
  sq 96 (.move (.tmp 5)) 4,
  sq 97 (.unOp .not 4 (.tmp 96)) 4,
  sq 98 (.move (.tmp 97)) 4,
  ⟨some (99, false), .move (.tmp 9), 9, some (98, false), true⟩,
  ⟨some (100, false), .binOp .add 9 (.tmp 99) (.const (.string { data := #[41] })) 9, 9, some (98, false), true⟩,
  ⟨some (101, false), .move (.tmp 4), 9, some (98, false), true⟩,
  ⟨some (102, false), .binOp .add 9 (.tmp 100) (.tmp 101) 9, 9, some (98, false), true⟩,
  ⟨some (103, false), .move (.tmp 0), 9, some (98, false), true⟩,
  ⟨some (104, false), .binOp .eql 9 (.tmp 102) (.tmp 103) 9, 4, some (98, false), true⟩,
  sq 105 (.pick (.tmp 98) (.const (.bool true)) (.tmp 104)) 4,
  sw 2 (.assign (.tmp 105)) 4]
def law1_DescTypes_l0 : Cd := .seq (.region law1_DescTypes_r9) (.seq (.cond (.tmp 65) (.skip) (.exit 0)) (.seq (.block 1 (.seq (.region law1_DescTypes_r10) (.seq (.seq (.draw law1_DescTypes_r11) (.cond (.tmp 88) (.seq (.region law1_DescTypes_r12) (.ret)) (.skip))) (.region law1_DescTypes_r13)))) (.region law1_DescTypes_r14)))
def law1_DescTypes : Cd := .seq (.region law1_DescTypes_r0) (.seq (.seq (.region law1_DescTypes_r1) (.cond (.tmp 13) (.seq (.region law1_DescTypes_r2) (.ret)) (.skip))) (.seq (.region law1_DescTypes_r3) (.seq (.region law1_DescTypes_r4) (.seq (.seq (.region law1_DescTypes_r5) (.cond (.tmp 61) (.seq (.region law1_DescTypes_r6) (.ret)) (.skip))) (.seq (.region law1_DescTypes_r7) (.seq (.seq (.region law1_DescTypes_r8) (.block 0 (.loop law1_DescTypes_l0))) (.seq (.region law1_DescTypes_r15) (.ret))))))))
theorem law1_DescTypes_calls {args : List Value} {h : Heap} {R : Value → Heap → Prop} (hl : args.length = 1) (hv : Cd.vc Tryd.prog law1_DescTypes (retQ Tryd.prog [(2, none)] R) (initEnv args [0, 2, 3, 4, 5, 6, 7, 8, 9, 10, 13, 61, 63, 64, 65, 88]) h) : HCalls Tryd.prog 4 args.toArray h R :=
  hcalls_of_vc (by kernel_rfl) Tryd.func4 (cd := law1_DescTypes) (L := [0, 2, 3, 4, 5, 6, 7, 8, 9, 10, 13, 61, 63, 64, 65, 88]) (by kernel_rfl) (by kernel_rfl) ⟨by rw [hl, Tryd.ntmps4]; decide, by rw [Tryd.ntmps4]; decide⟩ hv
def law1_DescTypes_gos := And.intro (@goVc Tryd.prog _ _ law1_DescTypes.eq_1) (And.intro (@goOps Tryd.prog _ _ law1_DescTypes_r0.eq_1) (And.intro (@goOps Tryd.prog _ _ law1_DescTypes_r1.eq_1) (And.intro (@goOps Tryd.prog _ _ law1_DescTypes_r2.eq_1) (And.intro (@goOps Tryd.prog _ _ law1_DescTypes_r3.eq_1) (And.intro (@goOps Tryd.prog _ _ law1_DescTypes_r4.eq_1) (And.intro (@goOps Tryd.prog _ _ law1_DescTypes_r5.eq_1) (And.intro (@goOps Tryd.prog _ _ law1_DescTypes_r6.eq_1) (And.intro (@goOps Tryd.prog _ _ law1_DescTypes_r7.eq_1) (And.intro (@goOps Tryd.prog _ _ law1_DescTypes_r8.eq_1) (And.intro (@goOps Tryd.prog _ _ law1_DescTypes_r9.eq_1) (And.intro (@goOps Tryd.prog _ _ law1_DescTypes_r10.eq_1) (And.intro (@goDraw Tryd.prog _ _ law1_DescTypes_r11.eq_1) (And.intro (@goOps Tryd.prog _ _ law1_DescTypes_r12.eq_1) (And.intro (@goOps Tryd.prog _ _ law1_DescTypes_r13.eq_1) (And.intro (@goOps Tryd.prog _ _ law1_DescTypes_r14.eq_1) (And.intro (@goOps Tryd.prog _ _ law1_DescTypes_r15.eq_1) (@goVc Tryd.prog _ _ law1_DescTypes_l0.eq_1)))))))))))))))))

end Go.Proofs.YtggfgjahmdedbaaDoor.C
