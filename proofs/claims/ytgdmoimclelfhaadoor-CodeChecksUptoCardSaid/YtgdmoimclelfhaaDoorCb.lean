/- The stripped code of some functions of this seat's program, printed by a program; that it is that code is proved by the kernel. No condition. -/

import Derived.Test.YtgdmoimclelfhaaDoorProg

import Derived.Test.YtgdmoimclelfhaaDoorVcJ

set_option maxRecDepth 100000

set_option linter.defProp false

namespace Go.Proofs.YtgdmoimclelfhaaDoor.C

open Go.Vc

/-! jvmcore/jvmcorelaw2.CodeChecks: function 3: slots [0, 1, 2, 6, 7, 8, 9, 10, 11, 12, 13, 19, 39, 40, 41, 51] -/
def law2_CodeChecks_r0 : List Sop := [
  sw 6 (.assign (.const (.bool false))) 4]
def law2_CodeChecks_r1 : List Sop := [
  sq 14 (.move (.tmp 0)) 22,
  sc 15 (.call { callee := .value (.func 4), args := #[.tmp 14], argTypes := #[22] }) 3,
  sq 16 (.move (.tmp 1)) 23,
  sq 17 (.call { callee := .builtin .len, args := #[.tmp 16], argTypes := #[23] }) 3,
  sq 18 (.binOp .add 3 (.tmp 15) (.tmp 17) 3) 3,
  sw 19 (.binOp .gtr 3 (.tmp 18) (.const (.int .i64 32768)) 3) 4]
def law2_CodeChecks_r2 : List Sop := [
  sw 6 (.assign (.const (.bool true))) 4]
def law2_CodeChecks_r3 : List Sop := [
  sq 20 (.move (.tmp 0)) 22,
  sc 21 (.call { callee := .value (.func 5), args := #[.tmp 20], argTypes := #[22] }) 22,
  sw 7 (.assign (.tmp 21)) 22]
def law2_CodeChecks_r4 : List Sop := [
  sq 22 (.move (.tmp 1)) 23,
  sc 23 (.call { callee := .builtin .append, args := #[.const (.slice none 0 0), .tmp 22], argTypes := #[23, 23] }) 23,
  sw 8 (.assign (.tmp 23)) 23]
def law2_CodeChecks_r5 : List Sop := [
  sq 25 (.move (.tmp 0)) 22,
  sq 26 (.move (.tmp 1)) 23,
  sq 27 (.move (.tmp 2)) 3,
  sc 28 (.call { callee := .value (.func 6), args := #[.tmp 25, .tmp 26, .tmp 27], argTypes := #[22, 23, 3] }) 27,
  sq 24 (.move (.tmp 28)) 27,
  sq 29 (.extract (.tmp 24) 0) 26,
  sq 30 (.extract (.tmp 24) 1) 3,
  sw 9 (.assign (.tmp 29)) 26,
  sw 10 (.assign (.tmp 30)) 3]
def law2_CodeChecks_r6 : List Sop := [
  sq 32 (.move (.tmp 7)) 22,
  sq 33 (.move (.tmp 8)) 23,
  sq 34 (.move (.tmp 2)) 3,
  sc 35 (.call { callee := .value (.func 7), args := #[.tmp 32, .tmp 33, .tmp 34], argTypes := #[22, 23, 3] }) 27,
  sq 31 (.move (.tmp 35)) 27,
  sq 36 (.extract (.tmp 31) 0) 26,
  sq 37 (.extract (.tmp 31) 1) 3,
  sw 11 (.assign (.tmp 36)) 26,
  sw 12 (.assign (.tmp 37)) 3]
def law2_CodeChecks_r7 : List Sop := [
  sq 38 (.move (.tmp 8)) 23,
  sw 39 (.call { callee := .builtin .len, args := #[.tmp 38], argTypes := #[23] }) 3,
  sw 40 (.move (.const (.int .i64 0))) 3]
def law2_CodeChecks_r8 : List Sop := [
  sw 41 (.binOp .lss 3 (.tmp 40) (.tmp 39) 3) 0]
def law2_CodeChecks_r9 : List Sop := [
  sq 42 (.move (.tmp 40)) 3,
  sw 13 (.assign (.tmp 42)) 3]
def law2_CodeChecks_r10 : List (Sop × List Sop) := [
  (sq 43 (.move (.tmp 1)) 23, []),
  (sq 44 (.move (.tmp 13)) 3, []),
  (sq 45 (.indexAddr 23 (.tmp 43) (.tmp 44)) 0, []),
  (sq 46 (.load 32 (.tmp 45)) 32, []),
  (sq 47 (.move (.tmp 8)) 23, []),
  (sq 48 (.move (.tmp 13)) 3, []),
  (sq 49 (.indexAddr 23 (.tmp 47) (.tmp 48)) 0, []),
  (sq 50 (.load 32 (.tmp 49)) 32, []),
  (sw 51 (.binOp .neq 32 (.tmp 46) (.tmp 50) 32) 4, [])]
def law2_CodeChecks_r11 : List Sop := [
  sw 6 (.assign (.const (.bool false))) 4]
def law2_CodeChecks_r12 : List Sop := [
  sq 52 (.binOp .add 3 (.tmp 40) (.const (.int .i64 1)) 3) 3,
  sw 40 (.move (.tmp 52)) 3]
def law2_CodeChecks_r13 : List Sop := [
  sq 53 (.move (.tmp 9)) 26,
  sq 54 (.move (.tmp 11)) 26,
  sq 55 (.binOp .eql 26 (.tmp 53) (.tmp 54) 26) 4,
  sq 56 (.move (.tmp 55)) 4,
  ⟨some (57, false), .move (.tmp 10), 3, some (56, true), true⟩,
  ⟨some (58, false), .move (.tmp 12), 3, some (56, true), true⟩,
  ⟨some (59, false), .binOp .eql 3 (.tmp 57) (.tmp 58) 3, 4, some (56, true), true⟩,
  sq 60 (.pick (.tmp 56) (.tmp 59) (.const (.bool false))) 4,
  sq 61 (.move (.tmp 60)) 4,
  ⟨some (62, false), .move (.tmp 0), 22, some (61, true), true⟩,
  ⟨some (63, false), .move (.tmp 7), 22, some (61, true), true⟩,
  ⟨some (64, false), .call { callee := .value (.func 8), args := #[.tmp 62, .tmp 63], argTypes := #[22, 22] }, 4, some (61, true), false⟩,
  sq 65 (.pick (.tmp 61) (.tmp 64) (.const (.bool false))) 4,
  sw 6 (.assign (.tmp 65)) 4]
def law2_CodeChecks_l0 : Cd := .seq (.region law2_CodeChecks_r8) (.seq (.cond (.tmp 41) (.skip) (.exit 0)) (.seq (.block 1 (.seq (.region law2_CodeChecks_r9) (.seq (.draw law2_CodeChecks_r10) (.cond (.tmp 51) (.seq (.region law2_CodeChecks_r11) (.ret)) (.skip))))) (.region law2_CodeChecks_r12)))
def law2_CodeChecks : Cd := .seq (.region law2_CodeChecks_r0) (.seq (.seq (.region law2_CodeChecks_r1) (.cond (.tmp 19) (.seq (.region law2_CodeChecks_r2) (.ret)) (.skip))) (.seq (.region law2_CodeChecks_r3) (.seq (.region law2_CodeChecks_r4) (.seq (.region law2_CodeChecks_r5) (.seq (.region law2_CodeChecks_r6) (.seq (.seq (.region law2_CodeChecks_r7) (.block 0 (.loop law2_CodeChecks_l0))) (.seq (.region law2_CodeChecks_r13) (.ret))))))))
theorem law2_CodeChecks_calls {args : List Value} {h : Heap} {R : Value → Heap → Prop} (hl : args.length = 3) (hv : Cd.vc Tryd.prog law2_CodeChecks (retQ Tryd.prog [(6, none)] R) (initEnv args [0, 1, 2, 6, 7, 8, 9, 10, 11, 12, 13, 19, 39, 40, 41, 51]) h) : HCalls Tryd.prog 3 args.toArray h R :=
  hcalls_of_vc (by kernel_rfl) Tryd.func3 (cd := law2_CodeChecks) (L := [0, 1, 2, 6, 7, 8, 9, 10, 11, 12, 13, 19, 39, 40, 41, 51]) (by kernel_rfl) (by kernel_rfl) ⟨by rw [hl, Tryd.ntmps3]; decide, by rw [Tryd.ntmps3]; decide⟩ hv
def law2_CodeChecks_gos := And.intro (@goVc Tryd.prog _ _ law2_CodeChecks.eq_1) (And.intro (@goOps Tryd.prog _ _ law2_CodeChecks_r0.eq_1) (And.intro (@goOps Tryd.prog _ _ law2_CodeChecks_r1.eq_1) (And.intro (@goOps Tryd.prog _ _ law2_CodeChecks_r2.eq_1) (And.intro (@goOps Tryd.prog _ _ law2_CodeChecks_r3.eq_1) (And.intro (@goOps Tryd.prog _ _ law2_CodeChecks_r4.eq_1) (And.intro (@goOps Tryd.prog _ _ law2_CodeChecks_r5.eq_1) (And.intro (@goOps Tryd.prog _ _ law2_CodeChecks_r6.eq_1) (And.intro (@goOps Tryd.prog _ _ law2_CodeChecks_r7.eq_1) (And.intro (@goOps Tryd.prog _ _ law2_CodeChecks_r8.eq_1) (And.intro (@goOps Tryd.prog _ _ law2_CodeChecks_r9.eq_1) (And.intro (@goDraw Tryd.prog _ _ law2_CodeChecks_r10.eq_1) (And.intro (@goOps Tryd.prog _ _ law2_CodeChecks_r11.eq_1) (And.intro (@goOps Tryd.prog _ _ law2_CodeChecks_r12.eq_1) (And.intro (@goOps Tryd.prog _ _ law2_CodeChecks_r13.eq_1) (@goVc Tryd.prog _ _ law2_CodeChecks_l0.eq_1)))))))))))))))

/-! jvmcore/jvmcorelaw2.weight: function 4: slots [0, 2, 3, 5, 8, 9, 10, 11, 24] -/
def law2_weight_r0 : List Sop := [
  sw 2 (.assign (.const (.int .i64 0))) 3]
def law2_weight_r1 : List Sop := [
  sq 6 (.move (.tmp 0)) 22,
  sq 7 (.call { callee := .builtin .len, args := #[.tmp 6], argTypes := #[22] }) 3,
  sw 3 (.assign (.tmp 7)) 3]
def law2_weight_r2 : List Sop := [
  sw 8 (.move (.tmp 0)) 22,
  sw 9 (.call { callee := .builtin .len, args := #[.tmp 8], argTypes := #[22] }) 3,
  sw 10 (.move (.const (.int .i64 0))) 3]
def law2_weight_r3 : List Sop := [
  sw 11 (.binOp .lss 3 (.tmp 10) (.tmp 9) 3) 0]
def law2_weight_r4 : List Sop := [
  sq 12 (.indexAddr 22 (.tmp 8) (.tmp 10)) 0,
  sq 13 (.load 37 (.tmp 12)) 37,
  sa 5 (.alloc 37) 0,
  ss (.store 37 (.tmp 5) (.tmp 13))]
def law2_weight_r5 : List Sop := [
  sq 14 (.move (.tmp 3)) 3,
  sq 15 (.fieldAddr 37 (.tmp 5) 6) 0,
  sq 16 (.load 35 (.tmp 15)) 35,
  sq 17 (.call { callee := .builtin .len, args := #[.tmp 16], argTypes := #[35] }) 3,
  sq 18 (.fieldAddr 37 (.tmp 5) 7) 0,
  sq 19 (.load 35 (.tmp 18)) 35,
  sq 20 (.call { callee := .builtin .len, args := #[.tmp 19], argTypes := #[35] }) 3,
  sq 21 (.binOp .add 3 (.tmp 17) (.tmp 20) 3) 3,
  sq 22 (.binOp .add 3 (.tmp 14) (.tmp 21) 3) 3,
  sw 3 (.assign (.tmp 22)) 3]
def law2_weight_r6 : List Sop := [
  sq 23 (.move (.tmp 3)) 3,
  sw 24 (.binOp .gtr 3 (.tmp 23) (.const (.int .i64 32768)) 3) 4]
def law2_weight_r7 : List Sop := [
  sq 25 (.move (.tmp 3)) 3,
  sw 2 (.assign (.tmp 25)) 3]
def law2_weight_r8 : List Sop := [
  sq 26 (.binOp .add 3 (.tmp 10) (.const (.int .i64 1)) 3) 3,
  sw 10 (.move (.tmp 26)) 3]
def law2_weight_r9 : List Sop := [
  sq 27 (.move (.tmp 3)) 3,
  sw 2 (.assign (.tmp 27)) 3]
def law2_weight_l0 : Cd := .seq (.region law2_weight_r3) (.seq (.cond (.tmp 11) (.skip) (.exit 0)) (.seq (.block 1 (.seq (.region law2_weight_r4) (.seq (.region law2_weight_r5) (.seq (.region law2_weight_r6) (.cond (.tmp 24) (.seq (.region law2_weight_r7) (.ret)) (.skip)))))) (.region law2_weight_r8)))
def law2_weight : Cd := .seq (.region law2_weight_r0) (.seq (.region law2_weight_r1) (.seq (.seq (.region law2_weight_r2) (.block 0 (.loop law2_weight_l0))) (.seq (.region law2_weight_r9) (.ret))))
theorem law2_weight_calls {args : List Value} {h : Heap} {R : Value → Heap → Prop} (hl : args.length = 1) (hv : Cd.vc Tryd.prog law2_weight (retQ Tryd.prog [(2, none)] R) (initEnv args [0, 2, 3, 5, 8, 9, 10, 11, 24]) h) : HCalls Tryd.prog 4 args.toArray h R :=
  hcalls_of_vc (by kernel_rfl) Tryd.func4 (cd := law2_weight) (L := [0, 2, 3, 5, 8, 9, 10, 11, 24]) (by kernel_rfl) (by kernel_rfl) ⟨by rw [hl, Tryd.ntmps4]; decide, by rw [Tryd.ntmps4]; decide⟩ hv
def law2_weight_gos := And.intro (@goVc Tryd.prog _ _ law2_weight.eq_1) (And.intro (@goOps Tryd.prog _ _ law2_weight_r0.eq_1) (And.intro (@goOps Tryd.prog _ _ law2_weight_r1.eq_1) (And.intro (@goOps Tryd.prog _ _ law2_weight_r2.eq_1) (And.intro (@goOps Tryd.prog _ _ law2_weight_r3.eq_1) (And.intro (@goOps Tryd.prog _ _ law2_weight_r4.eq_1) (And.intro (@goOps Tryd.prog _ _ law2_weight_r5.eq_1) (And.intro (@goOps Tryd.prog _ _ law2_weight_r6.eq_1) (And.intro (@goOps Tryd.prog _ _ law2_weight_r7.eq_1) (And.intro (@goOps Tryd.prog _ _ law2_weight_r8.eq_1) (And.intro (@goOps Tryd.prog _ _ law2_weight_r9.eq_1) (@goVc Tryd.prog _ _ law2_weight_l0.eq_1)))))))))))

/-! jvmcore/jvmcorelaw2.twin: function 5: slots [0, 2, 3, 5, 6, 7, 8, 9] -/
def law2_twin_r0 : List Sop := [
  sw 2 (.assign (.const (.slice none 0 0))) 22]
def law2_twin_r1 : List Sop := [
  sw 3 (.assign (.const (.slice none 0 0))) 22]
def law2_twin_r2 : List Sop := [
  sw 6 (.move (.tmp 0)) 22,
  sw 7 (.call { callee := .builtin .len, args := #[.tmp 6], argTypes := #[22] }) 3,
  sw 8 (.move (.const (.int .i64 0))) 3]
def law2_twin_r3 : List Sop := [
  sw 9 (.binOp .lss 3 (.tmp 8) (.tmp 7) 3) 0]
def law2_twin_r4 : List Sop := [
  sq 10 (.indexAddr 22 (.tmp 6) (.tmp 8)) 0,
  sq 11 (.load 37 (.tmp 10)) 37,
  sa 5 (.alloc 37) 0,
  ss (.store 37 (.tmp 5) (.tmp 11))]
def law2_twin_r5 : List Sop := [
  sq 12 (.fieldAddr 37 (.tmp 5) 6) 0,
  sq 13 (.load 35 (.tmp 12)) 35,
  sc 14 (.call { callee := .builtin .append, args := #[.const (.slice none 0 0), .tmp 13], argTypes := #[35, 35] }) 35,
  sq 15 (.fieldAddr 37 (.tmp 5) 6) 0,
  ss (.store 35 (.tmp 15) (.tmp 14))]
def law2_twin_r6 : List Sop := [
  sq 16 (.fieldAddr 37 (.tmp 5) 7) 0,
  sq 17 (.load 35 (.tmp 16)) 35,
  sc 18 (.call { callee := .builtin .append, args := #[.const (.slice none 0 0), .tmp 17], argTypes := #[35, 35] }) 35,
  sq 19 (.fieldAddr 37 (.tmp 5) 7) 0,
  ss (.store 35 (.tmp 19) (.tmp 18))]
def law2_twin_r7 : List Sop := [
  sq 20 (.move (.tmp 3)) 22,
  sq 21 (.load 37 (.tmp 5)) 37,
  sc 22 (.buildSlice 22 1 #[(0, .tmp 21)]) 22,
  sc 23 (.call { callee := .builtin .append, args := #[.tmp 20, .tmp 22], argTypes := #[22, 22] }) 22,
  sw 3 (.assign (.tmp 23)) 22]
def law2_twin_r8 : List Sop := [
  sq 24 (.binOp .add 3 (.tmp 8) (.const (.int .i64 1)) 3) 3,
  sw 8 (.move (.tmp 24)) 3]
def law2_twin_r9 : List Sop := [
  sq 25 (.move (.tmp 3)) 22,
  sw 2 (.assign (.tmp 25)) 22]
def law2_twin_l0 : Cd := .seq (.region law2_twin_r3) (.seq (.cond (.tmp 9) (.skip) (.exit 0)) (.seq (.block 1 (.seq (.region law2_twin_r4) (.seq (.region law2_twin_r5) (.seq (.region law2_twin_r6) (.region law2_twin_r7))))) (.region law2_twin_r8)))
def law2_twin : Cd := .seq (.region law2_twin_r0) (.seq (.region law2_twin_r1) (.seq (.seq (.region law2_twin_r2) (.block 0 (.loop law2_twin_l0))) (.seq (.region law2_twin_r9) (.ret))))
theorem law2_twin_calls {args : List Value} {h : Heap} {R : Value → Heap → Prop} (hl : args.length = 1) (hv : Cd.vc Tryd.prog law2_twin (retQ Tryd.prog [(2, none)] R) (initEnv args [0, 2, 3, 5, 6, 7, 8, 9]) h) : HCalls Tryd.prog 5 args.toArray h R :=
  hcalls_of_vc (by kernel_rfl) Tryd.func5 (cd := law2_twin) (L := [0, 2, 3, 5, 6, 7, 8, 9]) (by kernel_rfl) (by kernel_rfl) ⟨by rw [hl, Tryd.ntmps5]; decide, by rw [Tryd.ntmps5]; decide⟩ hv
def law2_twin_gos := And.intro (@goVc Tryd.prog _ _ law2_twin.eq_1) (And.intro (@goOps Tryd.prog _ _ law2_twin_r0.eq_1) (And.intro (@goOps Tryd.prog _ _ law2_twin_r1.eq_1) (And.intro (@goOps Tryd.prog _ _ law2_twin_r2.eq_1) (And.intro (@goOps Tryd.prog _ _ law2_twin_r3.eq_1) (And.intro (@goOps Tryd.prog _ _ law2_twin_r4.eq_1) (And.intro (@goOps Tryd.prog _ _ law2_twin_r5.eq_1) (And.intro (@goOps Tryd.prog _ _ law2_twin_r6.eq_1) (And.intro (@goOps Tryd.prog _ _ law2_twin_r7.eq_1) (And.intro (@goOps Tryd.prog _ _ law2_twin_r8.eq_1) (And.intro (@goOps Tryd.prog _ _ law2_twin_r9.eq_1) (@goVc Tryd.prog _ _ law2_twin_l0.eq_1)))))))))))

/-! jvmcore/desc.Member: function 28: slots [0, 1, 4, 5, 11, 17] -/
def desc_Member_r0 : List Sop := [
  sw 4 (.assign (.const (.int .i64 0))) 3]
def desc_Member_r1 : List Sop := [
  sq 6 (.move (.tmp 1)) 4,
  sq 7 (.move (.tmp 6)) 4,
  ⟨some (8, false), .move (.tmp 0), 9, some (7, true), true⟩,
  ⟨some (9, false), .binOp .eql 9 (.tmp 8) (.const (.string { data := #[60, 105, 110, 105, 116, 62] })) 9, 4, some (7, true), true⟩,
  sq 10 (.pick (.tmp 7) (.tmp 9) (.const (.bool false))) 4,
  sw 5 (.assign (.tmp 10)) 4]
def desc_Member_r2 : List Sop := [
  sw 4 (.assign (.const (.int .i64 2))) 3]
def desc_Member_r3 : List Sop := [
  sq 12 (.move (.tmp 1)) 4,
  sq 13 (.move (.tmp 12)) 4,
  ⟨some (14, false), .move (.tmp 0), 9, some (13, true), true⟩,
  ⟨some (15, false), .binOp .eql 9 (.tmp 14) (.const (.string { data := #[60, 99, 108, 105, 110, 105, 116, 62] })) 9, 4, some (13, true), true⟩,
  sq 16 (.pick (.tmp 13) (.tmp 15) (.const (.bool false))) 4,
  sw 11 (.assign (.tmp 16)) 4]
def desc_Member_r4 : List Sop := [
  sw 4 (.assign (.const (.int .i64 3))) 3]
def desc_Member_r5 : List Sop := [
  sq 18 (.move (.tmp 0)) 9,
  sc 19 (.call { callee := .value (.func 35), args := #[.tmp 18], argTypes := #[9] }) 4,
  sq 20 (.unOp .not 4 (.tmp 19)) 4,
  sq 21 (.move (.tmp 20)) 4,
  ⟨some (22, false), .move (.tmp 1), 4, some (21, false), true⟩,
  ⟨some (23, false), .move (.tmp 22), 4, some (21, false), true⟩,
  ⟨some (24, false), .move (.tmp 0), 9, some (23, true), true⟩,
  ⟨some (25, false), .call { callee := .value (.func 36), args := #[.tmp 24, .const (.string { data := #[60, 62] })], argTypes := #[9, 9] }, 4, some (23, true), false⟩,
  ⟨some (26, false), .pick (.tmp 23) (.tmp 25) (.const (.bool false)), 4, some (21, false), true⟩,
  sq 27 (.pick (.tmp 21) (.const (.bool true)) (.tmp 26)) 4,
  sw 17 (.assign (.tmp 27)) 4]
def desc_Member_r6 : List Sop := [
  sw 4 (.assign (.const (.int .i64 0))) 3]
def desc_Member_r7 : List Sop := [
  sw 4 (.assign (.const (.int .i64 1))) 3]
def desc_Member : Cd := .seq (.region desc_Member_r0) (.seq (.block 0 (.seq (.region desc_Member_r1) (.cond (.tmp 5) (.seq (.region desc_Member_r2) (.ret)) (.seq (.region desc_Member_r3) (.cond (.tmp 11) (.seq (.region desc_Member_r4) (.ret)) (.seq (.region desc_Member_r5) (.cond (.tmp 17) (.seq (.region desc_Member_r6) (.ret)) (.skip)))))))) (.seq (.region desc_Member_r7) (.ret)))
theorem desc_Member_calls {args : List Value} {h : Heap} {R : Value → Heap → Prop} (hl : args.length = 2) (hv : Cd.vc Tryd.prog desc_Member (retQ Tryd.prog [(4, none)] R) (initEnv args [0, 1, 4, 5, 11, 17]) h) : HCalls Tryd.prog 28 args.toArray h R :=
  hcalls_of_vc (by kernel_rfl) Tryd.func28 (cd := desc_Member) (L := [0, 1, 4, 5, 11, 17]) (by kernel_rfl) (by kernel_rfl) ⟨by rw [hl, Tryd.ntmps28]; decide, by rw [Tryd.ntmps28]; decide⟩ hv
def desc_Member_gos := And.intro (@goVc Tryd.prog _ _ desc_Member.eq_1) (And.intro (@goOps Tryd.prog _ _ desc_Member_r0.eq_1) (And.intro (@goOps Tryd.prog _ _ desc_Member_r1.eq_1) (And.intro (@goOps Tryd.prog _ _ desc_Member_r2.eq_1) (And.intro (@goOps Tryd.prog _ _ desc_Member_r3.eq_1) (And.intro (@goOps Tryd.prog _ _ desc_Member_r4.eq_1) (And.intro (@goOps Tryd.prog _ _ desc_Member_r5.eq_1) (And.intro (@goOps Tryd.prog _ _ desc_Member_r6.eq_1) (@goOps Tryd.prog _ _ desc_Member_r7.eq_1))))))))

/-! jvmcore/desc.Method: function 29: slots [0, 2, 3, 4, 5, 6, 7, 10, 19, 23, 55] -/
def desc_Method_r0 : List Sop := [
  sw 2 (.assign (.const (.slice none 0 0))) 57,
  sw 3 (.assign (.const (.string { data := #[] }))) 9,
  sw 4 (.assign (.const (.bool false))) 4]
def desc_Method_r1 : List Sop := [
  sq 8 (.move (.tmp 0)) 9,
  sc 9 (.call { callee := .value (.func 37), args := #[.tmp 8, .const (.string { data := #[40] })], argTypes := #[9, 9] }) 4,
  sw 10 (.unOp .not 4 (.tmp 9)) 4]
def desc_Method_r2 : List Sop := [
  sw 2 (.assign (.const (.slice none 0 0))) 57,
  sw 3 (.assign (.const (.string { data := #[] }))) 9,
  sw 4 (.assign (.const (.bool false))) 4]
def desc_Method_r3 : List Sop := [
  sq 11 (.move (.tmp 0)) 9,
  sq 12 (.slice 9 (.tmp 11) (some (.const (.int .i64 1))) none none) 9,
  sw 0 (.assign (.tmp 12)) 9]
def desc_Method_r4 : List Sop := [
  sw 5 (.assign (.const (.slice none 0 0))) 57]
def desc_Method_r5 : List Sop := [
  sw 6 (.assign (.const (.int .i64 0))) 3]
def desc_Method_r6 : List Sop := [
  sq 13 (.move (.tmp 0)) 9,
  sq 14 (.binOp .neq 9 (.tmp 13) (.const (.string { data := #[] })) 9) 4,
  sq 15 (.move (.tmp 14)) 4,
  ⟨some (16, false), .move (.tmp 0), 9, some (15, true), true⟩,
  ⟨some (17, false), .index 9 (.tmp 16) (.const (.int .i64 0)), 5, some (15, true), true⟩,
  ⟨some (18, false), .binOp .neq 5 (.tmp 17) (.const (.int .u8 41)) 5, 4, some (15, true), true⟩,
  sw 19 (.pick (.tmp 15) (.tmp 18) (.const (.bool false))) 4]
def desc_Method_r7 : List Sop := [
  sq 20 (.move (.tmp 0)) 9,
  sc 21 (.call { callee := .value (.func 38), args := #[.tmp 20], argTypes := #[9] }) 3,
  sw 7 (.assign (.tmp 21)) 3]
def desc_Method_r8 : List Sop := [
  sq 22 (.move (.tmp 7)) 3,
  sw 23 (.binOp .eql 3 (.tmp 22) (.const (.int .i64 0)) 3) 4]
def desc_Method_r9 : List Sop := [
  sw 2 (.assign (.const (.slice none 0 0))) 57,
  sw 3 (.assign (.const (.string { data := #[] }))) 9,
  sw 4 (.assign (.const (.bool false))) 4]
def desc_Method_r10 : List Sop := [
  sq 24 (.move (.tmp 5)) 57,
  sq 25 (.move (.tmp 0)) 9,
  sq 26 (.move (.tmp 7)) 3,
  sq 27 (.slice 9 (.tmp 25) none (some (.tmp 26)) none) 9,
  sc 28 (.buildSlice 57 1 #[(0, .tmp 27)]) 57,
  sc 29 (.call { callee := .builtin .append, args := #[.tmp 24, .tmp 28], argTypes := #[57, 57] }) 57,
  sw 5 (.assign (.tmp 29)) 57]
def desc_Method_r11 : List Sop := [
  sq 30 (.move (.tmp 6)) 3,
  sq 31 (.move (.tmp 0)) 9,
  sq 32 (.move (.tmp 7)) 3,
  sq 33 (.slice 9 (.tmp 31) none (some (.tmp 32)) none) 9,
  sc 34 (.call { callee := .value (.func 30), args := #[.tmp 33], argTypes := #[9] }) 3,
  sq 35 (.binOp .add 3 (.tmp 30) (.tmp 34) 3) 3,
  sw 6 (.assign (.tmp 35)) 3]
def desc_Method_r12 : List Sop := [
  sq 36 (.move (.tmp 0)) 9,
  sq 37 (.move (.tmp 7)) 3,
  sq 38 (.slice 9 (.tmp 36) (some (.tmp 37)) none none) 9,
  sw 0 (.assign (.tmp 38)) 9]
def desc_Method_r13 : List Sop := [
  sq 39 (.move (.tmp 0)) 9,
  sq 40 (.binOp .eql 9 (.tmp 39) (.const (.string { data := #[] })) 9) 4,
  sq 41 (.move (.tmp 40)) 4,
  ⟨some (42, false), .move (.tmp 6), 3, some (41, false), true⟩,
  ⟨some (43, false), .binOp .gtr 3 (.tmp 42) (.const (.int .i64 254)) 3, 4, some (41, false), true⟩,
  sq 44 (.pick (.tmp 41) (.const (.bool true)) (.tmp 43)) 4,
  sq 45 (.move (.tmp 44)) 4,
  ⟨some (46, false), .move (.tmp 0), 9, some (45, false), true⟩,
  ⟨some (47, false), .slice 9 (.tmp 46) (some (.const (.int .i64 1))) none none, 9, some (45, false), true⟩,
  ⟨some (48, false), .binOp .neq 9 (.tmp 47) (.const (.string { data := #[86] })) 9, 4, some (45, false), true⟩,
  ⟨some (49, false), .move (.tmp 48), 4, some (45, false), true⟩,
  ⟨some (50, false), .move (.tmp 0), 9, some (49, true), true⟩,
  ⟨some (51, false), .slice 9 (.tmp 50) (some (.const (.int .i64 1))) none none, 9, some (49, true), true⟩,
  ⟨some (52, false), .call { callee := .value (.func 39), args := #[.tmp 51], argTypes := #[9] }, 4, some (49, true), false⟩,
  ⟨some (53, false), .unOp .not 4 (.tmp 52), 4, some (49, true), true⟩,
  ⟨some (54, false), .pick (.tmp 49) (.tmp 53) (.const (.bool false)), 4, some (45, false), true⟩,
  sw 55 (.pick (.tmp 45) (.const (.bool true)) (.tmp 54)) 4]
def desc_Method_r14 : List Sop := [
  sw 2 (.assign (.const (.slice none 0 0))) 57,
  sw 3 (.assign (.const (.string { data := #[] }))) 9,
  sw 4 (.assign (.const (.bool false))) 4]
def desc_Method_r15 : List (Sop × List Sop) := [
  (sq 56 (.move (.tmp 5)) 57, []),
  (sq 57 (.move (.tmp 0)) 9, []),
  (sq 58 (.slice 9 (.tmp 57) (some (.const (.int .i64 1))) none none) 9, []),
  (sw 2 (.assign (.tmp 56)) 57, []),
  (sw 3 (.assign (.tmp 58)) 9, []),
  (sw 4 (.assign (.const (.bool true))) 4, [])]
def desc_Method_l0 : Cd := .seq (.seq (.region desc_Method_r6) (.cond (.tmp 19) (.skip) (.exit 0))) (.block 1 (.seq (.region desc_Method_r7) (.seq (.seq (.region desc_Method_r8) (.cond (.tmp 23) (.seq (.region desc_Method_r9) (.ret)) (.skip))) (.seq (.region desc_Method_r10) (.seq (.region desc_Method_r11) (.region desc_Method_r12))))))
def desc_Method : Cd := .seq (.region desc_Method_r0) (.seq (.seq (.region desc_Method_r1) (.cond (.tmp 10) (.seq (.region desc_Method_r2) (.ret)) (.skip))) (.seq (.region desc_Method_r3) (.seq (.region desc_Method_r4) (.seq (.region desc_Method_r5) (.seq (.block 0 (.loop desc_Method_l0)) (.seq (.seq (.region desc_Method_r13) (.cond (.tmp 55) (.seq (.region desc_Method_r14) (.ret)) (.skip))) (.seq (.draw desc_Method_r15) (.ret))))))))
theorem desc_Method_calls {args : List Value} {h : Heap} {R : Value → Heap → Prop} (hl : args.length = 1) (hv : Cd.vc Tryd.prog desc_Method (retQ Tryd.prog [(2, none), (3, none), (4, none)] R) (initEnv args [0, 2, 3, 4, 5, 6, 7, 10, 19, 23, 55]) h) : HCalls Tryd.prog 29 args.toArray h R :=
  hcalls_of_vc (by kernel_rfl) Tryd.func29 (cd := desc_Method) (L := [0, 2, 3, 4, 5, 6, 7, 10, 19, 23, 55]) (by kernel_rfl) (by kernel_rfl) ⟨by rw [hl, Tryd.ntmps29]; decide, by rw [Tryd.ntmps29]; decide⟩ hv
def desc_Method_gos := And.intro (@goVc Tryd.prog _ _ desc_Method.eq_1) (And.intro (@goOps Tryd.prog _ _ desc_Method_r0.eq_1) (And.intro (@goOps Tryd.prog _ _ desc_Method_r1.eq_1) (And.intro (@goOps Tryd.prog _ _ desc_Method_r2.eq_1) (And.intro (@goOps Tryd.prog _ _ desc_Method_r3.eq_1) (And.intro (@goOps Tryd.prog _ _ desc_Method_r4.eq_1) (And.intro (@goOps Tryd.prog _ _ desc_Method_r5.eq_1) (And.intro (@goOps Tryd.prog _ _ desc_Method_r6.eq_1) (And.intro (@goOps Tryd.prog _ _ desc_Method_r7.eq_1) (And.intro (@goOps Tryd.prog _ _ desc_Method_r8.eq_1) (And.intro (@goOps Tryd.prog _ _ desc_Method_r9.eq_1) (And.intro (@goOps Tryd.prog _ _ desc_Method_r10.eq_1) (And.intro (@goOps Tryd.prog _ _ desc_Method_r11.eq_1) (And.intro (@goOps Tryd.prog _ _ desc_Method_r12.eq_1) (And.intro (@goOps Tryd.prog _ _ desc_Method_r13.eq_1) (And.intro (@goOps Tryd.prog _ _ desc_Method_r14.eq_1) (And.intro (@goDraw Tryd.prog _ _ desc_Method_r15.eq_1) (@goVc Tryd.prog _ _ desc_Method_l0.eq_1)))))))))))))))))

/-! jvmcore/desc.Field: function 39: slots [0, 2] -/
def desc_Field_r0 : List Sop := [
  sw 2 (.assign (.const (.bool false))) 4]
def desc_Field_r1 : List Sop := [
  sq 3 (.move (.tmp 0)) 9,
  sq 4 (.binOp .neq 9 (.tmp 3) (.const (.string { data := #[] })) 9) 4,
  sq 5 (.move (.tmp 4)) 4,
  ⟨some (6, false), .move (.tmp 0), 9, some (5, true), true⟩,
  ⟨some (7, false), .call { callee := .value (.func 38), args := #[.tmp 6], argTypes := #[9] }, 3, some (5, true), false⟩,
  ⟨some (8, false), .move (.tmp 0), 9, some (5, true), true⟩,
  ⟨some (9, false), .call { callee := .builtin .len, args := #[.tmp 8], argTypes := #[9] }, 3, some (5, true), true⟩,
  ⟨some (10, false), .binOp .eql 3 (.tmp 7) (.tmp 9) 3, 4, some (5, true), true⟩,
  sq 11 (.pick (.tmp 5) (.tmp 10) (.const (.bool false))) 4,
  sw 2 (.assign (.tmp 11)) 4]
def desc_Field : Cd := .seq (.region desc_Field_r0) (.seq (.region desc_Field_r1) (.ret))
theorem desc_Field_calls {args : List Value} {h : Heap} {R : Value → Heap → Prop} (hl : args.length = 1) (hv : Cd.vc Tryd.prog desc_Field (retQ Tryd.prog [(2, none)] R) (initEnv args [0, 2]) h) : HCalls Tryd.prog 39 args.toArray h R :=
  hcalls_of_vc (by kernel_rfl) Tryd.func39 (cd := desc_Field) (L := [0, 2]) (by kernel_rfl) (by kernel_rfl) ⟨by rw [hl, Tryd.ntmps39]; decide, by rw [Tryd.ntmps39]; decide⟩ hv
def desc_Field_gos := And.intro (@goVc Tryd.prog _ _ desc_Field.eq_1) (And.intro (@goOps Tryd.prog _ _ desc_Field_r0.eq_1) (@goOps Tryd.prog _ _ desc_Field_r1.eq_1))

/-! jvmcore/desc.Slots: function 30: slots [0, 2, 3, 4, 6] -/
def desc_Slots_r0 : List Sop := [
  sw 2 (.assign (.const (.int .i64 0))) 3]
def desc_Slots_r1 : List Sop := [
  sw 3 (.move (.tmp 0)) 9]
def desc_Slots_r2 : List Sop := [
  sq 5 (.binOp .eql 9 (.tmp 3) (.const (.string { data := #[86] })) 9) 4,
  sw 4 (.assign (.tmp 5)) 4]
def desc_Slots_r3 : List Sop := [
  sw 2 (.assign (.const (.int .i64 0))) 3]
def desc_Slots_r4 : List Sop := [
  sq 7 (.binOp .eql 9 (.tmp 3) (.const (.string { data := #[74] })) 9) 4,
  sw 6 (.assign (.tmp 7)) 4]
def desc_Slots_r5 : List Sop := [
  sq 8 (.binOp .eql 9 (.tmp 3) (.const (.string { data := #[68] })) 9) 4,
  sw 6 (.assign (.tmp 8)) 4]
def desc_Slots_r6 : List Sop := [
  sw 2 (.assign (.const (.int .i64 2))) 3]
def desc_Slots_r7 : List Sop := [
  sw 2 (.assign (.const (.int .i64 1))) 3]
def desc_Slots : Cd := .seq (.region desc_Slots_r0) (.seq (.seq (.region desc_Slots_r1) (.block 0 (.seq (.region desc_Slots_r2) (.cond (.tmp 4) (.seq (.region desc_Slots_r3) (.ret)) (.seq (.seq (.region desc_Slots_r4) (.cond (.tmp 6) (.skip) (.region desc_Slots_r5))) (.cond (.tmp 6) (.seq (.region desc_Slots_r6) (.ret)) (.skip))))))) (.seq (.region desc_Slots_r7) (.ret)))
theorem desc_Slots_calls {args : List Value} {h : Heap} {R : Value → Heap → Prop} (hl : args.length = 1) (hv : Cd.vc Tryd.prog desc_Slots (retQ Tryd.prog [(2, none)] R) (initEnv args [0, 2, 3, 4, 6]) h) : HCalls Tryd.prog 30 args.toArray h R :=
  hcalls_of_vc (by kernel_rfl) Tryd.func30 (cd := desc_Slots) (L := [0, 2, 3, 4, 6]) (by kernel_rfl) (by kernel_rfl) ⟨by rw [hl, Tryd.ntmps30]; decide, by rw [Tryd.ntmps30]; decide⟩ hv
def desc_Slots_gos := And.intro (@goVc Tryd.prog _ _ desc_Slots.eq_1) (And.intro (@goOps Tryd.prog _ _ desc_Slots_r0.eq_1) (And.intro (@goOps Tryd.prog _ _ desc_Slots_r1.eq_1) (And.intro (@goOps Tryd.prog _ _ desc_Slots_r2.eq_1) (And.intro (@goOps Tryd.prog _ _ desc_Slots_r3.eq_1) (And.intro (@goOps Tryd.prog _ _ desc_Slots_r4.eq_1) (And.intro (@goOps Tryd.prog _ _ desc_Slots_r5.eq_1) (And.intro (@goOps Tryd.prog _ _ desc_Slots_r6.eq_1) (@goOps Tryd.prog _ _ desc_Slots_r7.eq_1))))))))

/-! jvmcore/desc.part: function 35: slots [0, 2] -/
def desc_part_r0 : List Sop := [
  sw 2 (.assign (.const (.bool false))) 4]
def desc_part_r1 : List Sop := [
  sq 3 (.move (.tmp 0)) 9,
  sq 4 (.binOp .neq 9 (.tmp 3) (.const (.string { data := #[] })) 9) 4,
  sq 5 (.move (.tmp 4)) 4,
  ⟨some (6, false), .move (.tmp 0), 9, some (5, true), true⟩,
  ⟨some (7, false), .call { callee := .value (.func 36), args := #[.tmp 6, .const (.string { data := #[46, 59, 91, 47] })], argTypes := #[9, 9] }, 4, some (5, true), false⟩,
  ⟨some (8, false), .unOp .not 4 (.tmp 7), 4, some (5, true), true⟩,
  sq 9 (.pick (.tmp 5) (.tmp 8) (.const (.bool false))) 4,
  sw 2 (.assign (.tmp 9)) 4]
def desc_part : Cd := .seq (.region desc_part_r0) (.seq (.region desc_part_r1) (.ret))
theorem desc_part_calls {args : List Value} {h : Heap} {R : Value → Heap → Prop} (hl : args.length = 1) (hv : Cd.vc Tryd.prog desc_part (retQ Tryd.prog [(2, none)] R) (initEnv args [0, 2]) h) : HCalls Tryd.prog 35 args.toArray h R :=
  hcalls_of_vc (by kernel_rfl) Tryd.func35 (cd := desc_part) (L := [0, 2]) (by kernel_rfl) (by kernel_rfl) ⟨by rw [hl, Tryd.ntmps35]; decide, by rw [Tryd.ntmps35]; decide⟩ hv
def desc_part_gos := And.intro (@goVc Tryd.prog _ _ desc_part.eq_1) (And.intro (@goOps Tryd.prog _ _ desc_part_r0.eq_1) (@goOps Tryd.prog _ _ desc_part_r1.eq_1))

/-! jvmcore/desc.path: function 45: slots [0, 2, 4, 6, 7, 8, 9, 14] -/
def desc_path_r0 : List Sop := [
  sw 2 (.assign (.const (.bool false))) 4]
def desc_path_r1 : List Sop := [
  sq 5 (.move (.tmp 0)) 9,
  sa 6 (.call { callee := .value (.func 52), args := #[.tmp 5, .const (.string { data := #[47] })], argTypes := #[9, 9] }) 57,
  sw 7 (.call { callee := .builtin .len, args := #[.tmp 6], argTypes := #[57] }) 3,
  sw 8 (.move (.const (.int .i64 0))) 3]
def desc_path_r2 : List Sop := [
  sw 9 (.binOp .lss 3 (.tmp 8) (.tmp 7) 3) 0]
def desc_path_r3 : List Sop := [
  sq 10 (.indexAddr 57 (.tmp 6) (.tmp 8)) 0,
  sq 11 (.load 9 (.tmp 10)) 9,
  sw 4 (.assign (.tmp 11)) 9]
def desc_path_r4 : List Sop := [
  sq 12 (.move (.tmp 4)) 9,
  sc 13 (.call { callee := .value (.func 35), args := #[.tmp 12], argTypes := #[9] }) 4,
  sw 14 (.unOp .not 4 (.tmp 13)) 4]
def desc_path_r5 : List Sop := [
  sw 2 (.assign (.const (.bool false))) 4]
def desc_path_r6 : List Sop := [
  sq 15 (.binOp .add 3 (.tmp 8) (.const (.int .i64 1)) 3) 3,
  sw 8 (.move (.tmp 15)) 3]
def desc_path_r7 : List Sop := [
  sw 2 (.assign (.const (.bool true))) 4]
def desc_path_l0 : Cd := .seq (.region desc_path_r2) (.seq (.cond (.tmp 9) (.skip) (.exit 0)) (.seq (.block 1 (.seq (.region desc_path_r3) (.seq (.region desc_path_r4) (.cond (.tmp 14) (.seq (.region desc_path_r5) (.ret)) (.skip))))) (.region desc_path_r6)))
def desc_path : Cd := .seq (.region desc_path_r0) (.seq (.seq (.region desc_path_r1) (.block 0 (.loop desc_path_l0))) (.seq (.region desc_path_r7) (.ret)))
theorem desc_path_calls {args : List Value} {h : Heap} {R : Value → Heap → Prop} (hl : args.length = 1) (hv : Cd.vc Tryd.prog desc_path (retQ Tryd.prog [(2, none)] R) (initEnv args [0, 2, 4, 6, 7, 8, 9, 14]) h) : HCalls Tryd.prog 45 args.toArray h R :=
  hcalls_of_vc (by kernel_rfl) Tryd.func45 (cd := desc_path) (L := [0, 2, 4, 6, 7, 8, 9, 14]) (by kernel_rfl) (by kernel_rfl) ⟨by rw [hl, Tryd.ntmps45]; decide, by rw [Tryd.ntmps45]; decide⟩ hv
def desc_path_gos := And.intro (@goVc Tryd.prog _ _ desc_path.eq_1) (And.intro (@goOps Tryd.prog _ _ desc_path_r0.eq_1) (And.intro (@goOps Tryd.prog _ _ desc_path_r1.eq_1) (And.intro (@goOps Tryd.prog _ _ desc_path_r2.eq_1) (And.intro (@goOps Tryd.prog _ _ desc_path_r3.eq_1) (And.intro (@goOps Tryd.prog _ _ desc_path_r4.eq_1) (And.intro (@goOps Tryd.prog _ _ desc_path_r5.eq_1) (And.intro (@goOps Tryd.prog _ _ desc_path_r6.eq_1) (And.intro (@goOps Tryd.prog _ _ desc_path_r7.eq_1) (@goVc Tryd.prog _ _ desc_path_l0.eq_1)))))))))

/-! jvmcore/desc.next: function 38: slots [0, 2, 3, 4, 14, 24, 29, 35, 52] -/
def desc_next_r0 : List Sop := [
  sw 2 (.assign (.const (.int .i64 0))) 3]
def desc_next_r1 : List Sop := [
  sw 3 (.assign (.const (.int .i64 0))) 3]
def desc_next_r2 : List Sop := [
  sq 5 (.move (.tmp 3)) 3,
  sq 6 (.move (.tmp 0)) 9,
  sq 7 (.call { callee := .builtin .len, args := #[.tmp 6], argTypes := #[9] }) 3,
  sq 8 (.binOp .lss 3 (.tmp 5) (.tmp 7) 3) 4,
  sq 9 (.move (.tmp 8)) 4,
  ⟨some (10, false), .move (.tmp 0), 9, some (9, true), true⟩,
  ⟨some (11, false), .move (.tmp 3), 3, some (9, true), true⟩,
  ⟨some (12, false), .index 9 (.tmp 10) (.tmp 11), 5, some (9, true), true⟩,
  ⟨some (13, false), .binOp .eql 5 (.tmp 12) (.const (.int .u8 91)) 5, 4, some (9, true), true⟩,
  sw 14 (.pick (.tmp 9) (.tmp 13) (.const (.bool false))) 4]
def desc_next_r3 : List Sop := [
  sq 15 (.move (.tmp 3)) 3,
  sq 16 (.binOp .add 3 (.tmp 15) (.const (.int .i64 1)) 3) 3,
  sw 3 (.assign (.tmp 16)) 3]
def desc_next_r4 : List Sop := [
  sq 17 (.move (.tmp 3)) 3,
  sq 18 (.binOp .gtr 3 (.tmp 17) (.const (.int .i64 255)) 3) 4,
  sq 19 (.move (.tmp 18)) 4,
  ⟨some (20, false), .move (.tmp 3), 3, some (19, false), true⟩,
  ⟨some (21, false), .move (.tmp 0), 9, some (19, false), true⟩,
  ⟨some (22, false), .call { callee := .builtin .len, args := #[.tmp 21], argTypes := #[9] }, 3, some (19, false), true⟩,
  ⟨some (23, false), .binOp .eql 3 (.tmp 20) (.tmp 22) 3, 4, some (19, false), true⟩,
  sw 24 (.pick (.tmp 19) (.const (.bool true)) (.tmp 23)) 4]
def desc_next_r5 : List Sop := [
  sw 2 (.assign (.const (.int .i64 0))) 3]
def desc_next_r6 : List Sop := [
  sq 25 (.move (.tmp 0)) 9,
  sq 26 (.move (.tmp 3)) 3,
  sq 27 (.index 9 (.tmp 25) (.tmp 26)) 5,
  sc 28 (.call { callee := .value (.func 44), args := #[.const (.string { data := #[66, 67, 68, 70, 73, 74, 83, 90] }), .tmp 27], argTypes := #[9, 5] }) 3,
  sw 29 (.binOp .geq 3 (.tmp 28) (.const (.int .i64 0)) 3) 4]
def desc_next_r7 : List Sop := [
  sq 30 (.move (.tmp 3)) 3,
  sq 31 (.binOp .add 3 (.tmp 30) (.const (.int .i64 1)) 3) 3,
  sw 2 (.assign (.tmp 31)) 3]
def desc_next_r8 : List Sop := [
  sq 32 (.move (.tmp 0)) 9,
  sq 33 (.move (.tmp 3)) 3,
  sq 34 (.index 9 (.tmp 32) (.tmp 33)) 5,
  sw 35 (.binOp .neq 5 (.tmp 34) (.const (.int .u8 76)) 5) 4]
def desc_next_r9 : List Sop := [
  sw 2 (.assign (.const (.int .i64 0))) 3]
def desc_next_r10 : List Sop := [
  sq 36 (.move (.tmp 0)) 9,
  sq 37 (.move (.tmp 3)) 3,
  sq 38 (.slice 9 (.tmp 36) (some (.tmp 37)) none none) 9,
  sc 39 (.call { callee := .value (.func 44), args := #[.tmp 38, .const (.int .u8 59)], argTypes := #[9, 5] }) 3,
  sw 4 (.assign (.tmp 39)) 3]
def desc_next_r11 : List Sop := [
  sq 40 (.move (.tmp 4)) 3,
  sq 41 (.binOp .lss 3 (.tmp 40) (.const (.int .i64 0)) 3) 4,
  sq 42 (.move (.tmp 41)) 4,
  ⟨some (43, false), .move (.tmp 0), 9, some (42, false), true⟩,
  ⟨some (44, false), .move (.tmp 3), 3, some (42, false), true⟩,
  ⟨some (45, false), .binOp .add 3 (.tmp 44) (.const (.int .i64 1)) 3, 3, some (42, false), true⟩,
  ⟨some (46, false), .move (.tmp 3), 3, some (42, false), true⟩,
  ⟨some (47, false), .move (.tmp 4), 3, some (42, false), true⟩,
  ⟨some (48, false), .binOp .add 3 (.tmp 46) (.tmp 47) 3, 3, some (42, false), true⟩,
  ⟨some (49, false), .slice 9 (.tmp 43) (some (.tmp 45)) (some (.tmp 48)) none, 9, some (42, false), true⟩,
  ⟨some (50, false), .call { callee := .value (.func 45), args := #[.tmp 49], argTypes := #[9] }, 4, some (42, false), false⟩,
  ⟨some (51, false), .unOp .not 4 (.tmp 50), 4, some (42, false), true⟩,
  sw 52 (.pick (.tmp 42) (.const (.bool true)) (.tmp 51)) 4]
def desc_next_r12 : List Sop := [
  sw 2 (.assign (.const (.int .i64 0))) 3]
def desc_next_r13 : List Sop := [
  sq 53 (.move (.tmp 3)) 3,
  sq 54 (.move (.tmp 4)) 3,
  sq 55 (.binOp .add 3 (.tmp 53) (.tmp 54) 3) 3,
  sq 56 (.binOp .add 3 (.tmp 55) (.const (.int .i64 1)) 3) 3,
  sw 2 (.assign (.tmp 56)) 3]
def desc_next_l0 : Cd := .seq (.seq (.region desc_next_r2) (.cond (.tmp 14) (.skip) (.exit 0))) (.block 1 (.region desc_next_r3))
def desc_next : Cd := .seq (.region desc_next_r0) (.seq (.region desc_next_r1) (.seq (.block 0 (.loop desc_next_l0)) (.seq (.seq (.region desc_next_r4) (.cond (.tmp 24) (.seq (.region desc_next_r5) (.ret)) (.skip))) (.seq (.seq (.region desc_next_r6) (.cond (.tmp 29) (.seq (.region desc_next_r7) (.ret)) (.skip))) (.seq (.seq (.region desc_next_r8) (.cond (.tmp 35) (.seq (.region desc_next_r9) (.ret)) (.skip))) (.seq (.region desc_next_r10) (.seq (.seq (.region desc_next_r11) (.cond (.tmp 52) (.seq (.region desc_next_r12) (.ret)) (.skip))) (.seq (.region desc_next_r13) (.ret)))))))))
theorem desc_next_calls {args : List Value} {h : Heap} {R : Value → Heap → Prop} (hl : args.length = 1) (hv : Cd.vc Tryd.prog desc_next (retQ Tryd.prog [(2, none)] R) (initEnv args [0, 2, 3, 4, 14, 24, 29, 35, 52]) h) : HCalls Tryd.prog 38 args.toArray h R :=
  hcalls_of_vc (by kernel_rfl) Tryd.func38 (cd := desc_next) (L := [0, 2, 3, 4, 14, 24, 29, 35, 52]) (by kernel_rfl) (by kernel_rfl) ⟨by rw [hl, Tryd.ntmps38]; decide, by rw [Tryd.ntmps38]; decide⟩ hv
def desc_next_gos := And.intro (@goVc Tryd.prog _ _ desc_next.eq_1) (And.intro (@goOps Tryd.prog _ _ desc_next_r0.eq_1) (And.intro (@goOps Tryd.prog _ _ desc_next_r1.eq_1) (And.intro (@goOps Tryd.prog _ _ desc_next_r2.eq_1) (And.intro (@goOps Tryd.prog _ _ desc_next_r3.eq_1) (And.intro (@goOps Tryd.prog _ _ desc_next_r4.eq_1) (And.intro (@goOps Tryd.prog _ _ desc_next_r5.eq_1) (And.intro (@goOps Tryd.prog _ _ desc_next_r6.eq_1) (And.intro (@goOps Tryd.prog _ _ desc_next_r7.eq_1) (And.intro (@goOps Tryd.prog _ _ desc_next_r8.eq_1) (And.intro (@goOps Tryd.prog _ _ desc_next_r9.eq_1) (And.intro (@goOps Tryd.prog _ _ desc_next_r10.eq_1) (And.intro (@goOps Tryd.prog _ _ desc_next_r11.eq_1) (And.intro (@goOps Tryd.prog _ _ desc_next_r12.eq_1) (And.intro (@goOps Tryd.prog _ _ desc_next_r13.eq_1) (@goVc Tryd.prog _ _ desc_next_l0.eq_1)))))))))))))))

end Go.Proofs.YtgdmoimclelfhaaDoor.C
