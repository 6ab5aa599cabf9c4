/- The stripped code of some functions of this seat's program, printed by a program; that it is that code is proved by the kernel. No condition. -/

import Derived.Test.YtohkbpnblkkdgaaProg

import Derived.Test.YtohkbpnblkkdgaaVcJ

set_option maxRecDepth 100000

set_option linter.defProp false

namespace Go.Proofs.Ytohkbpnblkkdgaa.C

open Go.Vc

/-! jvmcore/jvmcorelaw3.ClassRounds: function 7: slots [0, 2, 4, 5, 6, 8, 9, 13, 28, 36, 43] -/
def law3_ClassRounds_r0 : List Sop := [
  sw 2 (.assign (.const (.bool false))) 4]
def law3_ClassRounds_r1 : List Sop := [
  sq 11 (.move (.tmp 0)) 9,
  sq 12 (.call { callee := .builtin .len, args := #[.tmp 11], argTypes := #[9] }) 3,
  sw 13 (.binOp .gtr 3 (.tmp 12) (.const (.int .i64 32768)) 3) 4]
def law3_ClassRounds_r2 : List Sop := [
  sw 2 (.assign (.const (.bool true))) 4]
def law3_ClassRounds_r3 : List Sop := [
  sc 15 (.call { callee := .value (.func 19), args := #[.const (.string { data := #[202, 254, 186, 191] })], argTypes := #[9] }) 50,
  sq 14 (.move (.tmp 15)) 50,
  sq 16 (.extract (.tmp 14) 0) 43,
  sq 17 (.extract (.tmp 14) 1) 27,
  sq 18 (.extract (.tmp 14) 2) 3,
  sc 3 (.alloc 43) 0,
  ss (.store 43 (.tmp 3) (.tmp 16)),
  sw 4 (.assign (.tmp 17)) 27,
  sw 5 (.assign (.tmp 18)) 3]
def law3_ClassRounds_r4 : List Sop := [
  sq 19 (.move (.tmp 4)) 27,
  sq 20 (.binOp .neq 27 (.tmp 19) (.const (.int .i64 3)) 27) 4,
  sq 21 (.move (.tmp 20)) 4,
  ⟨some (22, false), .move (.tmp 5), 3, some (21, false), true⟩,
  ⟨some (23, false), .binOp .neq 3 (.tmp 22) (.const (.int .i64 0)) 3, 4, some (21, false), true⟩,
  sq 24 (.pick (.tmp 21) (.const (.bool true)) (.tmp 23)) 4,
  sq 25 (.move (.tmp 24)) 4,
  ⟨some (26, false), .call { callee := .value (.func 21), args := #[], argTypes := #[] }, 4, some (25, false), false⟩,
  ⟨some (27, false), .unOp .not 4 (.tmp 26), 4, some (25, false), true⟩,
  sw 28 (.pick (.tmp 25) (.const (.bool true)) (.tmp 27)) 4]
def law3_ClassRounds_r5 : List Sop := [
  sw 2 (.assign (.const (.bool false))) 4]
def law3_ClassRounds_r6 : List Sop := [
  sq 30 (.move (.tmp 0)) 9,
  sc 31 (.call { callee := .value (.func 19), args := #[.tmp 30], argTypes := #[9] }) 50,
  sq 29 (.move (.tmp 31)) 50,
  sq 32 (.extract (.tmp 29) 0) 43,
  sq 33 (.extract (.tmp 29) 1) 27,
  sq 34 (.extract (.tmp 29) 2) 3,
  sa 6 (.alloc 43) 0,
  ss (.store 43 (.tmp 6) (.tmp 32)),
  sw 4 (.assign (.tmp 33)) 27,
  sq 7 (.assign (.tmp 34)) 3]
def law3_ClassRounds_r7 : List Sop := [
  sq 35 (.move (.tmp 4)) 27,
  sw 36 (.binOp .neq 27 (.tmp 35) (.const (.int .i64 0)) 27) 4]
def law3_ClassRounds_r8 : List Sop := [
  sw 2 (.assign (.const (.bool true))) 4]
def law3_ClassRounds_r9 : List Sop := [
  sq 38 (.load 43 (.tmp 6)) 43,
  sc 39 (.call { callee := .value (.func 16), args := #[.tmp 38], argTypes := #[43] }) 46,
  sq 37 (.move (.tmp 39)) 46,
  sq 40 (.extract (.tmp 37) 0) 9,
  sq 41 (.extract (.tmp 37) 1) 27,
  sw 8 (.assign (.tmp 40)) 9,
  sw 4 (.assign (.tmp 41)) 27]
def law3_ClassRounds_r10 : List Sop := [
  sq 42 (.move (.tmp 4)) 27,
  sw 43 (.binOp .neq 27 (.tmp 42) (.const (.int .i64 0)) 27) 4]
def law3_ClassRounds_r11 : List Sop := [
  sw 2 (.assign (.const (.bool false))) 4]
def law3_ClassRounds_r12 : List Sop := [
  sq 45 (.move (.tmp 8)) 9,
  sc 46 (.call { callee := .value (.func 19), args := #[.tmp 45], argTypes := #[9] }) 50,
  sq 44 (.move (.tmp 46)) 50,
  sq 47 (.extract (.tmp 44) 0) 43,
  sq 48 (.extract (.tmp 44) 1) 27,
  sq 49 (.extract (.tmp 44) 2) 3,
  sa 9 (.alloc 43) 0,
  ss (.store 43 (.tmp 9) (.tmp 47)),
  sw 4 (.assign (.tmp 48)) 27,
  sq 10 (.assign (.tmp 49)) 3]
def law3_ClassRounds_r13 : List Sop := [
  sq 50 (.move (.tmp 4)) 27,
  sq 51 (.binOp .eql 27 (.tmp 50) (.const (.int .i64 0)) 27) 4,
  sq 52 (.move (.tmp 51)) 4,
  ⟨some (53, false), .move (.tmp 8), 9, some (52, true), true⟩,
  ⟨some (54, false), .call { callee := .builtin .len, args := #[.tmp 53], argTypes := #[9] }, 3, some (52, true), true⟩,
  ⟨some (55, false), .move (.tmp 0), 9, some (52, true), true⟩,
  ⟨some (56, false), .call { callee := .builtin .len, args := #[.tmp 55], argTypes := #[9] }, 3, some (52, true), true⟩,
  ⟨some (57, false), .binOp .leq 3 (.tmp 54) (.tmp 56) 3, 4, some (52, true), true⟩,
  sq 58 (.pick (.tmp 52) (.tmp 57) (.const (.bool false))) 4,
  sq 59 (.move (.tmp 58)) 4,
  ⟨some (60, false), .load 43 (.tmp 6), 43, some (59, true), true⟩,
  ⟨some (61, false), .load 43 (.tmp 9), 43, some (59, true), true⟩,
  ⟨some (62, false), .call { callee := .value (.func 18), args := #[.tmp 60, .tmp 61], argTypes := #[43, 43] }, 4, some (59, true), false⟩,
  sq 63 (.pick (.tmp 59) (.tmp 62) (.const (.bool false))) 4,
  sw 2 (.assign (.tmp 63)) 4]
def law3_ClassRounds : Cd := .seq (.region law3_ClassRounds_r0) (.seq (.seq (.region law3_ClassRounds_r1) (.cond (.tmp 13) (.seq (.region law3_ClassRounds_r2) (.ret)) (.skip))) (.seq (.region law3_ClassRounds_r3) (.seq (.seq (.region law3_ClassRounds_r4) (.cond (.tmp 28) (.seq (.region law3_ClassRounds_r5) (.ret)) (.skip))) (.seq (.region law3_ClassRounds_r6) (.seq (.seq (.region law3_ClassRounds_r7) (.cond (.tmp 36) (.seq (.region law3_ClassRounds_r8) (.ret)) (.skip))) (.seq (.region law3_ClassRounds_r9) (.seq (.seq (.region law3_ClassRounds_r10) (.cond (.tmp 43) (.seq (.region law3_ClassRounds_r11) (.ret)) (.skip))) (.seq (.region law3_ClassRounds_r12) (.seq (.region law3_ClassRounds_r13) (.ret))))))))))
theorem law3_ClassRounds_calls {args : List Value} {h : Heap} {R : Value → Heap → Prop} (hl : args.length = 1) (hv : Cd.vc Try.prog law3_ClassRounds (retQ Try.prog [(2, none)] R) (initEnv args [0, 2, 4, 5, 6, 8, 9, 13, 28, 36, 43]) h) : HCalls Try.prog 7 args.toArray h R :=
  hcalls_of_vc (by kernel_rfl) Try.func7 (cd := law3_ClassRounds) (L := [0, 2, 4, 5, 6, 8, 9, 13, 28, 36, 43]) (by kernel_rfl) (by kernel_rfl) ⟨by rw [hl, Try.ntmps7]; decide, by rw [Try.ntmps7]; decide⟩ hv
def law3_ClassRounds_gos := And.intro (@goVc Try.prog _ _ law3_ClassRounds.eq_1) (And.intro (@goOps Try.prog _ _ law3_ClassRounds_r0.eq_1) (And.intro (@goOps Try.prog _ _ law3_ClassRounds_r1.eq_1) (And.intro (@goOps Try.prog _ _ law3_ClassRounds_r2.eq_1) (And.intro (@goOps Try.prog _ _ law3_ClassRounds_r3.eq_1) (And.intro (@goOps Try.prog _ _ law3_ClassRounds_r4.eq_1) (And.intro (@goOps Try.prog _ _ law3_ClassRounds_r5.eq_1) (And.intro (@goOps Try.prog _ _ law3_ClassRounds_r6.eq_1) (And.intro (@goOps Try.prog _ _ law3_ClassRounds_r7.eq_1) (And.intro (@goOps Try.prog _ _ law3_ClassRounds_r8.eq_1) (And.intro (@goOps Try.prog _ _ law3_ClassRounds_r9.eq_1) (And.intro (@goOps Try.prog _ _ law3_ClassRounds_r10.eq_1) (And.intro (@goOps Try.prog _ _ law3_ClassRounds_r11.eq_1) (And.intro (@goOps Try.prog _ _ law3_ClassRounds_r12.eq_1) (@goOps Try.prog _ _ law3_ClassRounds_r13.eq_1))))))))))))))

/-! jvmcore/jvmcorelaw3.classWorks: function 21: slots [0, 1, 2, 3, 5, 6, 8, 43] -/
def law3_classWorks_r0 : List Sop := [
  sw 0 (.assign (.const (.bool false))) 4]
def law3_classWorks_r1 : List Sop := [
  sq 9 (.build 76 #[]) 76,
  sq 10 (.build 76 #[(0, .const (.int .u8 1)), (1, .const (.string { data := #[65] }))]) 76,
  sq 11 (.build 76 #[(0, .const (.int .u8 7)), (3, .const (.int .u16 1))]) 76,
  sq 12 (.build 76 #[(0, .const (.int .u8 1)), (1, .const (.string { data := #[106, 97, 118, 97, 47, 108, 97, 110, 103, 47, 79, 98, 106, 101, 99, 116] }))]) 76,
  sq 13 (.build 76 #[(0, .const (.int .u8 7)), (3, .const (.int .u16 3))]) 76,
  sq 14 (.build 76 #[(0, .const (.int .u8 1)), (1, .const (.string { data := #[67, 111, 100, 101] }))]) 76,
  sq 15 (.build 76 #[(0, .const (.int .u8 1)), (1, .const (.string { data := #[40, 41, 86] }))]) 76,
  sq 16 (.build 76 #[(0, .const (.int .u8 1)), (1, .const (.string { data := #[73] }))]) 76,
  sc 17 (.buildSlice 22 8 #[(0, .tmp 9), (1, .tmp 10), (2, .tmp 11), (3, .tmp 12), (4, .tmp 13), (5, .tmp 14), (6, .tmp 15), (7, .tmp 16)]) 22,
  sw 1 (.assign (.tmp 17)) 22]
def law3_classWorks_r2 : List Sop := [
  sq 18 (.move (.tmp 1)) 22,
  sq 19 (.build 89 #[(0, .const (.int .u16 1)), (1, .const (.int .u16 1)), (2, .const (.int .u16 7))]) 89,
  sc 20 (.buildSlice 40 1 #[(0, .tmp 19)]) 40,
  sq 21 (.build 79 #[(0, .const (.int .i64 1)), (2, .const (.string { data := #[177] }))]) 79,
  sq 22 (.build 81 #[(0, .const (.int .u16 9)), (1, .const (.int .u16 1)), (2, .const (.int .u16 6)), (3, .const (.bool true)), (4, .tmp 21)]) 81,
  sc 23 (.buildSlice 41 1 #[(0, .tmp 22)]) 41,
  sq 24 (.build 43 #[(1, .const (.int .u16 51)), (2, .const (.int .u16 33)), (5, .tmp 18), (3, .const (.int .u16 2)), (4, .const (.int .u16 4)), (7, .tmp 20), (8, .tmp 23)]) 43,
  sa 2 (.alloc 43) 0,
  ss (.store 43 (.tmp 2) (.tmp 24))]
def law3_classWorks_r3 : List Sop := [
  sq 26 (.load 43 (.tmp 2)) 43,
  sc 27 (.call { callee := .value (.func 17), args := #[.tmp 26], argTypes := #[43] }) 46,
  sq 25 (.move (.tmp 27)) 46,
  sq 28 (.extract (.tmp 25) 0) 9,
  sq 29 (.extract (.tmp 25) 1) 27,
  sw 3 (.assign (.tmp 28)) 9,
  sq 4 (.assign (.tmp 29)) 27]
def law3_classWorks_r4 : List Sop := [
  sq 31 (.move (.tmp 3)) 9,
  sc 32 (.call { callee := .value (.func 19), args := #[.tmp 31], argTypes := #[9] }) 50,
  sq 30 (.move (.tmp 32)) 50,
  sq 33 (.extract (.tmp 30) 0) 43,
  sq 34 (.extract (.tmp 30) 1) 27,
  sq 35 (.extract (.tmp 30) 2) 3,
  sa 5 (.alloc 43) 0,
  ss (.store 43 (.tmp 5) (.tmp 33)),
  sw 6 (.assign (.tmp 34)) 27,
  sq 7 (.assign (.tmp 35)) 3]
def law3_classWorks_r5 : List Sop := [
  sq 36 (.move (.tmp 6)) 27,
  sq 37 (.binOp .neq 27 (.tmp 36) (.const (.int .i64 0)) 27) 4,
  sq 38 (.move (.tmp 37)) 4,
  ⟨some (39, false), .load 43 (.tmp 5), 43, some (38, false), true⟩,
  ⟨some (40, false), .load 43 (.tmp 2), 43, some (38, false), true⟩,
  ⟨some (41, false), .call { callee := .value (.func 18), args := #[.tmp 39, .tmp 40], argTypes := #[43, 43] }, 4, some (38, false), false⟩,
  ⟨some (42, false), .unOp .not 4 (.tmp 41), 4, some (38, false), true⟩,
  sw 43 (.pick (.tmp 38) (.const (.bool true)) (.tmp 42)) 4]
def law3_classWorks_r6 : List Sop := [
  sw 0 (.assign (.const (.bool false))) 4]
def law3_classWorks_r7 : List Sop := [
  sq 45 (.load 43 (.tmp 5)) 43,
  sc 46 (.call { callee := .value (.func 16), args := #[.tmp 45], argTypes := #[43] }) 46,
  sq 44 (.move (.tmp 46)) 46,
  sq 47 (.extract (.tmp 44) 0) 9,
  sq 48 (.extract (.tmp 44) 1) 27,
  sw 8 (.assign (.tmp 47)) 9,
  sw 6 (.assign (.tmp 48)) 27]
def law3_classWorks_r8 : List Sop := [
  sq 49 (.move (.tmp 6)) 27,
  sq 50 (.binOp .eql 27 (.tmp 49) (.const (.int .i64 0)) 27) 4,
  sq 51 (.move (.tmp 50)) 4,
  ⟨some (52, false), .move (.tmp 8), 9, some (51, true), true⟩,
  ⟨some (53, false), .move (.tmp 3), 9, some (51, true), true⟩,
  ⟨some (54, false), .binOp .eql 9 (.tmp 52) (.tmp 53) 9, 4, some (51, true), true⟩,
  sq 55 (.pick (.tmp 51) (.tmp 54) (.const (.bool false))) 4,
  sw 0 (.assign (.tmp 55)) 4]
def law3_classWorks : Cd := .seq (.region law3_classWorks_r0) (.seq (.region law3_classWorks_r1) (.seq (.region law3_classWorks_r2) (.seq (.region law3_classWorks_r3) (.seq (.region law3_classWorks_r4) (.seq (.seq (.region law3_classWorks_r5) (.cond (.tmp 43) (.seq (.region law3_classWorks_r6) (.ret)) (.skip))) (.seq (.region law3_classWorks_r7) (.seq (.region law3_classWorks_r8) (.ret))))))))
theorem law3_classWorks_calls {args : List Value} {h : Heap} {R : Value → Heap → Prop} (hl : args.length = 0) (hv : Cd.vc Try.prog law3_classWorks (retQ Try.prog [(0, none)] R) (initEnv args [0, 1, 2, 3, 5, 6, 8, 43]) h) : HCalls Try.prog 21 args.toArray h R :=
  hcalls_of_vc (by kernel_rfl) Try.func21 (cd := law3_classWorks) (L := [0, 1, 2, 3, 5, 6, 8, 43]) (by kernel_rfl) (by kernel_rfl) ⟨by rw [hl, Try.ntmps21]; decide, by rw [Try.ntmps21]; decide⟩ hv
def law3_classWorks_gos := And.intro (@goVc Try.prog _ _ law3_classWorks.eq_1) (And.intro (@goOps Try.prog _ _ law3_classWorks_r0.eq_1) (And.intro (@goOps Try.prog _ _ law3_classWorks_r1.eq_1) (And.intro (@goOps Try.prog _ _ law3_classWorks_r2.eq_1) (And.intro (@goOps Try.prog _ _ law3_classWorks_r3.eq_1) (And.intro (@goOps Try.prog _ _ law3_classWorks_r4.eq_1) (And.intro (@goOps Try.prog _ _ law3_classWorks_r5.eq_1) (And.intro (@goOps Try.prog _ _ law3_classWorks_r6.eq_1) (And.intro (@goOps Try.prog _ _ law3_classWorks_r7.eq_1) (@goOps Try.prog _ _ law3_classWorks_r8.eq_1)))))))))

end Go.Proofs.Ytohkbpnblkkdgaa.C
