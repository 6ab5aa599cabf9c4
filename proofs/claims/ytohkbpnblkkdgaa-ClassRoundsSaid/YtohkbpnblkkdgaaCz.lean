/- The stripped code of some functions of this seat's program, printed by a program; that it is that code is proved by the kernel. No condition. -/

import Derived.Test.YtohkbpnblkkdgaaProg

import Derived.Test.YtohkbpnblkkdgaaVcJ

set_option maxRecDepth 100000

set_option linter.defProp false

namespace Go.Proofs.Ytohkbpnblkkdgaa.C

open Go.Vc

/-! (*jvmcore/class.reader).attributes: function 56: slots [0, 1, 4, 5, 6, 7, 8, 23, 43, 64, 76, 91] -/
def cr_attributes_r0 : List Sop := [
  sq 9 (.move (.tmp 0)) 100,
  sq 10 (.nilCheck (.tmp 9)) 0,
  sq 11 (.fieldAddr 102 (.tmp 10) 0) 0,
  sq 12 (.load 54 (.tmp 11)) 54,
  sc 13 (.call { callee := .value (.func 23), args := #[.tmp 12, .const (.int .i64 2)], argTypes := #[54, 3] }) 3,
  sw 4 (.assign (.tmp 13)) 3]
def cr_attributes_r1 : List Sop := [
  sq 14 (.move (.tmp 4)) 3,
  sq 15 (.binOp .gtr 3 (.tmp 14) (.const (.int .i64 0)) 3) 4,
  sq 16 (.move (.tmp 15)) 4,
  ⟨some (17, false), .move (.tmp 0), 100, some (16, true), true⟩,
  ⟨some (18, false), .nilCheck (.tmp 17), 0, some (16, true), true⟩,
  ⟨some (19, false), .fieldAddr 102 (.tmp 18) 0, 0, some (16, true), true⟩,
  ⟨some (20, false), .load 54 (.tmp 19), 54, some (16, true), true⟩,
  ⟨some (21, false), .call { callee := .value (.func 25), args := #[.tmp 20], argTypes := #[54] }, 4, some (16, true), false⟩,
  ⟨some (22, false), .unOp .not 4 (.tmp 21), 4, some (16, true), true⟩,
  sw 23 (.pick (.tmp 16) (.tmp 22) (.const (.bool false))) 4]
def cr_attributes_r2 : List Sop := [
  sq 26 (.move (.tmp 0)) 100,
  sq 27 (.nilCheck (.tmp 26)) 0,
  sq 28 (.fieldAddr 102 (.tmp 27) 0) 0,
  sq 29 (.load 54 (.tmp 28)) 54,
  sc 30 (.call { callee := .value (.func 29), args := #[.tmp 29], argTypes := #[54] }) 3,
  sw 5 (.assign (.tmp 30)) 3]
def cr_attributes_r3 : List Sop := [
  sq 31 (.move (.tmp 0)) 100,
  sq 32 (.nilCheck (.tmp 31)) 0,
  sq 33 (.fieldAddr 102 (.tmp 32) 0) 0,
  sq 34 (.load 54 (.tmp 33)) 54,
  sc 35 (.call { callee := .value (.func 52), args := #[.tmp 34], argTypes := #[54] }) 38,
  sw 6 (.assign (.tmp 35)) 38]
def cr_attributes_r4 : List Sop := [
  sq 36 (.move (.tmp 0)) 100,
  sq 37 (.nilCheck (.tmp 36)) 0,
  sq 38 (.fieldAddr 102 (.tmp 37) 1) 0,
  sq 39 (.fieldAddr 43 (.tmp 38) 5) 0,
  sq 40 (.load 22 (.tmp 39)) 22,
  sq 41 (.move (.tmp 6)) 38,
  sc 42 (.call { callee := .value (.func 83), args := #[.tmp 40, .tmp 41, .const (.int .u8 1)], argTypes := #[22, 38, 5] }) 4,
  sw 43 (.unOp .not 4 (.tmp 42)) 4]
def cr_attributes_r5 : List Sop := [
  sq 44 (.move (.tmp 0)) 100,
  sq 45 (.nilCheck (.tmp 44)) 0,
  sq 46 (.fieldAddr 102 (.tmp 45) 0) 0,
  sq 47 (.load 54 (.tmp 46)) 54,
  sq 48 (.move (.tmp 5)) 3,
  sc 49 (.call { callee := .value (.func 28), args := #[.tmp 47, .const (.int .i64 7), .tmp 48], argTypes := #[54, 27, 3] }) 0]
def cr_attributes_r6 : List Sop := [
  sq 50 (.move (.tmp 0)) 100,
  sq 51 (.nilCheck (.tmp 50)) 0,
  sq 52 (.fieldAddr 102 (.tmp 51) 0) 0,
  sq 53 (.load 54 (.tmp 52)) 54,
  sc 54 (.call { callee := .value (.func 23), args := #[.tmp 53, .const (.int .i64 4)], argTypes := #[54, 3] }) 3,
  sw 7 (.assign (.tmp 54)) 3]
def cr_attributes_r7 : List Sop := [
  sq 55 (.move (.tmp 0)) 100,
  sq 56 (.nilCheck (.tmp 55)) 0,
  sq 57 (.fieldAddr 102 (.tmp 56) 0) 0,
  sq 58 (.load 54 (.tmp 57)) 54,
  sc 59 (.call { callee := .value (.func 29), args := #[.tmp 58], argTypes := #[54] }) 3,
  sw 8 (.assign (.tmp 59)) 3]
def cr_attributes_r8 : List Sop := [
  sq 60 (.move (.tmp 0)) 100,
  sq 61 (.nilCheck (.tmp 60)) 0,
  sq 62 (.fieldAddr 102 (.tmp 61) 0) 0,
  sq 63 (.load 54 (.tmp 62)) 54,
  sa 64 (.call { callee := .value (.func 25), args := #[.tmp 63], argTypes := #[54] }) 4]
def cr_attributes_r9 : List Sop := [
  sq 65 (.move (.tmp 1)) 109,
  sq 66 (.move (.tmp 0)) 100,
  sq 67 (.nilCheck (.tmp 66)) 0,
  sq 68 (.fieldAddr 102 (.tmp 67) 1) 0,
  sq 69 (.fieldAddr 43 (.tmp 68) 5) 0,
  sq 70 (.load 22 (.tmp 69)) 22,
  sq 71 (.move (.tmp 6)) 38,
  sc 72 (.call { callee := .value (.func 84), args := #[.tmp 70, .tmp 71], argTypes := #[22, 38] }) 9,
  sq 73 (.move (.tmp 5)) 3,
  sq 74 (.move (.tmp 7)) 3,
  sc 75 (.call { callee := .value (.tmp 65), args := #[.tmp 72, .tmp 73, .tmp 74], argTypes := #[9, 3, 3] }) 4,
  sw 76 (.unOp .not 4 (.tmp 75)) 4]
def cr_attributes_r10 : List Sop := [
  sq 77 (.move (.tmp 0)) 100,
  sq 78 (.nilCheck (.tmp 77)) 0,
  sq 79 (.fieldAddr 102 (.tmp 78) 0) 0,
  sq 80 (.load 54 (.tmp 79)) 54,
  sq 81 (.move (.tmp 7)) 3,
  sc 82 (.call { callee := .value (.func 65), args := #[.tmp 80, .tmp 81], argTypes := #[54, 3] }) 9]
def cr_attributes_r11 : List Sop := [
  sq 83 (.move (.tmp 0)) 100,
  sq 84 (.nilCheck (.tmp 83)) 0,
  sq 85 (.fieldAddr 102 (.tmp 84) 0) 0,
  sq 86 (.load 54 (.tmp 85)) 54,
  sc 87 (.call { callee := .value (.func 29), args := #[.tmp 86], argTypes := #[54] }) 3,
  sq 88 (.move (.tmp 8)) 3,
  sq 89 (.binOp .sub 3 (.tmp 87) (.tmp 88) 3) 3,
  sq 90 (.move (.tmp 7)) 3,
  sw 91 (.binOp .neq 3 (.tmp 89) (.tmp 90) 3) 4]
def cr_attributes_r12 : List Sop := [
  sq 92 (.move (.tmp 0)) 100,
  sq 93 (.nilCheck (.tmp 92)) 0,
  sq 94 (.fieldAddr 102 (.tmp 93) 0) 0,
  sq 95 (.load 54 (.tmp 94)) 54,
  sq 96 (.move (.tmp 5)) 3,
  sc 97 (.call { callee := .value (.func 28), args := #[.tmp 95, .const (.int .i64 12), .tmp 96], argTypes := #[54, 27, 3] }) 0]
def cr_attributes_r13 : List Sop := [
  sq 24 (.move (.tmp 4)) 3,
  sq 25 (.binOp .sub 3 (.tmp 24) (.const (.int .i64 1)) 3) 3,
  sw 4 (.assign (.tmp 25)) 3]
def cr_attributes_l0 : Cd := .seq (.seq (.region cr_attributes_r1) (.cond (.tmp 23) (.skip) (.exit 0))) (.seq (.block 1 (.seq (.region cr_attributes_r2) (.seq (.region cr_attributes_r3) (.seq (.seq (.region cr_attributes_r4) (.cond (.tmp 43) (.region cr_attributes_r5) (.skip))) (.seq (.region cr_attributes_r6) (.seq (.region cr_attributes_r7) (.seq (.seq (.region cr_attributes_r8) (.cond (.tmp 64) (.ret) (.skip))) (.seq (.seq (.region cr_attributes_r9) (.cond (.tmp 76) (.seq (.region cr_attributes_r10) (.exit 1)) (.skip))) (.seq (.region cr_attributes_r11) (.cond (.tmp 91) (.region cr_attributes_r12) (.skip))))))))))) (.region cr_attributes_r13))
def cr_attributes : Cd := .seq (.region cr_attributes_r0) (.block 0 (.loop cr_attributes_l0))
theorem cr_attributes_calls {args : List Value} {h : Heap} {R : Value → Heap → Prop} (hl : args.length = 2) (hv : Cd.vc Try.prog cr_attributes (retQ Try.prog [] R) (initEnv args [0, 1, 4, 5, 6, 7, 8, 23, 43, 64, 76, 91]) h) : HCalls Try.prog 56 args.toArray h R :=
  hcalls_of_vc (by kernel_rfl) Try.func56 (cd := cr_attributes) (L := [0, 1, 4, 5, 6, 7, 8, 23, 43, 64, 76, 91]) (by kernel_rfl) (by kernel_rfl) ⟨by rw [hl, Try.ntmps56]; decide, by rw [Try.ntmps56]; decide⟩ hv
def cr_attributes_gos := And.intro (@goVc Try.prog _ _ cr_attributes.eq_1) (And.intro (@goOps Try.prog _ _ cr_attributes_r0.eq_1) (And.intro (@goOps Try.prog _ _ cr_attributes_r1.eq_1) (And.intro (@goOps Try.prog _ _ cr_attributes_r2.eq_1) (And.intro (@goOps Try.prog _ _ cr_attributes_r3.eq_1) (And.intro (@goOps Try.prog _ _ cr_attributes_r4.eq_1) (And.intro (@goOps Try.prog _ _ cr_attributes_r5.eq_1) (And.intro (@goOps Try.prog _ _ cr_attributes_r6.eq_1) (And.intro (@goOps Try.prog _ _ cr_attributes_r7.eq_1) (And.intro (@goOps Try.prog _ _ cr_attributes_r8.eq_1) (And.intro (@goOps Try.prog _ _ cr_attributes_r9.eq_1) (And.intro (@goOps Try.prog _ _ cr_attributes_r10.eq_1) (And.intro (@goOps Try.prog _ _ cr_attributes_r11.eq_1) (And.intro (@goOps Try.prog _ _ cr_attributes_r12.eq_1) (And.intro (@goOps Try.prog _ _ cr_attributes_r13.eq_1) (@goVc Try.prog _ _ cr_attributes_l0.eq_1)))))))))))))))

/-! (*jvmcore/class.reader).once: function 80: slots [0, 1, 2, 8] -/
def cr_once_r0 : List Sop := [
  sq 6 (.move (.tmp 1)) 139,
  sq 7 (.nilCheck (.tmp 6)) 0,
  sw 8 (.load 4 (.tmp 7)) 4]
def cr_once_r1 : List Sop := [
  sq 9 (.move (.tmp 0)) 100,
  sq 10 (.nilCheck (.tmp 9)) 0,
  sq 11 (.fieldAddr 102 (.tmp 10) 0) 0,
  sq 12 (.load 54 (.tmp 11)) 54,
  sq 13 (.move (.tmp 2)) 3,
  sc 14 (.call { callee := .value (.func 28), args := #[.tmp 12, .const (.int .i64 11), .tmp 13], argTypes := #[54, 27, 3] }) 0]
def cr_once_r2 : List Sop := [
  sq 15 (.move (.tmp 1)) 139,
  sq 16 (.nilCheck (.tmp 15)) 0,
  ss (.store 4 (.tmp 16) (.const (.bool true)))]
def cr_once : Cd := .seq (.seq (.region cr_once_r0) (.cond (.tmp 8) (.region cr_once_r1) (.skip))) (.region cr_once_r2)
theorem cr_once_calls {args : List Value} {h : Heap} {R : Value → Heap → Prop} (hl : args.length = 3) (hv : Cd.vc Try.prog cr_once (retQ Try.prog [] R) (initEnv args [0, 1, 2, 8]) h) : HCalls Try.prog 80 args.toArray h R :=
  hcalls_of_vc (by kernel_rfl) Try.func80 (cd := cr_once) (L := [0, 1, 2, 8]) (by kernel_rfl) (by kernel_rfl) ⟨by rw [hl, Try.ntmps80]; decide, by rw [Try.ntmps80]; decide⟩ hv
def cr_once_gos := And.intro (@goVc Try.prog _ _ cr_once.eq_1) (And.intro (@goOps Try.prog _ _ cr_once_r0.eq_1) (And.intro (@goOps Try.prog _ _ cr_once_r1.eq_1) (@goOps Try.prog _ _ cr_once_r2.eq_1)))

/-! (*jvmcore/class.reader).field: function 54: slots [0, 1, 2, 3, 4] -/
def cr_field_r0 : List Sop := [
  sa 1 (.box 100 (.tmp 0)) 0,
  sa 2 (.alloc 89) 0]
def cr_field_r1 : Dt :=
  .run (sq 5 (.load 100 (.tmp 1)) 100) [] (
  .run (sq 6 (.nilCheck (.tmp 5)) 0) [] (
  .run (sq 7 (.fieldAddr 102 (.tmp 6) 0) 0) [] (
  .run (sq 8 (.load 54 (.tmp 7)) 54) [] (
  .run (sq 10 (.load 100 (.tmp 1)) 100) [] (
  .run (sq 11 (.nilCheck (.tmp 10)) 0) [] (
  .run (sq 12 (.fieldAddr 102 (.tmp 11) 0) 0) [] (
  .run (sq 13 (.load 54 (.tmp 12)) 54) [] (
  .run (sq 15 (.load 100 (.tmp 1)) 100) [] (
  .run (sq 16 (.nilCheck (.tmp 15)) 0) [] (
  .run (sq 17 (.fieldAddr 102 (.tmp 16) 0) 0) [] (
  .run (sq 18 (.load 54 (.tmp 17)) 54) [] (
  .both (.run (sc 9 (.call { callee := .value (.func 52), args := #[.tmp 8], argTypes := #[54] }) 38) [sq 10 (.load 100 (.tmp 1)) 100, sq 11 (.nilCheck (.tmp 10)) 0, sq 12 (.fieldAddr 102 (.tmp 11) 0) 0, sq 13 (.load 54 (.tmp 12)) 54, sq 15 (.load 100 (.tmp 1)) 100, sq 16 (.nilCheck (.tmp 15)) 0, sq 17 (.fieldAddr 102 (.tmp 16) 0) 0, sq 18 (.load 54 (.tmp 17)) 54] (
  .both (.run (sc 14 (.call { callee := .value (.func 52), args := #[.tmp 13], argTypes := #[54] }) 38) [sq 15 (.load 100 (.tmp 1)) 100, sq 16 (.nilCheck (.tmp 15)) 0, sq 17 (.fieldAddr 102 (.tmp 16) 0) 0, sq 18 (.load 54 (.tmp 17)) 54] (
  .both (.run (sc 19 (.call { callee := .value (.func 52), args := #[.tmp 18], argTypes := #[54] }) 38) [] (
  .run (sq 20 (.build 89 #[(0, .tmp 9), (1, .tmp 14), (2, .tmp 19)]) 89) [] (
  .run (sa 3 (.alloc 89) 0) [sq 5 (.load 100 (.tmp 1)) 100, sq 6 (.nilCheck (.tmp 5)) 0, sq 7 (.fieldAddr 102 (.tmp 6) 0) 0, sq 8 (.load 54 (.tmp 7)) 54, sq 10 (.load 100 (.tmp 1)) 100, sq 11 (.nilCheck (.tmp 10)) 0, sq 12 (.fieldAddr 102 (.tmp 11) 0) 0, sq 13 (.load 54 (.tmp 12)) 54, sq 15 (.load 100 (.tmp 1)) 100, sq 16 (.nilCheck (.tmp 15)) 0, sq 17 (.fieldAddr 102 (.tmp 16) 0) 0, sq 18 (.load 54 (.tmp 17)) 54, sq 20 (.build 89 #[(0, .tmp 9), (1, .tmp 14), (2, .tmp 19)]) 89] (
  .run (ss (.store 89 (.tmp 3) (.tmp 20))) [] (
  .done))))) (.run (sa 3 (.alloc 89) 0) [sq 5 (.load 100 (.tmp 1)) 100, sq 6 (.nilCheck (.tmp 5)) 0, sq 7 (.fieldAddr 102 (.tmp 6) 0) 0, sq 8 (.load 54 (.tmp 7)) 54, sq 10 (.load 100 (.tmp 1)) 100, sq 11 (.nilCheck (.tmp 10)) 0, sq 12 (.fieldAddr 102 (.tmp 11) 0) 0, sq 13 (.load 54 (.tmp 12)) 54, sq 15 (.load 100 (.tmp 1)) 100, sq 16 (.nilCheck (.tmp 15)) 0, sq 17 (.fieldAddr 102 (.tmp 16) 0) 0, sq 18 (.load 54 (.tmp 17)) 54] (
  .run (sc 19 (.call { callee := .value (.func 52), args := #[.tmp 18], argTypes := #[54] }) 38) [] (
  .run (sq 20 (.build 89 #[(0, .tmp 9), (1, .tmp 14), (2, .tmp 19)]) 89) [] (
  .run (ss (.store 89 (.tmp 3) (.tmp 20))) [] (
  .done))))))) (.run (sa 3 (.alloc 89) 0) [sq 5 (.load 100 (.tmp 1)) 100, sq 6 (.nilCheck (.tmp 5)) 0, sq 7 (.fieldAddr 102 (.tmp 6) 0) 0, sq 8 (.load 54 (.tmp 7)) 54, sq 10 (.load 100 (.tmp 1)) 100, sq 11 (.nilCheck (.tmp 10)) 0, sq 12 (.fieldAddr 102 (.tmp 11) 0) 0, sq 13 (.load 54 (.tmp 12)) 54, sq 15 (.load 100 (.tmp 1)) 100, sq 16 (.nilCheck (.tmp 15)) 0, sq 17 (.fieldAddr 102 (.tmp 16) 0) 0, sq 18 (.load 54 (.tmp 17)) 54] (
  .run (sc 14 (.call { callee := .value (.func 52), args := #[.tmp 13], argTypes := #[54] }) 38) [sq 15 (.load 100 (.tmp 1)) 100, sq 16 (.nilCheck (.tmp 15)) 0, sq 17 (.fieldAddr 102 (.tmp 16) 0) 0, sq 18 (.load 54 (.tmp 17)) 54] (
  .run (sc 19 (.call { callee := .value (.func 52), args := #[.tmp 18], argTypes := #[54] }) 38) [] (
  .run (sq 20 (.build 89 #[(0, .tmp 9), (1, .tmp 14), (2, .tmp 19)]) 89) [] (
  .run (ss (.store 89 (.tmp 3) (.tmp 20))) [] (
  .done)))))))) (.run (sa 3 (.alloc 89) 0) [sq 5 (.load 100 (.tmp 1)) 100, sq 6 (.nilCheck (.tmp 5)) 0, sq 7 (.fieldAddr 102 (.tmp 6) 0) 0, sq 8 (.load 54 (.tmp 7)) 54, sq 10 (.load 100 (.tmp 1)) 100, sq 11 (.nilCheck (.tmp 10)) 0, sq 12 (.fieldAddr 102 (.tmp 11) 0) 0, sq 13 (.load 54 (.tmp 12)) 54, sq 15 (.load 100 (.tmp 1)) 100, sq 16 (.nilCheck (.tmp 15)) 0, sq 17 (.fieldAddr 102 (.tmp 16) 0) 0, sq 18 (.load 54 (.tmp 17)) 54] (
  .run (sc 9 (.call { callee := .value (.func 52), args := #[.tmp 8], argTypes := #[54] }) 38) [sq 10 (.load 100 (.tmp 1)) 100, sq 11 (.nilCheck (.tmp 10)) 0, sq 12 (.fieldAddr 102 (.tmp 11) 0) 0, sq 13 (.load 54 (.tmp 12)) 54, sq 15 (.load 100 (.tmp 1)) 100, sq 16 (.nilCheck (.tmp 15)) 0, sq 17 (.fieldAddr 102 (.tmp 16) 0) 0, sq 18 (.load 54 (.tmp 17)) 54] (
  .run (sc 14 (.call { callee := .value (.func 52), args := #[.tmp 13], argTypes := #[54] }) 38) [sq 15 (.load 100 (.tmp 1)) 100, sq 16 (.nilCheck (.tmp 15)) 0, sq 17 (.fieldAddr 102 (.tmp 16) 0) 0, sq 18 (.load 54 (.tmp 17)) 54] (
  .run (sc 19 (.call { callee := .value (.func 52), args := #[.tmp 18], argTypes := #[54] }) 38) [] (
  .run (sq 20 (.build 89 #[(0, .tmp 9), (1, .tmp 14), (2, .tmp 19)]) 89) [] (
  .run (ss (.store 89 (.tmp 3) (.tmp 20))) [] (
  .done)))))))))))))))))))
def cr_field_r2 : List Sop := [
  sa 4 (.alloc 4) 0,
  ss (.store 4 (.tmp 4) (.const (.bool false)))]
def cr_field_r3 : List Sop := [
  sq 21 (.load 100 (.tmp 1)) 100,
  sq 22 (.makeFunc (.func 79) #[] #[.tmp 1, .tmp 4, .tmp 3]) 109,
  sc 23 (.call { callee := .value (.func 56), args := #[.tmp 21, .tmp 22], argTypes := #[100, 109] }) 0]
def cr_field_r4 : List Sop := [
  sq 24 (.load 89 (.tmp 3)) 89,
  ss (.store 89 (.tmp 2) (.tmp 24))]
def cr_field_t0 : Cd := .seq (.region cr_field_r2) (.seq (.region cr_field_r3) (.seq (.region cr_field_r4) (.ret)))
def cr_field_t0_go := @goVc Try.prog _ _ cr_field_t0.eq_1
def cr_field : Cd := .seq (.region cr_field_r0) (.seq (.tree cr_field_r1) (cr_field_t0))
theorem cr_field_calls {args : List Value} {h : Heap} {R : Value → Heap → Prop} (hl : args.length = 1) (hv : Cd.vc Try.prog cr_field (retQ Try.prog [(2, some 89)] R) (initEnv args [0, 1, 2, 3, 4]) h) : HCalls Try.prog 54 args.toArray h R :=
  hcalls_of_vc (by kernel_rfl) Try.func54 (cd := cr_field) (L := [0, 1, 2, 3, 4]) (by kernel_rfl) (by kernel_rfl) ⟨by rw [hl, Try.ntmps54]; decide, by rw [Try.ntmps54]; decide⟩ hv
def cr_field_gos := And.intro (@goVc Try.prog _ _ cr_field.eq_1) (And.intro (@goOps Try.prog _ _ cr_field_r0.eq_1) (And.intro (@goT Try.prog _ _ cr_field_r1.eq_1) (And.intro (@goOps Try.prog _ _ cr_field_r2.eq_1) (And.intro (@goOps Try.prog _ _ cr_field_r3.eq_1) (@goOps Try.prog _ _ cr_field_r4.eq_1)))))

/-! (*jvmcore/class.reader).field.1: function 79: slots [0, 1, 3, 4, 5, 9, 11] -/
def cr_field_1_r0 : List Sop := [
  sw 9 (.assign (.const (.bool false))) 4]
def cr_field_1_r1 : List Sop := [
  sq 10 (.move (.tmp 0)) 9,
  sw 11 (.binOp .neq 9 (.tmp 10) (.const (.string { data := #[67, 111, 110, 115, 116, 97, 110, 116, 86, 97, 108, 117, 101] })) 9) 4]
def cr_field_1_r2 : List Sop := [
  sw 9 (.assign (.const (.bool false))) 4]
def cr_field_1_r3 : List Sop := [
  sq 12 (.load 100 (.tmp 3)) 100,
  sq 13 (.move (.tmp 1)) 3,
  sc 14 (.call { callee := .value (.func 80), args := #[.tmp 12, .tmp 4, .tmp 13], argTypes := #[100, 139, 3] }) 0]
def cr_field_1_r4 : List Sop := [
  sq 15 (.load 100 (.tmp 3)) 100,
  sq 16 (.nilCheck (.tmp 15)) 0,
  sq 17 (.fieldAddr 102 (.tmp 16) 0) 0,
  sq 18 (.load 54 (.tmp 17)) 54,
  sc 19 (.call { callee := .value (.func 52), args := #[.tmp 18], argTypes := #[54] }) 38,
  sq 20 (.fieldAddr 89 (.tmp 5) 3) 0,
  ss (.store 38 (.tmp 20) (.tmp 19))]
def cr_field_1_r5 : List Sop := [
  sw 9 (.assign (.const (.bool true))) 4]
def cr_field_1 : Cd := .seq (.region cr_field_1_r0) (.seq (.seq (.region cr_field_1_r1) (.cond (.tmp 11) (.seq (.region cr_field_1_r2) (.ret)) (.skip))) (.seq (.region cr_field_1_r3) (.seq (.region cr_field_1_r4) (.seq (.region cr_field_1_r5) (.ret)))))
theorem cr_field_1_calls {args : List Value} {h : Heap} {R : Value → Heap → Prop} (hl : args.length = 6) (hv : Cd.vc Try.prog cr_field_1 (retQ Try.prog [(9, none)] R) (initEnv args [0, 1, 3, 4, 5, 9, 11]) h) : HCalls Try.prog 79 args.toArray h R :=
  hcalls_of_vc (by kernel_rfl) Try.func79 (cd := cr_field_1) (L := [0, 1, 3, 4, 5, 9, 11]) (by kernel_rfl) (by kernel_rfl) ⟨by rw [hl, Try.ntmps79]; decide, by rw [Try.ntmps79]; decide⟩ hv
def cr_field_1_gos := And.intro (@goVc Try.prog _ _ cr_field_1.eq_1) (And.intro (@goOps Try.prog _ _ cr_field_1_r0.eq_1) (And.intro (@goOps Try.prog _ _ cr_field_1_r1.eq_1) (And.intro (@goOps Try.prog _ _ cr_field_1_r2.eq_1) (And.intro (@goOps Try.prog _ _ cr_field_1_r3.eq_1) (And.intro (@goOps Try.prog _ _ cr_field_1_r4.eq_1) (@goOps Try.prog _ _ cr_field_1_r5.eq_1))))))

/-! (*jvmcore/class.reader).method: function 55: slots [0, 1, 2, 3] -/
def cr_method_r0 : List Sop := [
  sa 1 (.box 100 (.tmp 0)) 0,
  sa 2 (.alloc 81) 0]
def cr_method_r1 : Dt :=
  .run (sq 4 (.load 100 (.tmp 1)) 100) [] (
  .run (sq 5 (.nilCheck (.tmp 4)) 0) [] (
  .run (sq 6 (.fieldAddr 102 (.tmp 5) 0) 0) [] (
  .run (sq 7 (.load 54 (.tmp 6)) 54) [] (
  .run (sq 9 (.load 100 (.tmp 1)) 100) [] (
  .run (sq 10 (.nilCheck (.tmp 9)) 0) [] (
  .run (sq 11 (.fieldAddr 102 (.tmp 10) 0) 0) [] (
  .run (sq 12 (.load 54 (.tmp 11)) 54) [] (
  .run (sq 14 (.load 100 (.tmp 1)) 100) [] (
  .run (sq 15 (.nilCheck (.tmp 14)) 0) [] (
  .run (sq 16 (.fieldAddr 102 (.tmp 15) 0) 0) [] (
  .run (sq 17 (.load 54 (.tmp 16)) 54) [] (
  .both (.run (sc 8 (.call { callee := .value (.func 52), args := #[.tmp 7], argTypes := #[54] }) 38) [sq 9 (.load 100 (.tmp 1)) 100, sq 10 (.nilCheck (.tmp 9)) 0, sq 11 (.fieldAddr 102 (.tmp 10) 0) 0, sq 12 (.load 54 (.tmp 11)) 54, sq 14 (.load 100 (.tmp 1)) 100, sq 15 (.nilCheck (.tmp 14)) 0, sq 16 (.fieldAddr 102 (.tmp 15) 0) 0, sq 17 (.load 54 (.tmp 16)) 54] (
  .both (.run (sc 13 (.call { callee := .value (.func 52), args := #[.tmp 12], argTypes := #[54] }) 38) [sq 14 (.load 100 (.tmp 1)) 100, sq 15 (.nilCheck (.tmp 14)) 0, sq 16 (.fieldAddr 102 (.tmp 15) 0) 0, sq 17 (.load 54 (.tmp 16)) 54] (
  .both (.run (sc 18 (.call { callee := .value (.func 52), args := #[.tmp 17], argTypes := #[54] }) 38) [] (
  .run (sq 19 (.build 81 #[(0, .tmp 8), (1, .tmp 13), (2, .tmp 18)]) 81) [] (
  .run (sa 3 (.alloc 81) 0) [sq 4 (.load 100 (.tmp 1)) 100, sq 5 (.nilCheck (.tmp 4)) 0, sq 6 (.fieldAddr 102 (.tmp 5) 0) 0, sq 7 (.load 54 (.tmp 6)) 54, sq 9 (.load 100 (.tmp 1)) 100, sq 10 (.nilCheck (.tmp 9)) 0, sq 11 (.fieldAddr 102 (.tmp 10) 0) 0, sq 12 (.load 54 (.tmp 11)) 54, sq 14 (.load 100 (.tmp 1)) 100, sq 15 (.nilCheck (.tmp 14)) 0, sq 16 (.fieldAddr 102 (.tmp 15) 0) 0, sq 17 (.load 54 (.tmp 16)) 54, sq 19 (.build 81 #[(0, .tmp 8), (1, .tmp 13), (2, .tmp 18)]) 81] (
  .run (ss (.store 81 (.tmp 3) (.tmp 19))) [] (
  .done))))) (.run (sa 3 (.alloc 81) 0) [sq 4 (.load 100 (.tmp 1)) 100, sq 5 (.nilCheck (.tmp 4)) 0, sq 6 (.fieldAddr 102 (.tmp 5) 0) 0, sq 7 (.load 54 (.tmp 6)) 54, sq 9 (.load 100 (.tmp 1)) 100, sq 10 (.nilCheck (.tmp 9)) 0, sq 11 (.fieldAddr 102 (.tmp 10) 0) 0, sq 12 (.load 54 (.tmp 11)) 54, sq 14 (.load 100 (.tmp 1)) 100, sq 15 (.nilCheck (.tmp 14)) 0, sq 16 (.fieldAddr 102 (.tmp 15) 0) 0, sq 17 (.load 54 (.tmp 16)) 54] (
  .run (sc 18 (.call { callee := .value (.func 52), args := #[.tmp 17], argTypes := #[54] }) 38) [] (
  .run (sq 19 (.build 81 #[(0, .tmp 8), (1, .tmp 13), (2, .tmp 18)]) 81) [] (
  .run (ss (.store 81 (.tmp 3) (.tmp 19))) [] (
  .done))))))) (.run (sa 3 (.alloc 81) 0) [sq 4 (.load 100 (.tmp 1)) 100, sq 5 (.nilCheck (.tmp 4)) 0, sq 6 (.fieldAddr 102 (.tmp 5) 0) 0, sq 7 (.load 54 (.tmp 6)) 54, sq 9 (.load 100 (.tmp 1)) 100, sq 10 (.nilCheck (.tmp 9)) 0, sq 11 (.fieldAddr 102 (.tmp 10) 0) 0, sq 12 (.load 54 (.tmp 11)) 54, sq 14 (.load 100 (.tmp 1)) 100, sq 15 (.nilCheck (.tmp 14)) 0, sq 16 (.fieldAddr 102 (.tmp 15) 0) 0, sq 17 (.load 54 (.tmp 16)) 54] (
  .run (sc 13 (.call { callee := .value (.func 52), args := #[.tmp 12], argTypes := #[54] }) 38) [sq 14 (.load 100 (.tmp 1)) 100, sq 15 (.nilCheck (.tmp 14)) 0, sq 16 (.fieldAddr 102 (.tmp 15) 0) 0, sq 17 (.load 54 (.tmp 16)) 54] (
  .run (sc 18 (.call { callee := .value (.func 52), args := #[.tmp 17], argTypes := #[54] }) 38) [] (
  .run (sq 19 (.build 81 #[(0, .tmp 8), (1, .tmp 13), (2, .tmp 18)]) 81) [] (
  .run (ss (.store 81 (.tmp 3) (.tmp 19))) [] (
  .done)))))))) (.run (sa 3 (.alloc 81) 0) [sq 4 (.load 100 (.tmp 1)) 100, sq 5 (.nilCheck (.tmp 4)) 0, sq 6 (.fieldAddr 102 (.tmp 5) 0) 0, sq 7 (.load 54 (.tmp 6)) 54, sq 9 (.load 100 (.tmp 1)) 100, sq 10 (.nilCheck (.tmp 9)) 0, sq 11 (.fieldAddr 102 (.tmp 10) 0) 0, sq 12 (.load 54 (.tmp 11)) 54, sq 14 (.load 100 (.tmp 1)) 100, sq 15 (.nilCheck (.tmp 14)) 0, sq 16 (.fieldAddr 102 (.tmp 15) 0) 0, sq 17 (.load 54 (.tmp 16)) 54] (
  .run (sc 8 (.call { callee := .value (.func 52), args := #[.tmp 7], argTypes := #[54] }) 38) [sq 9 (.load 100 (.tmp 1)) 100, sq 10 (.nilCheck (.tmp 9)) 0, sq 11 (.fieldAddr 102 (.tmp 10) 0) 0, sq 12 (.load 54 (.tmp 11)) 54, sq 14 (.load 100 (.tmp 1)) 100, sq 15 (.nilCheck (.tmp 14)) 0, sq 16 (.fieldAddr 102 (.tmp 15) 0) 0, sq 17 (.load 54 (.tmp 16)) 54] (
  .run (sc 13 (.call { callee := .value (.func 52), args := #[.tmp 12], argTypes := #[54] }) 38) [sq 14 (.load 100 (.tmp 1)) 100, sq 15 (.nilCheck (.tmp 14)) 0, sq 16 (.fieldAddr 102 (.tmp 15) 0) 0, sq 17 (.load 54 (.tmp 16)) 54] (
  .run (sc 18 (.call { callee := .value (.func 52), args := #[.tmp 17], argTypes := #[54] }) 38) [] (
  .run (sq 19 (.build 81 #[(0, .tmp 8), (1, .tmp 13), (2, .tmp 18)]) 81) [] (
  .run (ss (.store 81 (.tmp 3) (.tmp 19))) [] (
  .done)))))))))))))))))))
def cr_method_r2 : List Sop := [
  sq 20 (.load 100 (.tmp 1)) 100,
  sq 21 (.makeFunc (.func 81) #[] #[.tmp 1, .tmp 3]) 109,
  sc 22 (.call { callee := .value (.func 56), args := #[.tmp 20, .tmp 21], argTypes := #[100, 109] }) 0]
def cr_method_r3 : List Sop := [
  sq 23 (.load 81 (.tmp 3)) 81,
  ss (.store 81 (.tmp 2) (.tmp 23))]
def cr_method_t0 : Cd := .seq (.region cr_method_r2) (.seq (.region cr_method_r3) (.ret))
def cr_method_t0_go := @goVc Try.prog _ _ cr_method_t0.eq_1
def cr_method : Cd := .seq (.region cr_method_r0) (.seq (.tree cr_method_r1) (cr_method_t0))
theorem cr_method_calls {args : List Value} {h : Heap} {R : Value → Heap → Prop} (hl : args.length = 1) (hv : Cd.vc Try.prog cr_method (retQ Try.prog [(2, some 81)] R) (initEnv args [0, 1, 2, 3]) h) : HCalls Try.prog 55 args.toArray h R :=
  hcalls_of_vc (by kernel_rfl) Try.func55 (cd := cr_method) (L := [0, 1, 2, 3]) (by kernel_rfl) (by kernel_rfl) ⟨by rw [hl, Try.ntmps55]; decide, by rw [Try.ntmps55]; decide⟩ hv
def cr_method_gos := And.intro (@goVc Try.prog _ _ cr_method.eq_1) (And.intro (@goOps Try.prog _ _ cr_method_r0.eq_1) (And.intro (@goT Try.prog _ _ cr_method_r1.eq_1) (And.intro (@goOps Try.prog _ _ cr_method_r2.eq_1) (@goOps Try.prog _ _ cr_method_r3.eq_1))))

/-! (*jvmcore/class.reader).method.1: function 81: slots [0, 1, 3, 4, 8, 10] -/
def cr_method_1_r0 : List Sop := [
  sw 8 (.assign (.const (.bool false))) 4]
def cr_method_1_r1 : List Sop := [
  sq 9 (.move (.tmp 0)) 9,
  sw 10 (.binOp .neq 9 (.tmp 9) (.const (.string { data := #[67, 111, 100, 101] })) 9) 4]
def cr_method_1_r2 : List Sop := [
  sw 8 (.assign (.const (.bool false))) 4]
def cr_method_1_r3 : List Sop := [
  sq 11 (.load 100 (.tmp 3)) 100,
  sq 12 (.fieldAddr 81 (.tmp 4) 3) 0,
  sq 13 (.move (.tmp 1)) 3,
  sc 14 (.call { callee := .value (.func 80), args := #[.tmp 11, .tmp 12, .tmp 13], argTypes := #[100, 139, 3] }) 0]
def cr_method_1_r4 : List Sop := [
  sq 15 (.load 100 (.tmp 3)) 100,
  sc 16 (.call { callee := .value (.func 82), args := #[.tmp 15], argTypes := #[100] }) 79,
  sq 17 (.fieldAddr 81 (.tmp 4) 4) 0,
  ss (.store 79 (.tmp 17) (.tmp 16))]
def cr_method_1_r5 : List Sop := [
  sw 8 (.assign (.const (.bool true))) 4]
def cr_method_1 : Cd := .seq (.region cr_method_1_r0) (.seq (.seq (.region cr_method_1_r1) (.cond (.tmp 10) (.seq (.region cr_method_1_r2) (.ret)) (.skip))) (.seq (.region cr_method_1_r3) (.seq (.region cr_method_1_r4) (.seq (.region cr_method_1_r5) (.ret)))))
theorem cr_method_1_calls {args : List Value} {h : Heap} {R : Value → Heap → Prop} (hl : args.length = 5) (hv : Cd.vc Try.prog cr_method_1 (retQ Try.prog [(8, none)] R) (initEnv args [0, 1, 3, 4, 8, 10]) h) : HCalls Try.prog 81 args.toArray h R :=
  hcalls_of_vc (by kernel_rfl) Try.func81 (cd := cr_method_1) (L := [0, 1, 3, 4, 8, 10]) (by kernel_rfl) (by kernel_rfl) ⟨by rw [hl, Try.ntmps81]; decide, by rw [Try.ntmps81]; decide⟩ hv
def cr_method_1_gos := And.intro (@goVc Try.prog _ _ cr_method_1.eq_1) (And.intro (@goOps Try.prog _ _ cr_method_1_r0.eq_1) (And.intro (@goOps Try.prog _ _ cr_method_1_r1.eq_1) (And.intro (@goOps Try.prog _ _ cr_method_1_r2.eq_1) (And.intro (@goOps Try.prog _ _ cr_method_1_r3.eq_1) (And.intro (@goOps Try.prog _ _ cr_method_1_r4.eq_1) (@goOps Try.prog _ _ cr_method_1_r5.eq_1))))))

/-! (*jvmcore/class.reader).code: function 82: slots [0, 1, 2, 3, 4, 5, 42] -/
def cr_code_r0 : List Sop := [
  sa 1 (.box 100 (.tmp 0)) 0,
  sa 2 (.alloc 79) 0]
def cr_code_r1 : Dt :=
  .run (sq 6 (.load 100 (.tmp 1)) 100) [] (
  .run (sq 7 (.nilCheck (.tmp 6)) 0) [] (
  .run (sq 8 (.fieldAddr 102 (.tmp 7) 0) 0) [] (
  .run (sq 9 (.load 54 (.tmp 8)) 54) [] (
  .run (sq 11 (.load 100 (.tmp 1)) 100) [] (
  .run (sq 12 (.nilCheck (.tmp 11)) 0) [] (
  .run (sq 13 (.fieldAddr 102 (.tmp 12) 0) 0) [] (
  .run (sq 14 (.load 54 (.tmp 13)) 54) [] (
  .both (.run (sc 10 (.call { callee := .value (.func 23), args := #[.tmp 9, .const (.int .i64 2)], argTypes := #[54, 3] }) 3) [sq 11 (.load 100 (.tmp 1)) 100, sq 12 (.nilCheck (.tmp 11)) 0, sq 13 (.fieldAddr 102 (.tmp 12) 0) 0, sq 14 (.load 54 (.tmp 13)) 54] (
  .both (.run (sc 15 (.call { callee := .value (.func 23), args := #[.tmp 14, .const (.int .i64 2)], argTypes := #[54, 3] }) 3) [] (
  .run (sq 16 (.build 79 #[(0, .tmp 10), (1, .tmp 15)]) 79) [] (
  .run (sa 3 (.alloc 79) 0) [sq 6 (.load 100 (.tmp 1)) 100, sq 7 (.nilCheck (.tmp 6)) 0, sq 8 (.fieldAddr 102 (.tmp 7) 0) 0, sq 9 (.load 54 (.tmp 8)) 54, sq 11 (.load 100 (.tmp 1)) 100, sq 12 (.nilCheck (.tmp 11)) 0, sq 13 (.fieldAddr 102 (.tmp 12) 0) 0, sq 14 (.load 54 (.tmp 13)) 54, sq 16 (.build 79 #[(0, .tmp 10), (1, .tmp 15)]) 79] (
  .run (ss (.store 79 (.tmp 3) (.tmp 16))) [] (
  .done))))) (.run (sa 3 (.alloc 79) 0) [sq 6 (.load 100 (.tmp 1)) 100, sq 7 (.nilCheck (.tmp 6)) 0, sq 8 (.fieldAddr 102 (.tmp 7) 0) 0, sq 9 (.load 54 (.tmp 8)) 54, sq 11 (.load 100 (.tmp 1)) 100, sq 12 (.nilCheck (.tmp 11)) 0, sq 13 (.fieldAddr 102 (.tmp 12) 0) 0, sq 14 (.load 54 (.tmp 13)) 54] (
  .run (sc 15 (.call { callee := .value (.func 23), args := #[.tmp 14, .const (.int .i64 2)], argTypes := #[54, 3] }) 3) [] (
  .run (sq 16 (.build 79 #[(0, .tmp 10), (1, .tmp 15)]) 79) [] (
  .run (ss (.store 79 (.tmp 3) (.tmp 16))) [] (
  .done))))))) (.run (sa 3 (.alloc 79) 0) [sq 6 (.load 100 (.tmp 1)) 100, sq 7 (.nilCheck (.tmp 6)) 0, sq 8 (.fieldAddr 102 (.tmp 7) 0) 0, sq 9 (.load 54 (.tmp 8)) 54, sq 11 (.load 100 (.tmp 1)) 100, sq 12 (.nilCheck (.tmp 11)) 0, sq 13 (.fieldAddr 102 (.tmp 12) 0) 0, sq 14 (.load 54 (.tmp 13)) 54] (
  .run (sc 10 (.call { callee := .value (.func 23), args := #[.tmp 9, .const (.int .i64 2)], argTypes := #[54, 3] }) 3) [sq 11 (.load 100 (.tmp 1)) 100, sq 12 (.nilCheck (.tmp 11)) 0, sq 13 (.fieldAddr 102 (.tmp 12) 0) 0, sq 14 (.load 54 (.tmp 13)) 54] (
  .run (sc 15 (.call { callee := .value (.func 23), args := #[.tmp 14, .const (.int .i64 2)], argTypes := #[54, 3] }) 3) [] (
  .run (sq 16 (.build 79 #[(0, .tmp 10), (1, .tmp 15)]) 79) [] (
  .run (ss (.store 79 (.tmp 3) (.tmp 16))) [] (
  .done))))))))))))))
def cr_code_r2 : List (Sop × List Sop) := [
  (sq 17 (.load 100 (.tmp 1)) 100, []),
  (sq 18 (.nilCheck (.tmp 17)) 0, []),
  (sq 19 (.fieldAddr 102 (.tmp 18) 0) 0, []),
  (sq 20 (.load 54 (.tmp 19)) 54, []),
  (sq 21 (.load 100 (.tmp 1)) 100, []),
  (sq 22 (.nilCheck (.tmp 21)) 0, []),
  (sq 23 (.fieldAddr 102 (.tmp 22) 0) 0, []),
  (sq 24 (.load 54 (.tmp 23)) 54, []),
  (sc 25 (.call { callee := .value (.func 23), args := #[.tmp 24, .const (.int .i64 4)], argTypes := #[54, 3] }) 3, [sq 17 (.load 100 (.tmp 1)) 100, sq 18 (.nilCheck (.tmp 17)) 0, sq 19 (.fieldAddr 102 (.tmp 18) 0) 0, sq 20 (.load 54 (.tmp 19)) 54]),
  (sc 26 (.call { callee := .value (.func 65), args := #[.tmp 20, .tmp 25], argTypes := #[54, 3] }) 9, []),
  (sq 27 (.fieldAddr 79 (.tmp 3) 2) 0, []),
  (ss (.store 9 (.tmp 27) (.tmp 26)), [])]
def cr_code_r3 : List Sop := [
  sq 28 (.load 100 (.tmp 1)) 100,
  sq 29 (.nilCheck (.tmp 28)) 0,
  sq 30 (.fieldAddr 102 (.tmp 29) 0) 0,
  sq 31 (.load 54 (.tmp 30)) 54,
  sc 32 (.call { callee := .value (.func 23), args := #[.tmp 31, .const (.int .i64 2)], argTypes := #[54, 3] }) 3,
  sw 4 (.assign (.tmp 32)) 3]
def cr_code_r4 : List Sop := [
  sq 33 (.move (.tmp 4)) 3,
  sq 34 (.binOp .gtr 3 (.tmp 33) (.const (.int .i64 0)) 3) 4,
  sq 35 (.move (.tmp 34)) 4,
  ⟨some (36, false), .load 100 (.tmp 1), 100, some (35, true), true⟩,
  ⟨some (37, false), .nilCheck (.tmp 36), 0, some (35, true), true⟩,
  ⟨some (38, false), .fieldAddr 102 (.tmp 37) 0, 0, some (35, true), true⟩,
  ⟨some (39, false), .load 54 (.tmp 38), 54, some (35, true), true⟩,
  ⟨some (40, false), .call { callee := .value (.func 25), args := #[.tmp 39], argTypes := #[54] }, 4, some (35, true), false⟩,
  ⟨some (41, false), .unOp .not 4 (.tmp 40), 4, some (35, true), true⟩,
  sw 42 (.pick (.tmp 35) (.tmp 41) (.const (.bool false))) 4]
def cr_code_r5 : List (Sop × List Sop) := [
  (sq 45 (.fieldAddr 79 (.tmp 3) 3) 0, []),
  (sq 46 (.load 77 (.tmp 45)) 77, []),
  (sq 47 (.load 100 (.tmp 1)) 100, []),
  (sq 48 (.nilCheck (.tmp 47)) 0, []),
  (sq 49 (.fieldAddr 102 (.tmp 48) 0) 0, []),
  (sq 50 (.load 54 (.tmp 49)) 54, []),
  (sq 52 (.load 100 (.tmp 1)) 100, []),
  (sq 53 (.nilCheck (.tmp 52)) 0, []),
  (sq 54 (.fieldAddr 102 (.tmp 53) 0) 0, []),
  (sq 55 (.load 54 (.tmp 54)) 54, []),
  (sq 57 (.load 100 (.tmp 1)) 100, []),
  (sq 58 (.nilCheck (.tmp 57)) 0, []),
  (sq 59 (.fieldAddr 102 (.tmp 58) 0) 0, []),
  (sq 60 (.load 54 (.tmp 59)) 54, []),
  (sq 62 (.load 100 (.tmp 1)) 100, []),
  (sq 63 (.nilCheck (.tmp 62)) 0, []),
  (sq 64 (.fieldAddr 102 (.tmp 63) 0) 0, []),
  (sq 65 (.load 54 (.tmp 64)) 54, []),
  (sc 51 (.call { callee := .value (.func 23), args := #[.tmp 50, .const (.int .i64 2)], argTypes := #[54, 3] }) 3, [sq 45 (.fieldAddr 79 (.tmp 3) 3) 0, sq 46 (.load 77 (.tmp 45)) 77, sq 52 (.load 100 (.tmp 1)) 100, sq 53 (.nilCheck (.tmp 52)) 0, sq 54 (.fieldAddr 102 (.tmp 53) 0) 0, sq 55 (.load 54 (.tmp 54)) 54, sq 57 (.load 100 (.tmp 1)) 100, sq 58 (.nilCheck (.tmp 57)) 0, sq 59 (.fieldAddr 102 (.tmp 58) 0) 0, sq 60 (.load 54 (.tmp 59)) 54, sq 62 (.load 100 (.tmp 1)) 100, sq 63 (.nilCheck (.tmp 62)) 0, sq 64 (.fieldAddr 102 (.tmp 63) 0) 0, sq 65 (.load 54 (.tmp 64)) 54]),
  (sc 56 (.call { callee := .value (.func 23), args := #[.tmp 55, .const (.int .i64 2)], argTypes := #[54, 3] }) 3, [sq 45 (.fieldAddr 79 (.tmp 3) 3) 0, sq 46 (.load 77 (.tmp 45)) 77, sq 57 (.load 100 (.tmp 1)) 100, sq 58 (.nilCheck (.tmp 57)) 0, sq 59 (.fieldAddr 102 (.tmp 58) 0) 0, sq 60 (.load 54 (.tmp 59)) 54, sq 62 (.load 100 (.tmp 1)) 100, sq 63 (.nilCheck (.tmp 62)) 0, sq 64 (.fieldAddr 102 (.tmp 63) 0) 0, sq 65 (.load 54 (.tmp 64)) 54]),
  (sc 61 (.call { callee := .value (.func 23), args := #[.tmp 60, .const (.int .i64 2)], argTypes := #[54, 3] }) 3, [sq 45 (.fieldAddr 79 (.tmp 3) 3) 0, sq 46 (.load 77 (.tmp 45)) 77, sq 62 (.load 100 (.tmp 1)) 100, sq 63 (.nilCheck (.tmp 62)) 0, sq 64 (.fieldAddr 102 (.tmp 63) 0) 0, sq 65 (.load 54 (.tmp 64)) 54]),
  (sc 66 (.call { callee := .value (.func 52), args := #[.tmp 65], argTypes := #[54] }) 38, [sq 45 (.fieldAddr 79 (.tmp 3) 3) 0, sq 46 (.load 77 (.tmp 45)) 77]),
  (sq 67 (.build 132 #[(0, .tmp 51), (1, .tmp 56), (2, .tmp 61), (3, .tmp 66)]) 132, []),
  (sc 68 (.buildSlice 77 1 #[(0, .tmp 67)]) 77, [sq 45 (.fieldAddr 79 (.tmp 3) 3) 0, sq 46 (.load 77 (.tmp 45)) 77]),
  (sc 69 (.call { callee := .builtin .append, args := #[.tmp 46, .tmp 68], argTypes := #[77, 77] }) 77, []),
  (sq 70 (.fieldAddr 79 (.tmp 3) 3) 0, []),
  (ss (.store 77 (.tmp 70) (.tmp 69)), [])]
def cr_code_r6 : List Sop := [
  sq 43 (.move (.tmp 4)) 3,
  sq 44 (.binOp .sub 3 (.tmp 43) (.const (.int .i64 1)) 3) 3,
  sw 4 (.assign (.tmp 44)) 3]
def cr_code_r7 : List Sop := [
  sa 5 (.alloc 4) 0,
  ss (.store 4 (.tmp 5) (.const (.bool false)))]
def cr_code_r8 : List Sop := [
  sq 71 (.load 100 (.tmp 1)) 100,
  sq 72 (.makeFunc (.func 92) #[] #[.tmp 1, .tmp 5, .tmp 3]) 109,
  sc 73 (.call { callee := .value (.func 56), args := #[.tmp 71, .tmp 72], argTypes := #[100, 109] }) 0]
def cr_code_r9 : List Sop := [
  sq 74 (.load 79 (.tmp 3)) 79,
  ss (.store 79 (.tmp 2) (.tmp 74))]
def cr_code_l0 : Cd := .seq (.seq (.region cr_code_r4) (.cond (.tmp 42) (.skip) (.exit 0))) (.seq (.block 1 (.draw cr_code_r5)) (.region cr_code_r6))
def cr_code_t0 : Cd := .seq (.draw cr_code_r2) (.seq (.seq (.region cr_code_r3) (.block 0 (.loop cr_code_l0))) (.seq (.region cr_code_r7) (.seq (.region cr_code_r8) (.seq (.region cr_code_r9) (.ret)))))
def cr_code_t0_go := @goVc Try.prog _ _ cr_code_t0.eq_1
def cr_code : Cd := .seq (.region cr_code_r0) (.seq (.tree cr_code_r1) (cr_code_t0))
theorem cr_code_calls {args : List Value} {h : Heap} {R : Value → Heap → Prop} (hl : args.length = 1) (hv : Cd.vc Try.prog cr_code (retQ Try.prog [(2, some 79)] R) (initEnv args [0, 1, 2, 3, 4, 5, 42]) h) : HCalls Try.prog 82 args.toArray h R :=
  hcalls_of_vc (by kernel_rfl) Try.func82 (cd := cr_code) (L := [0, 1, 2, 3, 4, 5, 42]) (by kernel_rfl) (by kernel_rfl) ⟨by rw [hl, Try.ntmps82]; decide, by rw [Try.ntmps82]; decide⟩ hv
def cr_code_gos := And.intro (@goVc Try.prog _ _ cr_code.eq_1) (And.intro (@goOps Try.prog _ _ cr_code_r0.eq_1) (And.intro (@goT Try.prog _ _ cr_code_r1.eq_1) (And.intro (@goDraw Try.prog _ _ cr_code_r2.eq_1) (And.intro (@goOps Try.prog _ _ cr_code_r3.eq_1) (And.intro (@goOps Try.prog _ _ cr_code_r4.eq_1) (And.intro (@goDraw Try.prog _ _ cr_code_r5.eq_1) (And.intro (@goOps Try.prog _ _ cr_code_r6.eq_1) (And.intro (@goOps Try.prog _ _ cr_code_r7.eq_1) (And.intro (@goOps Try.prog _ _ cr_code_r8.eq_1) (And.intro (@goOps Try.prog _ _ cr_code_r9.eq_1) (@goVc Try.prog _ _ cr_code_l0.eq_1)))))))))))

/-! (*jvmcore/class.reader).code.1: function 92: slots [0, 1, 2, 3, 4, 5, 9, 11] -/
def cr_code_1_r0 : List Sop := [
  sw 9 (.assign (.const (.bool false))) 4]
def cr_code_1_r1 : List Sop := [
  sq 10 (.move (.tmp 0)) 9,
  sw 11 (.binOp .neq 9 (.tmp 10) (.const (.string { data := #[83, 116, 97, 99, 107, 77, 97, 112, 84, 97, 98, 108, 101] })) 9) 4]
def cr_code_1_r2 : List Sop := [
  sw 9 (.assign (.const (.bool false))) 4]
def cr_code_1_r3 : List Sop := [
  sq 12 (.load 100 (.tmp 3)) 100,
  sq 13 (.move (.tmp 1)) 3,
  sc 14 (.call { callee := .value (.func 80), args := #[.tmp 12, .tmp 4, .tmp 13], argTypes := #[100, 139, 3] }) 0]
def cr_code_1_r4 : List Sop := [
  sq 15 (.load 100 (.tmp 3)) 100,
  sq 16 (.nilCheck (.tmp 15)) 0,
  sq 17 (.fieldAddr 102 (.tmp 16) 0) 0,
  sq 18 (.load 54 (.tmp 17)) 54,
  sq 19 (.move (.tmp 2)) 3,
  sc 20 (.call { callee := .value (.func 65), args := #[.tmp 18, .tmp 19], argTypes := #[54, 3] }) 9,
  sq 21 (.fieldAddr 79 (.tmp 5) 4) 0,
  ss (.store 9 (.tmp 21) (.tmp 20))]
def cr_code_1_r5 : List Sop := [
  sw 9 (.assign (.const (.bool true))) 4]
def cr_code_1 : Cd := .seq (.region cr_code_1_r0) (.seq (.seq (.region cr_code_1_r1) (.cond (.tmp 11) (.seq (.region cr_code_1_r2) (.ret)) (.skip))) (.seq (.region cr_code_1_r3) (.seq (.region cr_code_1_r4) (.seq (.region cr_code_1_r5) (.ret)))))
theorem cr_code_1_calls {args : List Value} {h : Heap} {R : Value → Heap → Prop} (hl : args.length = 6) (hv : Cd.vc Try.prog cr_code_1 (retQ Try.prog [(9, none)] R) (initEnv args [0, 1, 2, 3, 4, 5, 9, 11]) h) : HCalls Try.prog 92 args.toArray h R :=
  hcalls_of_vc (by kernel_rfl) Try.func92 (cd := cr_code_1) (L := [0, 1, 2, 3, 4, 5, 9, 11]) (by kernel_rfl) (by kernel_rfl) ⟨by rw [hl, Try.ntmps92]; decide, by rw [Try.ntmps92]; decide⟩ hv
def cr_code_1_gos := And.intro (@goVc Try.prog _ _ cr_code_1.eq_1) (And.intro (@goOps Try.prog _ _ cr_code_1_r0.eq_1) (And.intro (@goOps Try.prog _ _ cr_code_1_r1.eq_1) (And.intro (@goOps Try.prog _ _ cr_code_1_r2.eq_1) (And.intro (@goOps Try.prog _ _ cr_code_1_r3.eq_1) (And.intro (@goOps Try.prog _ _ cr_code_1_r4.eq_1) (@goOps Try.prog _ _ cr_code_1_r5.eq_1))))))

end Go.Proofs.Ytohkbpnblkkdgaa.C
