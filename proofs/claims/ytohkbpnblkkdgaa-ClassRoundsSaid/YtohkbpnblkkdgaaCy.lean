/- The stripped code of some functions of this seat's program, printed by a program; that it is that code is proved by the kernel. No condition. -/

import Derived.Test.YtohkbpnblkkdgaaProg

import Derived.Test.YtohkbpnblkkdgaaVcJ

set_option maxRecDepth 100000

set_option linter.defProp false

namespace Go.Proofs.Ytohkbpnblkkdgaa.C

open Go.Vc

/-! (*jvmcore/pool.Reader).Pool: function 53: slots [0, 2, 3, 4, 5, 6, 7, 15, 29, 47, 55] -/
def Reader_Pool_r0 : List Sop := [
  sw 2 (.assign (.const (.slice none 0 0))) 22]
def Reader_Pool_r1 : List Sop := [
  sq 8 (.move (.tmp 0)) 54,
  sq 9 (.nilCheck (.tmp 8)) 0,
  sq 10 (.fieldAddr 120 (.tmp 9) 1) 0,
  sq 11 (.load 3 (.tmp 10)) 3,
  sw 3 (.assign (.tmp 11)) 3]
def Reader_Pool_r2 : List Sop := [
  sq 12 (.move (.tmp 0)) 54,
  sc 13 (.call { callee := .value (.func 23), args := #[.tmp 12, .const (.int .i64 2)], argTypes := #[54, 3] }) 3,
  sw 4 (.assign (.tmp 13)) 3]
def Reader_Pool_r3 : List Sop := [
  sq 14 (.move (.tmp 4)) 3,
  sw 15 (.binOp .eql 3 (.tmp 14) (.const (.int .i64 0)) 3) 4]
def Reader_Pool_r4 : List Sop := [
  sq 16 (.move (.tmp 0)) 54,
  sq 17 (.move (.tmp 3)) 3,
  sc 18 (.call { callee := .value (.func 28), args := #[.tmp 16, .const (.int .i64 12), .tmp 17], argTypes := #[54, 27, 3] }) 0]
def Reader_Pool_r5 : List Sop := [
  sq 19 (.build 76 #[]) 76,
  sc 20 (.buildSlice 22 1 #[(0, .tmp 19)]) 22,
  sw 5 (.assign (.tmp 20)) 22]
def Reader_Pool_r6 : List Sop := [
  sq 21 (.move (.tmp 5)) 22,
  sq 22 (.call { callee := .builtin .len, args := #[.tmp 21], argTypes := #[22] }) 3,
  sq 23 (.move (.tmp 4)) 3,
  sq 24 (.binOp .lss 3 (.tmp 22) (.tmp 23) 3) 4,
  sq 25 (.move (.tmp 24)) 4,
  ⟨some (26, false), .move (.tmp 0), 54, some (25, true), true⟩,
  ⟨some (27, false), .call { callee := .value (.func 25), args := #[.tmp 26], argTypes := #[54] }, 4, some (25, true), false⟩,
  ⟨some (28, false), .unOp .not 4 (.tmp 27), 4, some (25, true), true⟩,
  sw 29 (.pick (.tmp 25) (.tmp 28) (.const (.bool false))) 4]
def Reader_Pool_r7 : List Sop := [
  sq 30 (.move (.tmp 0)) 54,
  sq 31 (.nilCheck (.tmp 30)) 0,
  sq 32 (.fieldAddr 120 (.tmp 31) 1) 0,
  sq 33 (.load 3 (.tmp 32)) 3,
  sw 6 (.assign (.tmp 33)) 3]
def Reader_Pool_r8 : List Sop := [
  sq 34 (.move (.tmp 0)) 54,
  sc 35 (.call { callee := .value (.func 78), args := #[.tmp 34], argTypes := #[54] }) 76,
  sa 7 (.alloc 76) 0,
  ss (.store 76 (.tmp 7) (.tmp 35))]
def Reader_Pool_r9 : List Sop := [
  sq 36 (.move (.tmp 5)) 22,
  sq 37 (.load 76 (.tmp 7)) 76,
  sc 38 (.buildSlice 22 1 #[(0, .tmp 37)]) 22,
  sc 39 (.call { callee := .builtin .append, args := #[.tmp 36, .tmp 38], argTypes := #[22, 22] }) 22,
  sw 5 (.assign (.tmp 39)) 22]
def Reader_Pool_r10 : List Sop := [
  sq 40 (.fieldAddr 76 (.tmp 7) 0) 0,
  sq 41 (.load 5 (.tmp 40)) 5,
  sq 42 (.binOp .eql 5 (.tmp 41) (.const (.int .u8 5)) 5) 4,
  sq 43 (.move (.tmp 42)) 4,
  ⟨some (44, false), .fieldAddr 76 (.tmp 7) 0, 0, some (43, false), true⟩,
  ⟨some (45, false), .load 5 (.tmp 44), 5, some (43, false), true⟩,
  ⟨some (46, false), .binOp .eql 5 (.tmp 45) (.const (.int .u8 6)) 5, 4, some (43, false), true⟩,
  sw 47 (.pick (.tmp 43) (.const (.bool true)) (.tmp 46)) 4]
def Reader_Pool_r11 : List Sop := [
  sq 48 (.move (.tmp 5)) 22,
  sq 49 (.build 76 #[]) 76,
  sc 50 (.buildSlice 22 1 #[(0, .tmp 49)]) 22,
  sc 51 (.call { callee := .builtin .append, args := #[.tmp 48, .tmp 50], argTypes := #[22, 22] }) 22,
  sw 5 (.assign (.tmp 51)) 22]
def Reader_Pool_r12 : List Sop := [
  sq 52 (.move (.tmp 5)) 22,
  sq 53 (.call { callee := .builtin .len, args := #[.tmp 52], argTypes := #[22] }) 3,
  sq 54 (.move (.tmp 4)) 3,
  sw 55 (.binOp .gtr 3 (.tmp 53) (.tmp 54) 3) 4]
def Reader_Pool_r13 : List Sop := [
  sq 56 (.move (.tmp 0)) 54,
  sq 57 (.move (.tmp 6)) 3,
  sc 58 (.call { callee := .value (.func 28), args := #[.tmp 56, .const (.int .i64 12), .tmp 57], argTypes := #[54, 27, 3] }) 0]
def Reader_Pool_r14 : List Sop := [
  sq 59 (.move (.tmp 5)) 22,
  sw 2 (.assign (.tmp 59)) 22]
def Reader_Pool_l0 : Cd := .seq (.seq (.region Reader_Pool_r6) (.cond (.tmp 29) (.skip) (.exit 0))) (.block 1 (.seq (.region Reader_Pool_r7) (.seq (.region Reader_Pool_r8) (.seq (.region Reader_Pool_r9) (.seq (.region Reader_Pool_r10) (.cond (.tmp 47) (.seq (.region Reader_Pool_r11) (.seq (.region Reader_Pool_r12) (.cond (.tmp 55) (.region Reader_Pool_r13) (.skip)))) (.skip)))))))
def Reader_Pool : Cd := .seq (.region Reader_Pool_r0) (.seq (.region Reader_Pool_r1) (.seq (.region Reader_Pool_r2) (.seq (.seq (.region Reader_Pool_r3) (.cond (.tmp 15) (.region Reader_Pool_r4) (.skip))) (.seq (.region Reader_Pool_r5) (.seq (.block 0 (.loop Reader_Pool_l0)) (.seq (.region Reader_Pool_r14) (.ret)))))))
theorem Reader_Pool_calls {args : List Value} {h : Heap} {R : Value → Heap → Prop} (hl : args.length = 1) (hv : Cd.vc Try.prog Reader_Pool (retQ Try.prog [(2, none)] R) (initEnv args [0, 2, 3, 4, 5, 6, 7, 15, 29, 47, 55]) h) : HCalls Try.prog 53 args.toArray h R :=
  hcalls_of_vc (by kernel_rfl) Try.func53 (cd := Reader_Pool) (L := [0, 2, 3, 4, 5, 6, 7, 15, 29, 47, 55]) (by kernel_rfl) (by kernel_rfl) ⟨by rw [hl, Try.ntmps53]; decide, by rw [Try.ntmps53]; decide⟩ hv
def Reader_Pool_gos := And.intro (@goVc Try.prog _ _ Reader_Pool.eq_1) (And.intro (@goOps Try.prog _ _ Reader_Pool_r0.eq_1) (And.intro (@goOps Try.prog _ _ Reader_Pool_r1.eq_1) (And.intro (@goOps Try.prog _ _ Reader_Pool_r2.eq_1) (And.intro (@goOps Try.prog _ _ Reader_Pool_r3.eq_1) (And.intro (@goOps Try.prog _ _ Reader_Pool_r4.eq_1) (And.intro (@goOps Try.prog _ _ Reader_Pool_r5.eq_1) (And.intro (@goOps Try.prog _ _ Reader_Pool_r6.eq_1) (And.intro (@goOps Try.prog _ _ Reader_Pool_r7.eq_1) (And.intro (@goOps Try.prog _ _ Reader_Pool_r8.eq_1) (And.intro (@goOps Try.prog _ _ Reader_Pool_r9.eq_1) (And.intro (@goOps Try.prog _ _ Reader_Pool_r10.eq_1) (And.intro (@goOps Try.prog _ _ Reader_Pool_r11.eq_1) (And.intro (@goOps Try.prog _ _ Reader_Pool_r12.eq_1) (And.intro (@goOps Try.prog _ _ Reader_Pool_r13.eq_1) (And.intro (@goOps Try.prog _ _ Reader_Pool_r14.eq_1) (@goVc Try.prog _ _ Reader_Pool_l0.eq_1))))))))))))))))

/-! (*jvmcore/pool.Reader).one: function 78: slots [0, 2, 3, 4, 6, 7, 17, 21, 35, 39, 46, 59, 65] -/
def Reader_one_r0 : List Sop := [
  sa 2 (.alloc 76) 0]
def Reader_one_r1 : List Sop := [
  sq 8 (.move (.tmp 0)) 54,
  sq 9 (.nilCheck (.tmp 8)) 0,
  sq 10 (.fieldAddr 120 (.tmp 9) 1) 0,
  sq 11 (.load 3 (.tmp 10)) 3,
  sw 3 (.assign (.tmp 11)) 3]
def Reader_one_r2 : List Sop := [
  sq 12 (.move (.tmp 0)) 54,
  sc 13 (.call { callee := .value (.func 23), args := #[.tmp 12, .const (.int .i64 1)], argTypes := #[54, 3] }) 3,
  sq 14 (.convert 3 5 (.tmp 13)) 5,
  sq 15 (.build 76 #[(0, .tmp 14)]) 76,
  sa 4 (.alloc 76) 0,
  ss (.store 76 (.tmp 4) (.tmp 15))]
def Reader_one_r3 : List Sop := [
  sq 16 (.fieldAddr 76 (.tmp 4) 0) 0,
  sw 17 (.load 5 (.tmp 16)) 5]
def Reader_one_r4 : List Sop := [
  sq 22 (.binOp .eql 5 (.tmp 17) (.const (.int .u8 1)) 5) 4,
  sw 21 (.assign (.tmp 22)) 4]
def Reader_one_r5 : List Sop := [
  sq 23 (.move (.tmp 0)) 54,
  sq 24 (.move (.tmp 0)) 54,
  sc 25 (.call { callee := .value (.func 23), args := #[.tmp 24, .const (.int .i64 2)], argTypes := #[54, 3] }) 3,
  sc 26 (.call { callee := .value (.func 65), args := #[.tmp 23, .tmp 25], argTypes := #[54, 3] }) 9,
  sq 27 (.fieldAddr 76 (.tmp 4) 1) 0,
  ss (.store 9 (.tmp 27) (.tmp 26))]
def Reader_one_r6 : List Sop := [
  sq 29 (.fieldAddr 76 (.tmp 4) 1) 0,
  sq 30 (.load 9 (.tmp 29)) 9,
  sc 31 (.call { callee := .value (.func 73), args := #[.tmp 30], argTypes := #[9] }) 129,
  sq 28 (.move (.tmp 31)) 129,
  sq 32 (.extract (.tmp 28) 0) 39,
  sq 33 (.extract (.tmp 28) 1) 4,
  sq 5 (.assign (.tmp 32)) 39,
  sw 6 (.assign (.tmp 33)) 4]
def Reader_one_r7 : List Sop := [
  sq 34 (.move (.tmp 6)) 4,
  sw 35 (.unOp .not 4 (.tmp 34)) 4]
def Reader_one_r8 : List Sop := [
  sq 36 (.move (.tmp 0)) 54,
  sq 37 (.move (.tmp 3)) 3,
  sc 38 (.call { callee := .value (.func 28), args := #[.tmp 36, .const (.int .i64 6), .tmp 37], argTypes := #[54, 27, 3] }) 0]
def Reader_one_r9 : List Sop := [
  sq 40 (.binOp .eql 5 (.tmp 17) (.const (.int .u8 3)) 5) 4,
  sw 39 (.assign (.tmp 40)) 4]
def Reader_one_r10 : List Sop := [
  sq 41 (.binOp .eql 5 (.tmp 17) (.const (.int .u8 4)) 5) 4,
  sw 39 (.assign (.tmp 41)) 4]
def Reader_one_r11 : List Sop := [
  sq 42 (.move (.tmp 0)) 54,
  sc 43 (.call { callee := .value (.func 23), args := #[.tmp 42, .const (.int .i64 4)], argTypes := #[54, 3] }) 3,
  sq 44 (.convert 3 74 (.tmp 43)) 74,
  sq 45 (.fieldAddr 76 (.tmp 4) 2) 0,
  ss (.store 74 (.tmp 45) (.tmp 44))]
def Reader_one_r12 : List Sop := [
  sq 47 (.binOp .eql 5 (.tmp 17) (.const (.int .u8 5)) 5) 4,
  sw 46 (.assign (.tmp 47)) 4]
def Reader_one_r13 : List Sop := [
  sq 48 (.binOp .eql 5 (.tmp 17) (.const (.int .u8 6)) 5) 4,
  sw 46 (.assign (.tmp 48)) 4]
def Reader_one_r14 : List Sop := [
  sq 49 (.move (.tmp 0)) 54,
  sc 50 (.call { callee := .value (.func 23), args := #[.tmp 49, .const (.int .i64 4)], argTypes := #[54, 3] }) 3,
  sq 51 (.convert 3 74 (.tmp 50)) 74,
  sw 7 (.assign (.tmp 51)) 74]
def Reader_one_r15 : List Sop := [
  sq 52 (.move (.tmp 7)) 74,
  sq 53 (.binOp .shl 74 (.tmp 52) (.const (.int .u64 32)) 121) 74,
  sq 54 (.move (.tmp 0)) 54,
  sc 55 (.call { callee := .value (.func 23), args := #[.tmp 54, .const (.int .i64 4)], argTypes := #[54, 3] }) 3,
  sq 56 (.convert 3 74 (.tmp 55)) 74,
  sq 57 (.binOp .or 74 (.tmp 53) (.tmp 56) 74) 74,
  sq 58 (.fieldAddr 76 (.tmp 4) 2) 0,
  ss (.store 74 (.tmp 58) (.tmp 57))]
def Reader_one_r16 : List Sop := [
  sq 60 (.binOp .eql 5 (.tmp 17) (.const (.int .u8 7)) 5) 4,
  sw 59 (.assign (.tmp 60)) 4]
def Reader_one_r17 : List Sop := [
  sq 61 (.binOp .eql 5 (.tmp 17) (.const (.int .u8 8)) 5) 4,
  sw 59 (.assign (.tmp 61)) 4]
def Reader_one_r18 : List Sop := [
  sq 62 (.move (.tmp 0)) 54,
  sc 63 (.call { callee := .value (.func 52), args := #[.tmp 62], argTypes := #[54] }) 38,
  sq 64 (.fieldAddr 76 (.tmp 4) 3) 0,
  ss (.store 38 (.tmp 64) (.tmp 63))]
def Reader_one_r19 : List Sop := [
  sq 66 (.binOp .eql 5 (.tmp 17) (.const (.int .u8 9)) 5) 4,
  sw 65 (.assign (.tmp 66)) 4]
def Reader_one_r20 : List Sop := [
  sq 67 (.binOp .eql 5 (.tmp 17) (.const (.int .u8 10)) 5) 4,
  sw 65 (.assign (.tmp 67)) 4]
def Reader_one_r21 : List Sop := [
  sq 68 (.binOp .eql 5 (.tmp 17) (.const (.int .u8 11)) 5) 4,
  sw 65 (.assign (.tmp 68)) 4]
def Reader_one_r22 : List Sop := [
  sq 69 (.binOp .eql 5 (.tmp 17) (.const (.int .u8 12)) 5) 4,
  sw 65 (.assign (.tmp 69)) 4]
def Reader_one_r23 : List Sop := [
  sq 70 (.move (.tmp 0)) 54,
  sc 71 (.call { callee := .value (.func 52), args := #[.tmp 70], argTypes := #[54] }) 38,
  sq 72 (.move (.tmp 0)) 54,
  sc 73 (.call { callee := .value (.func 52), args := #[.tmp 72], argTypes := #[54] }) 38,
  sq 74 (.fieldAddr 76 (.tmp 4) 3) 0,
  ss (.store 38 (.tmp 74) (.tmp 71)),
  sq 75 (.fieldAddr 76 (.tmp 4) 4) 0,
  ss (.store 38 (.tmp 75) (.tmp 73))]
def Reader_one_r24 : List Sop := [
  sq 18 (.move (.tmp 0)) 54,
  sq 19 (.move (.tmp 3)) 3,
  sc 20 (.call { callee := .value (.func 28), args := #[.tmp 18, .const (.int .i64 5), .tmp 19], argTypes := #[54, 27, 3] }) 0]
def Reader_one_r25 : List Sop := [
  sq 76 (.load 76 (.tmp 4)) 76,
  ss (.store 76 (.tmp 2) (.tmp 76))]
def Reader_one : Cd := .seq (.region Reader_one_r0) (.seq (.region Reader_one_r1) (.seq (.region Reader_one_r2) (.seq (.seq (.region Reader_one_r3) (.block 0 (.seq (.region Reader_one_r4) (.cond (.tmp 21) (.seq (.region Reader_one_r5) (.seq (.region Reader_one_r6) (.seq (.region Reader_one_r7) (.cond (.tmp 35) (.region Reader_one_r8) (.skip))))) (.seq (.seq (.region Reader_one_r9) (.cond (.tmp 39) (.skip) (.region Reader_one_r10))) (.cond (.tmp 39) (.region Reader_one_r11) (.seq (.seq (.region Reader_one_r12) (.cond (.tmp 46) (.skip) (.region Reader_one_r13))) (.cond (.tmp 46) (.seq (.region Reader_one_r14) (.region Reader_one_r15)) (.seq (.seq (.region Reader_one_r16) (.cond (.tmp 59) (.skip) (.region Reader_one_r17))) (.cond (.tmp 59) (.region Reader_one_r18) (.seq (.seq (.region Reader_one_r19) (.cond (.tmp 65) (.skip) (.seq (.region Reader_one_r20) (.cond (.tmp 65) (.skip) (.seq (.region Reader_one_r21) (.cond (.tmp 65) (.skip) (.region Reader_one_r22))))))) (.cond (.tmp 65) (.region Reader_one_r23) (.region Reader_one_r24))))))))))))) (.seq (.region Reader_one_r25) (.ret)))))
theorem Reader_one_calls {args : List Value} {h : Heap} {R : Value → Heap → Prop} (hl : args.length = 1) (hv : Cd.vc Try.prog Reader_one (retQ Try.prog [(2, some 76)] R) (initEnv args [0, 2, 3, 4, 6, 7, 17, 21, 35, 39, 46, 59, 65]) h) : HCalls Try.prog 78 args.toArray h R :=
  hcalls_of_vc (by kernel_rfl) Try.func78 (cd := Reader_one) (L := [0, 2, 3, 4, 6, 7, 17, 21, 35, 39, 46, 59, 65]) (by kernel_rfl) (by kernel_rfl) ⟨by rw [hl, Try.ntmps78]; decide, by rw [Try.ntmps78]; decide⟩ hv
def Reader_one_gos := And.intro (@goVc Try.prog _ _ Reader_one.eq_1) (And.intro (@goOps Try.prog _ _ Reader_one_r0.eq_1) (And.intro (@goOps Try.prog _ _ Reader_one_r1.eq_1) (And.intro (@goOps Try.prog _ _ Reader_one_r2.eq_1) (And.intro (@goOps Try.prog _ _ Reader_one_r3.eq_1) (And.intro (@goOps Try.prog _ _ Reader_one_r4.eq_1) (And.intro (@goOps Try.prog _ _ Reader_one_r5.eq_1) (And.intro (@goOps Try.prog _ _ Reader_one_r6.eq_1) (And.intro (@goOps Try.prog _ _ Reader_one_r7.eq_1) (And.intro (@goOps Try.prog _ _ Reader_one_r8.eq_1) (And.intro (@goOps Try.prog _ _ Reader_one_r9.eq_1) (And.intro (@goOps Try.prog _ _ Reader_one_r10.eq_1) (And.intro (@goOps Try.prog _ _ Reader_one_r11.eq_1) (And.intro (@goOps Try.prog _ _ Reader_one_r12.eq_1) (And.intro (@goOps Try.prog _ _ Reader_one_r13.eq_1) (And.intro (@goOps Try.prog _ _ Reader_one_r14.eq_1) (And.intro (@goOps Try.prog _ _ Reader_one_r15.eq_1) (And.intro (@goOps Try.prog _ _ Reader_one_r16.eq_1) (And.intro (@goOps Try.prog _ _ Reader_one_r17.eq_1) (And.intro (@goOps Try.prog _ _ Reader_one_r18.eq_1) (And.intro (@goOps Try.prog _ _ Reader_one_r19.eq_1) (And.intro (@goOps Try.prog _ _ Reader_one_r20.eq_1) (And.intro (@goOps Try.prog _ _ Reader_one_r21.eq_1) (And.intro (@goOps Try.prog _ _ Reader_one_r22.eq_1) (And.intro (@goOps Try.prog _ _ Reader_one_r23.eq_1) (And.intro (@goOps Try.prog _ _ Reader_one_r24.eq_1) (@goOps Try.prog _ _ Reader_one_r25.eq_1))))))))))))))))))))))))))

/-! jvmcore/jvmcoreref1.Read: function 60: slots [0, 2, 3, 4, 5, 6, 7, 8, 9, 10, 11, 12, 13, 15, 18, 26, 32, 36, 47, 57, 70, 81, 91, 111, 113, 121, 139, 147] -/
def ref1_Read_r0 : List Sop := [
  sw 2 (.assign (.const (.slice none 0 0))) 22,
  sw 3 (.assign (.const (.int .i64 0))) 3,
  sw 4 (.assign (.const (.int .i64 0))) 27,
  sw 5 (.assign (.const (.int .i64 0))) 3]
def ref1_Read_r1 : List Sop := [
  sq 16 (.move (.tmp 0)) 9,
  sq 17 (.call { callee := .builtin .len, args := #[.tmp 16], argTypes := #[9] }) 3,
  sw 18 (.binOp .lss 3 (.tmp 17) (.const (.int .i64 2)) 3) 4]
def ref1_Read_r2 : List Sop := [
  sq 19 (.move (.tmp 0)) 9,
  sq 20 (.call { callee := .builtin .len, args := #[.tmp 19], argTypes := #[9] }) 3,
  sw 2 (.assign (.const (.slice none 0 0))) 22,
  sw 3 (.assign (.const (.int .i64 0))) 3,
  sw 4 (.assign (.const (.int .i64 1))) 27,
  sw 5 (.assign (.tmp 20)) 3]
def ref1_Read_r3 : List Sop := [
  sq 21 (.move (.tmp 0)) 9,
  sq 22 (.slice 9 (.tmp 21) none (some (.const (.int .i64 2))) none) 9,
  sc 23 (.call { callee := .value (.func 67), args := #[.tmp 22], argTypes := #[9] }) 74,
  sq 24 (.convert 74 3 (.tmp 23)) 3,
  sw 6 (.assign (.tmp 24)) 3]
def ref1_Read_r4 : List Sop := [
  sq 25 (.move (.tmp 6)) 3,
  sw 26 (.binOp .eql 3 (.tmp 25) (.const (.int .i64 0)) 3) 4]
def ref1_Read_r5 : List Sop := [
  sw 2 (.assign (.const (.slice none 0 0))) 22,
  sw 3 (.assign (.const (.int .i64 0))) 3,
  sw 4 (.assign (.const (.int .i64 12))) 27,
  sw 5 (.assign (.const (.int .i64 0))) 3]
def ref1_Read_r6 : List Sop := [
  sq 27 (.build 76 #[]) 76,
  sc 28 (.buildSlice 22 1 #[(0, .tmp 27)]) 22,
  sw 7 (.assign (.tmp 28)) 22]
def ref1_Read_r7 : List Sop := [
  sw 8 (.assign (.const (.int .i64 2))) 3]
def ref1_Read_r8 : List Sop := [
  sq 29 (.move (.tmp 7)) 22,
  sq 30 (.call { callee := .builtin .len, args := #[.tmp 29], argTypes := #[22] }) 3,
  sq 31 (.move (.tmp 6)) 3,
  sw 32 (.binOp .lss 3 (.tmp 30) (.tmp 31) 3) 4]
def ref1_Read_r9 : List Sop := [
  sq 33 (.move (.tmp 8)) 3,
  sq 34 (.move (.tmp 0)) 9,
  sq 35 (.call { callee := .builtin .len, args := #[.tmp 34], argTypes := #[9] }) 3,
  sw 36 (.binOp .geq 3 (.tmp 33) (.tmp 35) 3) 4]
def ref1_Read_r10 : List Sop := [
  sq 37 (.move (.tmp 0)) 9,
  sq 38 (.call { callee := .builtin .len, args := #[.tmp 37], argTypes := #[9] }) 3,
  sw 2 (.assign (.const (.slice none 0 0))) 22,
  sw 3 (.assign (.const (.int .i64 0))) 3,
  sw 4 (.assign (.const (.int .i64 1))) 27,
  sw 5 (.assign (.tmp 38)) 3]
def ref1_Read_r11 : List Sop := [
  sq 39 (.move (.tmp 0)) 9,
  sq 40 (.move (.tmp 8)) 3,
  sq 41 (.index 9 (.tmp 39) (.tmp 40)) 5,
  sq 42 (.build 76 #[(0, .tmp 41)]) 76,
  sa 9 (.alloc 76) 0,
  ss (.store 76 (.tmp 9) (.tmp 42))]
def ref1_Read_r12 : List Sop := [
  sq 43 (.fieldAddr 76 (.tmp 9) 0) 0,
  sq 44 (.load 5 (.tmp 43)) 5,
  sc 45 (.call { callee := .value (.func 76), args := #[.tmp 44], argTypes := #[5] }) 3,
  sw 10 (.assign (.tmp 45)) 3]
def ref1_Read_r13 : List Sop := [
  sq 46 (.move (.tmp 10)) 3,
  sw 47 (.binOp .lss 3 (.tmp 46) (.const (.int .i64 0)) 3) 4]
def ref1_Read_r14 : List Sop := [
  sq 48 (.move (.tmp 8)) 3,
  sw 2 (.assign (.const (.slice none 0 0))) 22,
  sw 3 (.assign (.const (.int .i64 0))) 3,
  sw 4 (.assign (.const (.int .i64 5))) 27,
  sw 5 (.assign (.tmp 48)) 3]
def ref1_Read_r15 : List Sop := [
  sq 49 (.move (.tmp 8)) 3,
  sw 11 (.assign (.tmp 49)) 3]
def ref1_Read_r16 : List Sop := [
  sq 50 (.move (.tmp 8)) 3,
  sq 51 (.binOp .add 3 (.tmp 50) (.const (.int .i64 1)) 3) 3,
  sw 8 (.assign (.tmp 51)) 3]
def ref1_Read_r17 : List Sop := [
  sq 52 (.move (.tmp 8)) 3,
  sq 53 (.move (.tmp 10)) 3,
  sq 54 (.binOp .add 3 (.tmp 52) (.tmp 53) 3) 3,
  sq 55 (.move (.tmp 0)) 9,
  sq 56 (.call { callee := .builtin .len, args := #[.tmp 55], argTypes := #[9] }) 3,
  sw 57 (.binOp .gtr 3 (.tmp 54) (.tmp 56) 3) 4]
def ref1_Read_r18 : List Sop := [
  sq 58 (.move (.tmp 0)) 9,
  sq 59 (.call { callee := .builtin .len, args := #[.tmp 58], argTypes := #[9] }) 3,
  sw 2 (.assign (.const (.slice none 0 0))) 22,
  sw 3 (.assign (.const (.int .i64 0))) 3,
  sw 4 (.assign (.const (.int .i64 1))) 27,
  sw 5 (.assign (.tmp 59)) 3]
def ref1_Read_r19 : List Sop := [
  sq 60 (.move (.tmp 0)) 9,
  sq 61 (.move (.tmp 8)) 3,
  sq 62 (.move (.tmp 8)) 3,
  sq 63 (.move (.tmp 10)) 3,
  sq 64 (.binOp .add 3 (.tmp 62) (.tmp 63) 3) 3,
  sq 65 (.slice 9 (.tmp 60) (some (.tmp 61)) (some (.tmp 64)) none) 9,
  sw 12 (.assign (.tmp 65)) 9]
def ref1_Read_r20 : List Sop := [
  sq 66 (.move (.tmp 8)) 3,
  sq 67 (.move (.tmp 10)) 3,
  sq 68 (.binOp .add 3 (.tmp 66) (.tmp 67) 3) 3,
  sw 8 (.assign (.tmp 68)) 3]
def ref1_Read_r21 : List Sop := [
  sq 69 (.fieldAddr 76 (.tmp 9) 0) 0,
  sw 70 (.load 5 (.tmp 69)) 5]
def ref1_Read_r22 : List Sop := [
  sq 82 (.binOp .eql 5 (.tmp 70) (.const (.int .u8 1)) 5) 4,
  sw 81 (.assign (.tmp 82)) 4]
def ref1_Read_r23 : List Sop := [
  sq 83 (.move (.tmp 12)) 9,
  sc 84 (.call { callee := .value (.func 67), args := #[.tmp 83], argTypes := #[9] }) 74,
  sq 85 (.convert 74 3 (.tmp 84)) 3,
  sw 13 (.assign (.tmp 85)) 3]
def ref1_Read_r24 : List Sop := [
  sq 86 (.move (.tmp 8)) 3,
  sq 87 (.move (.tmp 13)) 3,
  sq 88 (.binOp .add 3 (.tmp 86) (.tmp 87) 3) 3,
  sq 89 (.move (.tmp 0)) 9,
  sq 90 (.call { callee := .builtin .len, args := #[.tmp 89], argTypes := #[9] }) 3,
  sw 91 (.binOp .gtr 3 (.tmp 88) (.tmp 90) 3) 4]
def ref1_Read_r25 : List Sop := [
  sq 92 (.move (.tmp 0)) 9,
  sq 93 (.call { callee := .builtin .len, args := #[.tmp 92], argTypes := #[9] }) 3,
  sw 2 (.assign (.const (.slice none 0 0))) 22,
  sw 3 (.assign (.const (.int .i64 0))) 3,
  sw 4 (.assign (.const (.int .i64 1))) 27,
  sw 5 (.assign (.tmp 93)) 3]
def ref1_Read_r26 : List Sop := [
  sq 94 (.move (.tmp 0)) 9,
  sq 95 (.move (.tmp 8)) 3,
  sq 96 (.move (.tmp 8)) 3,
  sq 97 (.move (.tmp 13)) 3,
  sq 98 (.binOp .add 3 (.tmp 96) (.tmp 97) 3) 3,
  sq 99 (.slice 9 (.tmp 94) (some (.tmp 95)) (some (.tmp 98)) none) 9,
  sq 100 (.fieldAddr 76 (.tmp 9) 1) 0,
  ss (.store 9 (.tmp 100) (.tmp 99))]
def ref1_Read_r27 : List Sop := [
  sq 101 (.move (.tmp 8)) 3,
  sq 102 (.move (.tmp 13)) 3,
  sq 103 (.binOp .add 3 (.tmp 101) (.tmp 102) 3) 3,
  sw 8 (.assign (.tmp 103)) 3]
def ref1_Read_r28 : List Sop := [
  sq 105 (.fieldAddr 76 (.tmp 9) 1) 0,
  sq 106 (.load 9 (.tmp 105)) 9,
  sc 107 (.call { callee := .value (.func 77), args := #[.tmp 106], argTypes := #[9] }) 135,
  sq 104 (.move (.tmp 107)) 135,
  sq 108 (.extract (.tmp 104) 0) 134,
  sq 109 (.extract (.tmp 104) 1) 4,
  sq 14 (.assign (.tmp 108)) 134,
  sw 15 (.assign (.tmp 109)) 4]
def ref1_Read_r29 : List Sop := [
  sq 110 (.move (.tmp 15)) 4,
  sw 111 (.unOp .not 4 (.tmp 110)) 4]
def ref1_Read_r30 : List Sop := [
  sq 112 (.move (.tmp 11)) 3,
  sw 2 (.assign (.const (.slice none 0 0))) 22,
  sw 3 (.assign (.const (.int .i64 0))) 3,
  sw 4 (.assign (.const (.int .i64 6))) 27,
  sw 5 (.assign (.tmp 112)) 3]
def ref1_Read_r31 : List Sop := [
  sq 114 (.binOp .eql 5 (.tmp 70) (.const (.int .u8 3)) 5) 4,
  sw 113 (.assign (.tmp 114)) 4]
def ref1_Read_r32 : List Sop := [
  sq 115 (.binOp .eql 5 (.tmp 70) (.const (.int .u8 4)) 5) 4,
  sw 113 (.assign (.tmp 115)) 4]
def ref1_Read_r33 : List Sop := [
  sq 116 (.binOp .eql 5 (.tmp 70) (.const (.int .u8 5)) 5) 4,
  sw 113 (.assign (.tmp 116)) 4]
def ref1_Read_r34 : List Sop := [
  sq 117 (.binOp .eql 5 (.tmp 70) (.const (.int .u8 6)) 5) 4,
  sw 113 (.assign (.tmp 117)) 4]
def ref1_Read_r35 : List Sop := [
  sq 118 (.move (.tmp 12)) 9,
  sc 119 (.call { callee := .value (.func 67), args := #[.tmp 118], argTypes := #[9] }) 74,
  sq 120 (.fieldAddr 76 (.tmp 9) 2) 0,
  ss (.store 74 (.tmp 120) (.tmp 119))]
def ref1_Read_r36 : List Sop := [
  sq 122 (.binOp .eql 5 (.tmp 70) (.const (.int .u8 7)) 5) 4,
  sw 121 (.assign (.tmp 122)) 4]
def ref1_Read_r37 : List Sop := [
  sq 123 (.binOp .eql 5 (.tmp 70) (.const (.int .u8 8)) 5) 4,
  sw 121 (.assign (.tmp 123)) 4]
def ref1_Read_r38 : List Sop := [
  sq 124 (.move (.tmp 12)) 9,
  sc 125 (.call { callee := .value (.func 67), args := #[.tmp 124], argTypes := #[9] }) 74,
  sq 126 (.convert 74 38 (.tmp 125)) 38,
  sq 127 (.fieldAddr 76 (.tmp 9) 3) 0,
  ss (.store 38 (.tmp 127) (.tmp 126))]
def ref1_Read_r39 : List Sop := [
  sq 71 (.move (.tmp 12)) 9,
  sq 72 (.slice 9 (.tmp 71) none (some (.const (.int .i64 2))) none) 9,
  sc 73 (.call { callee := .value (.func 67), args := #[.tmp 72], argTypes := #[9] }) 74,
  sq 74 (.convert 74 38 (.tmp 73)) 38,
  sq 75 (.fieldAddr 76 (.tmp 9) 3) 0,
  ss (.store 38 (.tmp 75) (.tmp 74))]
def ref1_Read_r40 : List Sop := [
  sq 76 (.move (.tmp 12)) 9,
  sq 77 (.slice 9 (.tmp 76) (some (.const (.int .i64 2))) none none) 9,
  sc 78 (.call { callee := .value (.func 67), args := #[.tmp 77], argTypes := #[9] }) 74,
  sq 79 (.convert 74 38 (.tmp 78)) 38,
  sq 80 (.fieldAddr 76 (.tmp 9) 4) 0,
  ss (.store 38 (.tmp 80) (.tmp 79))]
def ref1_Read_r41 : List Sop := [
  sq 128 (.move (.tmp 7)) 22,
  sq 129 (.load 76 (.tmp 9)) 76,
  sc 130 (.buildSlice 22 1 #[(0, .tmp 129)]) 22,
  sc 131 (.call { callee := .builtin .append, args := #[.tmp 128, .tmp 130], argTypes := #[22, 22] }) 22,
  sw 7 (.assign (.tmp 131)) 22]
def ref1_Read_r42 : List Sop := [
  sq 132 (.fieldAddr 76 (.tmp 9) 0) 0,
  sq 133 (.load 5 (.tmp 132)) 5,
  sq 134 (.binOp .eql 5 (.tmp 133) (.const (.int .u8 5)) 5) 4,
  sq 135 (.move (.tmp 134)) 4,
  ⟨some (136, false), .fieldAddr 76 (.tmp 9) 0, 0, some (135, false), true⟩,
  ⟨some (137, false), .load 5 (.tmp 136), 5, some (135, false), true⟩,
  ⟨some (138, false), .binOp .eql 5 (.tmp 137) (.const (.int .u8 6)) 5, 4, some (135, false), true⟩,
  sw 139 (.pick (.tmp 135) (.const (.bool true)) (.tmp 138)) 4]
def ref1_Read_r43 : List Sop := [
  sq 140 (.move (.tmp 7)) 22,
  sq 141 (.build 76 #[]) 76,
  sc 142 (.buildSlice 22 1 #[(0, .tmp 141)]) 22,
  sc 143 (.call { callee := .builtin .append, args := #[.tmp 140, .tmp 142], argTypes := #[22, 22] }) 22,
  sw 7 (.assign (.tmp 143)) 22]
def ref1_Read_r44 : List Sop := [
  sq 144 (.move (.tmp 7)) 22,
  sq 145 (.call { callee := .builtin .len, args := #[.tmp 144], argTypes := #[22] }) 3,
  sq 146 (.move (.tmp 6)) 3,
  sw 147 (.binOp .gtr 3 (.tmp 145) (.tmp 146) 3) 4]
def ref1_Read_r45 : List Sop := [
  sq 148 (.move (.tmp 11)) 3,
  sw 2 (.assign (.const (.slice none 0 0))) 22,
  sw 3 (.assign (.const (.int .i64 0))) 3,
  sw 4 (.assign (.const (.int .i64 12))) 27,
  sw 5 (.assign (.tmp 148)) 3]
def ref1_Read_r46 : List Sop := [
  sq 149 (.move (.tmp 7)) 22,
  sq 150 (.move (.tmp 8)) 3,
  sw 2 (.assign (.tmp 149)) 22,
  sw 3 (.assign (.tmp 150)) 3,
  sw 4 (.assign (.const (.int .i64 0))) 27,
  sw 5 (.assign (.const (.int .i64 0))) 3]
def ref1_Read_l0 : Cd := .seq (.seq (.region ref1_Read_r8) (.cond (.tmp 32) (.skip) (.exit 0))) (.block 1 (.seq (.seq (.region ref1_Read_r9) (.cond (.tmp 36) (.seq (.region ref1_Read_r10) (.ret)) (.skip))) (.seq (.region ref1_Read_r11) (.seq (.region ref1_Read_r12) (.seq (.seq (.region ref1_Read_r13) (.cond (.tmp 47) (.seq (.region ref1_Read_r14) (.ret)) (.skip))) (.seq (.region ref1_Read_r15) (.seq (.region ref1_Read_r16) (.seq (.seq (.region ref1_Read_r17) (.cond (.tmp 57) (.seq (.region ref1_Read_r18) (.ret)) (.skip))) (.seq (.region ref1_Read_r19) (.seq (.region ref1_Read_r20) (.seq (.seq (.region ref1_Read_r21) (.block 2 (.seq (.region ref1_Read_r22) (.cond (.tmp 81) (.seq (.region ref1_Read_r23) (.seq (.seq (.region ref1_Read_r24) (.cond (.tmp 91) (.seq (.region ref1_Read_r25) (.ret)) (.skip))) (.seq (.region ref1_Read_r26) (.seq (.region ref1_Read_r27) (.seq (.region ref1_Read_r28) (.seq (.region ref1_Read_r29) (.cond (.tmp 111) (.seq (.region ref1_Read_r30) (.ret)) (.skip)))))))) (.seq (.seq (.region ref1_Read_r31) (.cond (.tmp 113) (.skip) (.seq (.region ref1_Read_r32) (.cond (.tmp 113) (.skip) (.seq (.region ref1_Read_r33) (.cond (.tmp 113) (.skip) (.region ref1_Read_r34))))))) (.cond (.tmp 113) (.region ref1_Read_r35) (.seq (.seq (.region ref1_Read_r36) (.cond (.tmp 121) (.skip) (.region ref1_Read_r37))) (.cond (.tmp 121) (.region ref1_Read_r38) (.seq (.region ref1_Read_r39) (.region ref1_Read_r40)))))))))) (.seq (.region ref1_Read_r41) (.seq (.region ref1_Read_r42) (.cond (.tmp 139) (.seq (.region ref1_Read_r43) (.seq (.region ref1_Read_r44) (.cond (.tmp 147) (.seq (.region ref1_Read_r45) (.ret)) (.skip)))) (.skip)))))))))))))))
def ref1_Read : Cd := .seq (.region ref1_Read_r0) (.seq (.seq (.region ref1_Read_r1) (.cond (.tmp 18) (.seq (.region ref1_Read_r2) (.ret)) (.skip))) (.seq (.region ref1_Read_r3) (.seq (.seq (.region ref1_Read_r4) (.cond (.tmp 26) (.seq (.region ref1_Read_r5) (.ret)) (.skip))) (.seq (.region ref1_Read_r6) (.seq (.region ref1_Read_r7) (.seq (.block 0 (.loop ref1_Read_l0)) (.seq (.region ref1_Read_r46) (.ret))))))))
theorem ref1_Read_calls {args : List Value} {h : Heap} {R : Value → Heap → Prop} (hl : args.length = 1) (hv : Cd.vc Try.prog ref1_Read (retQ Try.prog [(2, none), (3, none), (4, none), (5, none)] R) (initEnv args [0, 2, 3, 4, 5, 6, 7, 8, 9, 10, 11, 12, 13, 15, 18, 26, 32, 36, 47, 57, 70, 81, 91, 111, 113, 121, 139, 147]) h) : HCalls Try.prog 60 args.toArray h R :=
  hcalls_of_vc (by kernel_rfl) Try.func60 (cd := ref1_Read) (L := [0, 2, 3, 4, 5, 6, 7, 8, 9, 10, 11, 12, 13, 15, 18, 26, 32, 36, 47, 57, 70, 81, 91, 111, 113, 121, 139, 147]) (by kernel_rfl) (by kernel_rfl) ⟨by rw [hl, Try.ntmps60]; decide, by rw [Try.ntmps60]; decide⟩ hv
def ref1_Read_gos := And.intro (@goVc Try.prog _ _ ref1_Read.eq_1) (And.intro (@goOps Try.prog _ _ ref1_Read_r0.eq_1) (And.intro (@goOps Try.prog _ _ ref1_Read_r1.eq_1) (And.intro (@goOps Try.prog _ _ ref1_Read_r2.eq_1) (And.intro (@goOps Try.prog _ _ ref1_Read_r3.eq_1) (And.intro (@goOps Try.prog _ _ ref1_Read_r4.eq_1) (And.intro (@goOps Try.prog _ _ ref1_Read_r5.eq_1) (And.intro (@goOps Try.prog _ _ ref1_Read_r6.eq_1) (And.intro (@goOps Try.prog _ _ ref1_Read_r7.eq_1) (And.intro (@goOps Try.prog _ _ ref1_Read_r8.eq_1) (And.intro (@goOps Try.prog _ _ ref1_Read_r9.eq_1) (And.intro (@goOps Try.prog _ _ ref1_Read_r10.eq_1) (And.intro (@goOps Try.prog _ _ ref1_Read_r11.eq_1) (And.intro (@goOps Try.prog _ _ ref1_Read_r12.eq_1) (And.intro (@goOps Try.prog _ _ ref1_Read_r13.eq_1) (And.intro (@goOps Try.prog _ _ ref1_Read_r14.eq_1) (And.intro (@goOps Try.prog _ _ ref1_Read_r15.eq_1) (And.intro (@goOps Try.prog _ _ ref1_Read_r16.eq_1) (And.intro (@goOps Try.prog _ _ ref1_Read_r17.eq_1) (And.intro (@goOps Try.prog _ _ ref1_Read_r18.eq_1) (And.intro (@goOps Try.prog _ _ ref1_Read_r19.eq_1) (And.intro (@goOps Try.prog _ _ ref1_Read_r20.eq_1) (And.intro (@goOps Try.prog _ _ ref1_Read_r21.eq_1) (And.intro (@goOps Try.prog _ _ ref1_Read_r22.eq_1) (And.intro (@goOps Try.prog _ _ ref1_Read_r23.eq_1) (And.intro (@goOps Try.prog _ _ ref1_Read_r24.eq_1) (And.intro (@goOps Try.prog _ _ ref1_Read_r25.eq_1) (And.intro (@goOps Try.prog _ _ ref1_Read_r26.eq_1) (And.intro (@goOps Try.prog _ _ ref1_Read_r27.eq_1) (And.intro (@goOps Try.prog _ _ ref1_Read_r28.eq_1) (And.intro (@goOps Try.prog _ _ ref1_Read_r29.eq_1) (And.intro (@goOps Try.prog _ _ ref1_Read_r30.eq_1) (And.intro (@goOps Try.prog _ _ ref1_Read_r31.eq_1) (And.intro (@goOps Try.prog _ _ ref1_Read_r32.eq_1) (And.intro (@goOps Try.prog _ _ ref1_Read_r33.eq_1) (And.intro (@goOps Try.prog _ _ ref1_Read_r34.eq_1) (And.intro (@goOps Try.prog _ _ ref1_Read_r35.eq_1) (And.intro (@goOps Try.prog _ _ ref1_Read_r36.eq_1) (And.intro (@goOps Try.prog _ _ ref1_Read_r37.eq_1) (And.intro (@goOps Try.prog _ _ ref1_Read_r38.eq_1) (And.intro (@goOps Try.prog _ _ ref1_Read_r39.eq_1) (And.intro (@goOps Try.prog _ _ ref1_Read_r40.eq_1) (And.intro (@goOps Try.prog _ _ ref1_Read_r41.eq_1) (And.intro (@goOps Try.prog _ _ ref1_Read_r42.eq_1) (And.intro (@goOps Try.prog _ _ ref1_Read_r43.eq_1) (And.intro (@goOps Try.prog _ _ ref1_Read_r44.eq_1) (And.intro (@goOps Try.prog _ _ ref1_Read_r45.eq_1) (And.intro (@goOps Try.prog _ _ ref1_Read_r46.eq_1) (@goVc Try.prog _ _ ref1_Read_l0.eq_1))))))))))))))))))))))))))))))))))))))))))))))))

end Go.Proofs.Ytohkbpnblkkdgaa.C
