/- The stripped code of some functions of this seat's program, printed by a program; that it is that code is proved by the kernel. No condition. -/

import Derived.Test.YtohkbpnblkkdgaaProg

import Derived.Test.YtohkbpnblkkdgaaVcJ

set_option maxRecDepth 100000

set_option linter.defProp false

namespace Go.Proofs.Ytohkbpnblkkdgaa.C

open Go.Vc

/-! (*jvmcore/jvmcoreref3.writing).fail: function 45: slots [0, 1, 8] -/
def rw_fail_r0 : List Sop := [
  sq 4 (.move (.tmp 0)) 92,
  sq 5 (.nilCheck (.tmp 4)) 0,
  sq 6 (.fieldAddr 94 (.tmp 5) 1) 0,
  sq 7 (.load 27 (.tmp 6)) 27,
  sw 8 (.binOp .eql 27 (.tmp 7) (.const (.int .i64 0)) 27) 4]
def rw_fail_r1 : List Sop := [
  sq 9 (.move (.tmp 0)) 92,
  sq 10 (.move (.tmp 1)) 27,
  sq 11 (.nilCheck (.tmp 9)) 0,
  sq 12 (.fieldAddr 94 (.tmp 11) 1) 0,
  ss (.store 27 (.tmp 12) (.tmp 10))]
def rw_fail : Cd := .seq (.region rw_fail_r0) (.cond (.tmp 8) (.region rw_fail_r1) (.skip))
theorem rw_fail_calls {args : List Value} {h : Heap} {R : Value → Heap → Prop} (hl : args.length = 2) (hv : Cd.vc Try.prog rw_fail (retQ Try.prog [] R) (initEnv args [0, 1, 8]) h) : HCalls Try.prog 45 args.toArray h R :=
  hcalls_of_vc (by kernel_rfl) Try.func45 (cd := rw_fail) (L := [0, 1, 8]) (by kernel_rfl) (by kernel_rfl) ⟨by rw [hl, Try.ntmps45]; decide, by rw [Try.ntmps45]; decide⟩ hv
def rw_fail_gos := And.intro (@goVc Try.prog _ _ rw_fail.eq_1) (And.intro (@goOps Try.prog _ _ rw_fail_r0.eq_1) (@goOps Try.prog _ _ rw_fail_r1.eq_1))

/-! (*jvmcore/jvmcoreref3.writing).num: function 47: slots [0, 1, 2, 6, 15] -/
def rw_num_r0 : List Sop := [
  sw 6 (.assign (.const (.string { data := #[] }))) 9]
def rw_num_r1 : List Sop := [
  sq 7 (.move (.tmp 1)) 3,
  sq 8 (.binOp .lss 3 (.tmp 7) (.const (.int .i64 0)) 3) 4,
  sq 9 (.move (.tmp 8)) 4,
  ⟨some (10, false), .move (.tmp 1), 3, some (9, false), true⟩,
  ⟨some (11, false), .move (.tmp 2), 3, some (9, false), true⟩,
  ⟨some (12, false), .binOp .mul 3 (.const (.int .i64 8)) (.tmp 11) 3, 3, some (9, false), true⟩,
  ⟨some (13, false), .binOp .shl 3 (.const (.int .i64 1)) (.tmp 12) 3, 3, some (9, false), true⟩,
  ⟨some (14, false), .binOp .geq 3 (.tmp 10) (.tmp 13) 3, 4, some (9, false), true⟩,
  sw 15 (.pick (.tmp 9) (.const (.bool true)) (.tmp 14)) 4]
def rw_num_r2 : List Sop := [
  sq 16 (.move (.tmp 0)) 92,
  sc 17 (.call { callee := .value (.func 45), args := #[.tmp 16, .const (.int .i64 12)], argTypes := #[92, 27] }) 0]
def rw_num_r3 : List Sop := [
  sq 18 (.move (.tmp 1)) 3,
  sq 19 (.convert 3 74 (.tmp 18)) 74,
  sq 20 (.move (.tmp 2)) 3,
  sc 21 (.call { callee := .value (.func 75), args := #[.tmp 19, .tmp 20], argTypes := #[74, 3] }) 9,
  sw 6 (.assign (.tmp 21)) 9]
def rw_num : Cd := .seq (.region rw_num_r0) (.seq (.seq (.region rw_num_r1) (.cond (.tmp 15) (.region rw_num_r2) (.skip))) (.seq (.region rw_num_r3) (.ret)))
theorem rw_num_calls {args : List Value} {h : Heap} {R : Value → Heap → Prop} (hl : args.length = 3) (hv : Cd.vc Try.prog rw_num (retQ Try.prog [(6, none)] R) (initEnv args [0, 1, 2, 6, 15]) h) : HCalls Try.prog 47 args.toArray h R :=
  hcalls_of_vc (by kernel_rfl) Try.func47 (cd := rw_num) (L := [0, 1, 2, 6, 15]) (by kernel_rfl) (by kernel_rfl) ⟨by rw [hl, Try.ntmps47]; decide, by rw [Try.ntmps47]; decide⟩ hv
def rw_num_gos := And.intro (@goVc Try.prog _ _ rw_num.eq_1) (And.intro (@goOps Try.prog _ _ rw_num_r0.eq_1) (And.intro (@goOps Try.prog _ _ rw_num_r1.eq_1) (And.intro (@goOps Try.prog _ _ rw_num_r2.eq_1) (@goOps Try.prog _ _ rw_num_r3.eq_1))))

/-! (*jvmcore/jvmcoreref3.writing).attribute: function 48: slots [0, 1, 2, 6, 7, 15, 40] -/
def rw_attribute_r0 : List Sop := [
  sw 6 (.assign (.const (.string { data := #[] }))) 9]
def rw_attribute_r1 : List Sop := [
  sw 7 (.assign (.const (.int .i64 1))) 3]
def rw_attribute_r2 : List Sop := [
  sq 8 (.move (.tmp 7)) 3,
  sq 9 (.move (.tmp 0)) 92,
  sq 10 (.nilCheck (.tmp 9)) 0,
  sq 11 (.fieldAddr 94 (.tmp 10) 0) 0,
  sq 12 (.fieldAddr 43 (.tmp 11) 5) 0,
  sq 13 (.load 22 (.tmp 12)) 22,
  sq 14 (.call { callee := .builtin .len, args := #[.tmp 13], argTypes := #[22] }) 3,
  sw 15 (.binOp .lss 3 (.tmp 8) (.tmp 14) 3) 4]
def rw_attribute_r3 : List Sop := [
  sq 18 (.move (.tmp 0)) 92,
  sq 19 (.nilCheck (.tmp 18)) 0,
  sq 20 (.fieldAddr 94 (.tmp 19) 0) 0,
  sq 21 (.fieldAddr 43 (.tmp 20) 5) 0,
  sq 22 (.load 22 (.tmp 21)) 22,
  sq 23 (.move (.tmp 7)) 3,
  sq 24 (.indexAddr 22 (.tmp 22) (.tmp 23)) 0,
  sq 25 (.fieldAddr 76 (.tmp 24) 0) 0,
  sq 26 (.load 5 (.tmp 25)) 5,
  sq 27 (.binOp .eql 5 (.tmp 26) (.const (.int .u8 1)) 5) 4,
  sq 28 (.move (.tmp 27)) 4,
  ⟨some (29, false), .move (.tmp 0), 92, some (28, true), true⟩,
  ⟨some (30, false), .nilCheck (.tmp 29), 0, some (28, true), true⟩,
  ⟨some (31, false), .fieldAddr 94 (.tmp 30) 0, 0, some (28, true), true⟩,
  ⟨some (32, false), .fieldAddr 43 (.tmp 31) 5, 0, some (28, true), true⟩,
  ⟨some (33, false), .load 22 (.tmp 32), 22, some (28, true), true⟩,
  ⟨some (34, false), .move (.tmp 7), 3, some (28, true), true⟩,
  ⟨some (35, false), .indexAddr 22 (.tmp 33) (.tmp 34), 0, some (28, true), true⟩,
  ⟨some (36, false), .fieldAddr 76 (.tmp 35) 1, 0, some (28, true), true⟩,
  ⟨some (37, false), .load 9 (.tmp 36), 9, some (28, true), true⟩,
  ⟨some (38, false), .move (.tmp 1), 9, some (28, true), true⟩,
  ⟨some (39, false), .binOp .eql 9 (.tmp 37) (.tmp 38) 9, 4, some (28, true), true⟩,
  sw 40 (.pick (.tmp 28) (.tmp 39) (.const (.bool false))) 4]
def rw_attribute_r4 : List Sop := [
  sq 41 (.move (.tmp 0)) 92,
  sq 42 (.move (.tmp 7)) 3,
  sc 43 (.call { callee := .value (.func 47), args := #[.tmp 41, .tmp 42, .const (.int .i64 2)], argTypes := #[92, 3, 3] }) 9,
  sq 44 (.move (.tmp 0)) 92,
  sq 45 (.move (.tmp 2)) 9,
  sq 46 (.call { callee := .builtin .len, args := #[.tmp 45], argTypes := #[9] }) 3,
  sc 47 (.call { callee := .value (.func 47), args := #[.tmp 44, .tmp 46, .const (.int .i64 4)], argTypes := #[92, 3, 3] }) 9,
  sq 48 (.binOp .add 9 (.tmp 43) (.tmp 47) 9) 9,
  sq 49 (.move (.tmp 2)) 9,
  sq 50 (.binOp .add 9 (.tmp 48) (.tmp 49) 9) 9,
  sw 6 (.assign (.tmp 50)) 9]
def rw_attribute_r5 : List Sop := [
  sq 16 (.move (.tmp 7)) 3,
  sq 17 (.binOp .add 3 (.tmp 16) (.const (.int .i64 1)) 3) 3,
  sw 7 (.assign (.tmp 17)) 3]
def rw_attribute_r6 : List Sop := [
  sq 51 (.move (.tmp 0)) 92,
  sc 52 (.call { callee := .value (.func 45), args := #[.tmp 51, .const (.int .i64 8)], argTypes := #[92, 27] }) 0]
def rw_attribute_r7 : List Sop := [
  sw 6 (.assign (.const (.string { data := #[] }))) 9]
def rw_attribute_l0 : Cd := .seq (.seq (.region rw_attribute_r2) (.cond (.tmp 15) (.skip) (.exit 0))) (.seq (.block 1 (.seq (.region rw_attribute_r3) (.cond (.tmp 40) (.seq (.region rw_attribute_r4) (.ret)) (.skip)))) (.region rw_attribute_r5))
def rw_attribute : Cd := .seq (.region rw_attribute_r0) (.seq (.seq (.region rw_attribute_r1) (.block 0 (.loop rw_attribute_l0))) (.seq (.region rw_attribute_r6) (.seq (.region rw_attribute_r7) (.ret))))
theorem rw_attribute_calls {args : List Value} {h : Heap} {R : Value → Heap → Prop} (hl : args.length = 3) (hv : Cd.vc Try.prog rw_attribute (retQ Try.prog [(6, none)] R) (initEnv args [0, 1, 2, 6, 7, 15, 40]) h) : HCalls Try.prog 48 args.toArray h R :=
  hcalls_of_vc (by kernel_rfl) Try.func48 (cd := rw_attribute) (L := [0, 1, 2, 6, 7, 15, 40]) (by kernel_rfl) (by kernel_rfl) ⟨by rw [hl, Try.ntmps48]; decide, by rw [Try.ntmps48]; decide⟩ hv
def rw_attribute_gos := And.intro (@goVc Try.prog _ _ rw_attribute.eq_1) (And.intro (@goOps Try.prog _ _ rw_attribute_r0.eq_1) (And.intro (@goOps Try.prog _ _ rw_attribute_r1.eq_1) (And.intro (@goOps Try.prog _ _ rw_attribute_r2.eq_1) (And.intro (@goOps Try.prog _ _ rw_attribute_r3.eq_1) (And.intro (@goOps Try.prog _ _ rw_attribute_r4.eq_1) (And.intro (@goOps Try.prog _ _ rw_attribute_r5.eq_1) (And.intro (@goOps Try.prog _ _ rw_attribute_r6.eq_1) (And.intro (@goOps Try.prog _ _ rw_attribute_r7.eq_1) (@goVc Try.prog _ _ rw_attribute_l0.eq_1)))))))))

/-! (*jvmcore/jvmcoreref3.writing).code: function 49: slots [0, 1, 3, 4, 5, 7, 35, 36, 37, 38, 66] -/
def rw_code_r0 : List Sop := [
  sa 3 (.box 79 (.tmp 1)) 0,
  sw 4 (.assign (.const (.string { data := #[] }))) 9]
def rw_code_r1 : List Sop := [
  sq 8 (.move (.tmp 0)) 92,
  sc 9 (.call { callee := .value (.func 48), args := #[.tmp 8, .const (.string { data := #[67, 111, 100, 101] }), .const (.string { data := #[] })], argTypes := #[92, 9, 9] }) 9]
def rw_code_r2 : List (Sop × List Sop) := [
  (sq 10 (.move (.tmp 0)) 92, []),
  (sq 11 (.fieldAddr 79 (.tmp 3) 0) 0, []),
  (sq 12 (.load 3 (.tmp 11)) 3, []),
  (sq 14 (.move (.tmp 0)) 92, []),
  (sq 15 (.fieldAddr 79 (.tmp 3) 1) 0, []),
  (sq 16 (.load 3 (.tmp 15)) 3, []),
  (sq 19 (.move (.tmp 0)) 92, []),
  (sq 20 (.fieldAddr 79 (.tmp 3) 2) 0, []),
  (sq 21 (.load 9 (.tmp 20)) 9, []),
  (sq 22 (.call { callee := .builtin .len, args := #[.tmp 21], argTypes := #[9] }) 3, []),
  (sq 25 (.fieldAddr 79 (.tmp 3) 2) 0, []),
  (sq 26 (.load 9 (.tmp 25)) 9, []),
  (sq 28 (.move (.tmp 0)) 92, []),
  (sq 29 (.fieldAddr 79 (.tmp 3) 3) 0, []),
  (sq 30 (.load 77 (.tmp 29)) 77, []),
  (sq 31 (.call { callee := .builtin .len, args := #[.tmp 30], argTypes := #[77] }) 3, []),
  (sc 13 (.call { callee := .value (.func 47), args := #[.tmp 10, .tmp 12, .const (.int .i64 2)], argTypes := #[92, 3, 3] }) 9, [sq 15 (.fieldAddr 79 (.tmp 3) 1) 0, sq 16 (.load 3 (.tmp 15)) 3, sq 20 (.fieldAddr 79 (.tmp 3) 2) 0, sq 21 (.load 9 (.tmp 20)) 9, sq 22 (.call { callee := .builtin .len, args := #[.tmp 21], argTypes := #[9] }) 3, sq 25 (.fieldAddr 79 (.tmp 3) 2) 0, sq 26 (.load 9 (.tmp 25)) 9, sq 29 (.fieldAddr 79 (.tmp 3) 3) 0, sq 30 (.load 77 (.tmp 29)) 77, sq 31 (.call { callee := .builtin .len, args := #[.tmp 30], argTypes := #[77] }) 3]),
  (sc 17 (.call { callee := .value (.func 47), args := #[.tmp 14, .tmp 16, .const (.int .i64 2)], argTypes := #[92, 3, 3] }) 9, [sq 20 (.fieldAddr 79 (.tmp 3) 2) 0, sq 21 (.load 9 (.tmp 20)) 9, sq 22 (.call { callee := .builtin .len, args := #[.tmp 21], argTypes := #[9] }) 3, sq 25 (.fieldAddr 79 (.tmp 3) 2) 0, sq 26 (.load 9 (.tmp 25)) 9, sq 29 (.fieldAddr 79 (.tmp 3) 3) 0, sq 30 (.load 77 (.tmp 29)) 77, sq 31 (.call { callee := .builtin .len, args := #[.tmp 30], argTypes := #[77] }) 3]),
  (sq 18 (.binOp .add 9 (.tmp 13) (.tmp 17) 9) 9, []),
  (sc 23 (.call { callee := .value (.func 47), args := #[.tmp 19, .tmp 22, .const (.int .i64 4)], argTypes := #[92, 3, 3] }) 9, [sq 25 (.fieldAddr 79 (.tmp 3) 2) 0, sq 26 (.load 9 (.tmp 25)) 9, sq 29 (.fieldAddr 79 (.tmp 3) 3) 0, sq 30 (.load 77 (.tmp 29)) 77, sq 31 (.call { callee := .builtin .len, args := #[.tmp 30], argTypes := #[77] }) 3, sq 18 (.binOp .add 9 (.tmp 13) (.tmp 17) 9) 9]),
  (sq 24 (.binOp .add 9 (.tmp 18) (.tmp 23) 9) 9, []),
  (sq 27 (.binOp .add 9 (.tmp 24) (.tmp 26) 9) 9, []),
  (sc 32 (.call { callee := .value (.func 47), args := #[.tmp 28, .tmp 31, .const (.int .i64 2)], argTypes := #[92, 3, 3] }) 9, [sq 25 (.fieldAddr 79 (.tmp 3) 2) 0, sq 26 (.load 9 (.tmp 25)) 9, sq 18 (.binOp .add 9 (.tmp 13) (.tmp 17) 9) 9, sq 24 (.binOp .add 9 (.tmp 18) (.tmp 23) 9) 9, sq 27 (.binOp .add 9 (.tmp 24) (.tmp 26) 9) 9]),
  (sq 33 (.binOp .add 9 (.tmp 27) (.tmp 32) 9) 9, []),
  (sw 5 (.assign (.tmp 33)) 9, [])]
def rw_code_r3 : List Sop := [
  sq 34 (.fieldAddr 79 (.tmp 3) 3) 0,
  sw 35 (.load 77 (.tmp 34)) 77,
  sw 36 (.call { callee := .builtin .len, args := #[.tmp 35], argTypes := #[77] }) 3,
  sw 37 (.move (.const (.int .i64 0))) 3]
def rw_code_r4 : List Sop := [
  sw 38 (.binOp .lss 3 (.tmp 37) (.tmp 36) 3) 0]
def rw_code_r5 : List Sop := [
  sq 39 (.indexAddr 77 (.tmp 35) (.tmp 37)) 0,
  sq 40 (.load 132 (.tmp 39)) 132,
  sa 7 (.alloc 132) 0,
  ss (.store 132 (.tmp 7) (.tmp 40))]
def rw_code_r6 : List (Sop × List Sop) := [
  (sq 41 (.move (.tmp 5)) 9, []),
  (sq 42 (.move (.tmp 0)) 92, []),
  (sq 43 (.fieldAddr 132 (.tmp 7) 0) 0, []),
  (sq 44 (.load 3 (.tmp 43)) 3, []),
  (sq 46 (.move (.tmp 0)) 92, []),
  (sq 47 (.fieldAddr 132 (.tmp 7) 1) 0, []),
  (sq 48 (.load 3 (.tmp 47)) 3, []),
  (sq 51 (.move (.tmp 0)) 92, []),
  (sq 52 (.fieldAddr 132 (.tmp 7) 2) 0, []),
  (sq 53 (.load 3 (.tmp 52)) 3, []),
  (sq 56 (.move (.tmp 0)) 92, []),
  (sq 57 (.fieldAddr 132 (.tmp 7) 3) 0, []),
  (sq 58 (.load 38 (.tmp 57)) 38, []),
  (sq 59 (.convert 38 3 (.tmp 58)) 3, []),
  (sc 45 (.call { callee := .value (.func 47), args := #[.tmp 42, .tmp 44, .const (.int .i64 2)], argTypes := #[92, 3, 3] }) 9, [sq 47 (.fieldAddr 132 (.tmp 7) 1) 0, sq 48 (.load 3 (.tmp 47)) 3, sq 52 (.fieldAddr 132 (.tmp 7) 2) 0, sq 53 (.load 3 (.tmp 52)) 3, sq 57 (.fieldAddr 132 (.tmp 7) 3) 0, sq 58 (.load 38 (.tmp 57)) 38, sq 59 (.convert 38 3 (.tmp 58)) 3]),
  (sc 49 (.call { callee := .value (.func 47), args := #[.tmp 46, .tmp 48, .const (.int .i64 2)], argTypes := #[92, 3, 3] }) 9, [sq 52 (.fieldAddr 132 (.tmp 7) 2) 0, sq 53 (.load 3 (.tmp 52)) 3, sq 57 (.fieldAddr 132 (.tmp 7) 3) 0, sq 58 (.load 38 (.tmp 57)) 38, sq 59 (.convert 38 3 (.tmp 58)) 3]),
  (sq 50 (.binOp .add 9 (.tmp 45) (.tmp 49) 9) 9, []),
  (sc 54 (.call { callee := .value (.func 47), args := #[.tmp 51, .tmp 53, .const (.int .i64 2)], argTypes := #[92, 3, 3] }) 9, [sq 57 (.fieldAddr 132 (.tmp 7) 3) 0, sq 58 (.load 38 (.tmp 57)) 38, sq 59 (.convert 38 3 (.tmp 58)) 3, sq 50 (.binOp .add 9 (.tmp 45) (.tmp 49) 9) 9]),
  (sq 55 (.binOp .add 9 (.tmp 50) (.tmp 54) 9) 9, []),
  (sc 60 (.call { callee := .value (.func 47), args := #[.tmp 56, .tmp 59, .const (.int .i64 2)], argTypes := #[92, 3, 3] }) 9, [sq 50 (.binOp .add 9 (.tmp 45) (.tmp 49) 9) 9, sq 55 (.binOp .add 9 (.tmp 50) (.tmp 54) 9) 9]),
  (sq 61 (.binOp .add 9 (.tmp 55) (.tmp 60) 9) 9, []),
  (sq 62 (.binOp .add 9 (.tmp 41) (.tmp 61) 9) 9, []),
  (sw 5 (.assign (.tmp 62)) 9, [])]
def rw_code_r7 : List Sop := [
  sq 63 (.binOp .add 3 (.tmp 37) (.const (.int .i64 1)) 3) 3,
  sw 37 (.move (.tmp 63)) 3]
def rw_code_r8 : List Sop := [
  sq 64 (.fieldAddr 79 (.tmp 3) 4) 0,
  sq 65 (.load 9 (.tmp 64)) 9,
  sw 66 (.binOp .eql 9 (.tmp 65) (.const (.string { data := #[] })) 9) 4]
def rw_code_r9 : List Sop := [
  sq 67 (.move (.tmp 5)) 9,
  sq 68 (.binOp .add 9 (.tmp 67) (.const (.string { data := #[0, 0] })) 9) 9,
  sw 5 (.assign (.tmp 68)) 9]
def rw_code_r10 : List Sop := [
  sq 69 (.move (.tmp 5)) 9,
  sq 70 (.move (.tmp 0)) 92,
  sq 71 (.fieldAddr 79 (.tmp 3) 4) 0,
  sq 72 (.load 9 (.tmp 71)) 9,
  sc 73 (.call { callee := .value (.func 48), args := #[.tmp 70, .const (.string { data := #[83, 116, 97, 99, 107, 77, 97, 112, 84, 97, 98, 108, 101] }), .tmp 72], argTypes := #[92, 9, 9] }) 9,
  sq 74 (.binOp .add 9 (.const (.string { data := #[0, 1] })) (.tmp 73) 9) 9,
  sq 75 (.binOp .add 9 (.tmp 69) (.tmp 74) 9) 9,
  sw 5 (.assign (.tmp 75)) 9]
def rw_code_r11 : List Sop := [
  sq 76 (.move (.tmp 0)) 92,
  sq 77 (.move (.tmp 5)) 9,
  sc 78 (.call { callee := .value (.func 48), args := #[.tmp 76, .const (.string { data := #[67, 111, 100, 101] }), .tmp 77], argTypes := #[92, 9, 9] }) 9,
  sw 4 (.assign (.tmp 78)) 9]
def rw_code_l0 : Cd := .seq (.region rw_code_r4) (.seq (.cond (.tmp 38) (.skip) (.exit 0)) (.seq (.block 1 (.seq (.region rw_code_r5) (.draw rw_code_r6))) (.region rw_code_r7)))
def rw_code : Cd := .seq (.region rw_code_r0) (.seq (.region rw_code_r1) (.seq (.draw rw_code_r2) (.seq (.seq (.region rw_code_r3) (.block 0 (.loop rw_code_l0))) (.seq (.seq (.region rw_code_r8) (.cond (.tmp 66) (.region rw_code_r9) (.region rw_code_r10))) (.seq (.region rw_code_r11) (.ret))))))
theorem rw_code_calls {args : List Value} {h : Heap} {R : Value → Heap → Prop} (hl : args.length = 2) (hv : Cd.vc Try.prog rw_code (retQ Try.prog [(4, none)] R) (initEnv args [0, 1, 3, 4, 5, 7, 35, 36, 37, 38, 66]) h) : HCalls Try.prog 49 args.toArray h R :=
  hcalls_of_vc (by kernel_rfl) Try.func49 (cd := rw_code) (L := [0, 1, 3, 4, 5, 7, 35, 36, 37, 38, 66]) (by kernel_rfl) (by kernel_rfl) ⟨by rw [hl, Try.ntmps49]; decide, by rw [Try.ntmps49]; decide⟩ hv
def rw_code_gos := And.intro (@goVc Try.prog _ _ rw_code.eq_1) (And.intro (@goOps Try.prog _ _ rw_code_r0.eq_1) (And.intro (@goOps Try.prog _ _ rw_code_r1.eq_1) (And.intro (@goDraw Try.prog _ _ rw_code_r2.eq_1) (And.intro (@goOps Try.prog _ _ rw_code_r3.eq_1) (And.intro (@goOps Try.prog _ _ rw_code_r4.eq_1) (And.intro (@goOps Try.prog _ _ rw_code_r5.eq_1) (And.intro (@goDraw Try.prog _ _ rw_code_r6.eq_1) (And.intro (@goOps Try.prog _ _ rw_code_r7.eq_1) (And.intro (@goOps Try.prog _ _ rw_code_r8.eq_1) (And.intro (@goOps Try.prog _ _ rw_code_r9.eq_1) (And.intro (@goOps Try.prog _ _ rw_code_r10.eq_1) (And.intro (@goOps Try.prog _ _ rw_code_r11.eq_1) (@goVc Try.prog _ _ rw_code_l0.eq_1)))))))))))))

/-! jvmcore/jvmcoreref3.WriteClass: function 17: slots [0, 1, 2, 3, 4, 5, 6, 8, 9, 11, 13, 15, 31, 42, 88, 89, 90, 91, 109, 110, 111, 112, 136, 158, 159, 160, 161, 185, 202] -/
def ref3_WriteClass_r0 : List Sop := [
  sa 1 (.box 43 (.tmp 0)) 0,
  sw 2 (.assign (.const (.string { data := #[] }))) 9,
  sw 3 (.assign (.const (.int .i64 0))) 27]
def ref3_WriteClass_r1 : List Sop := [
  sq 16 (.load 43 (.tmp 1)) 43,
  sq 17 (.build 94 #[(0, .tmp 16)]) 94,
  sc 18 (.box 94 (.tmp 17)) 92,
  sw 4 (.assign (.tmp 18)) 92]
def ref3_WriteClass_r2 : List Sop := [
  sq 19 (.fieldAddr 43 (.tmp 1) 0) 0,
  sq 20 (.load 38 (.tmp 19)) 38,
  sq 21 (.binOp .neq 38 (.tmp 20) (.const (.int .u16 0)) 38) 4,
  sq 22 (.move (.tmp 21)) 4,
  ⟨some (23, false), .fieldAddr 43 (.tmp 1) 1, 0, some (22, false), true⟩,
  ⟨some (24, false), .load 38 (.tmp 23), 38, some (22, false), true⟩,
  ⟨some (25, false), .binOp .neq 38 (.tmp 24) (.const (.int .u16 50)) 38, 4, some (22, false), true⟩,
  ⟨some (26, false), .move (.tmp 25), 4, some (22, false), true⟩,
  ⟨some (27, false), .fieldAddr 43 (.tmp 1) 1, 0, some (26, true), true⟩,
  ⟨some (28, false), .load 38 (.tmp 27), 38, some (26, true), true⟩,
  ⟨some (29, false), .binOp .neq 38 (.tmp 28) (.const (.int .u16 51)) 38, 4, some (26, true), true⟩,
  ⟨some (30, false), .pick (.tmp 26) (.tmp 29) (.const (.bool false)), 4, some (22, false), true⟩,
  sw 31 (.pick (.tmp 22) (.const (.bool true)) (.tmp 30)) 4]
def ref3_WriteClass_r3 : List Sop := [
  sq 32 (.move (.tmp 4)) 92,
  sc 33 (.call { callee := .value (.func 45), args := #[.tmp 32, .const (.int .i64 4)], argTypes := #[92, 27] }) 0]
def ref3_WriteClass_r4 : List Sop := [
  sq 35 (.fieldAddr 43 (.tmp 1) 5) 0,
  sq 36 (.load 22 (.tmp 35)) 22,
  sc 37 (.call { callee := .value (.func 46), args := #[.tmp 36], argTypes := #[22] }) 36,
  sq 34 (.move (.tmp 37)) 36,
  sq 38 (.extract (.tmp 34) 0) 9,
  sq 39 (.extract (.tmp 34) 1) 27,
  sq 40 (.extract (.tmp 34) 2) 3,
  sw 5 (.assign (.tmp 38)) 9,
  sw 6 (.assign (.tmp 39)) 27,
  sq 7 (.assign (.tmp 40)) 3]
def ref3_WriteClass_r5 : List Sop := [
  sq 41 (.move (.tmp 6)) 27,
  sw 42 (.binOp .neq 27 (.tmp 41) (.const (.int .i64 0)) 27) 4]
def ref3_WriteClass_r6 : List Sop := [
  sq 43 (.move (.tmp 4)) 92,
  sq 44 (.move (.tmp 6)) 27,
  sc 45 (.call { callee := .value (.func 45), args := #[.tmp 43, .tmp 44], argTypes := #[92, 27] }) 0]
def ref3_WriteClass_r7 : List (Sop × List Sop) := [
  (sq 46 (.move (.tmp 4)) 92, []),
  (sq 47 (.fieldAddr 43 (.tmp 1) 0) 0, []),
  (sq 48 (.load 38 (.tmp 47)) 38, []),
  (sq 49 (.convert 38 3 (.tmp 48)) 3, []),
  (sq 52 (.move (.tmp 4)) 92, []),
  (sq 53 (.fieldAddr 43 (.tmp 1) 1) 0, []),
  (sq 54 (.load 38 (.tmp 53)) 38, []),
  (sq 55 (.convert 38 3 (.tmp 54)) 3, []),
  (sq 58 (.move (.tmp 5)) 9, []),
  (sc 50 (.call { callee := .value (.func 47), args := #[.tmp 46, .tmp 49, .const (.int .i64 2)], argTypes := #[92, 3, 3] }) 9, [sq 53 (.fieldAddr 43 (.tmp 1) 1) 0, sq 54 (.load 38 (.tmp 53)) 38, sq 55 (.convert 38 3 (.tmp 54)) 3]),
  (sq 51 (.binOp .add 9 (.const (.string { data := #[202, 254, 186, 190] })) (.tmp 50) 9) 9, []),
  (sc 56 (.call { callee := .value (.func 47), args := #[.tmp 52, .tmp 55, .const (.int .i64 2)], argTypes := #[92, 3, 3] }) 9, [sq 51 (.binOp .add 9 (.const (.string { data := #[202, 254, 186, 190] })) (.tmp 50) 9) 9]),
  (sq 57 (.binOp .add 9 (.tmp 51) (.tmp 56) 9) 9, []),
  (sq 59 (.binOp .add 9 (.tmp 57) (.tmp 58) 9) 9, []),
  (sw 8 (.assign (.tmp 59)) 9, [])]
def ref3_WriteClass_r8 : List (Sop × List Sop) := [
  (sq 60 (.move (.tmp 8)) 9, []),
  (sq 61 (.move (.tmp 4)) 92, []),
  (sq 62 (.fieldAddr 43 (.tmp 1) 2) 0, []),
  (sq 63 (.load 38 (.tmp 62)) 38, []),
  (sq 64 (.convert 38 3 (.tmp 63)) 3, []),
  (sq 66 (.move (.tmp 4)) 92, []),
  (sq 67 (.fieldAddr 43 (.tmp 1) 3) 0, []),
  (sq 68 (.load 38 (.tmp 67)) 38, []),
  (sq 69 (.convert 38 3 (.tmp 68)) 3, []),
  (sq 72 (.move (.tmp 4)) 92, []),
  (sq 73 (.fieldAddr 43 (.tmp 1) 4) 0, []),
  (sq 74 (.load 38 (.tmp 73)) 38, []),
  (sq 75 (.convert 38 3 (.tmp 74)) 3, []),
  (sq 78 (.move (.tmp 4)) 92, []),
  (sq 79 (.fieldAddr 43 (.tmp 1) 6) 0, []),
  (sq 80 (.load 39 (.tmp 79)) 39, []),
  (sq 81 (.call { callee := .builtin .len, args := #[.tmp 80], argTypes := #[39] }) 3, []),
  (sc 65 (.call { callee := .value (.func 47), args := #[.tmp 61, .tmp 64, .const (.int .i64 2)], argTypes := #[92, 3, 3] }) 9, [sq 67 (.fieldAddr 43 (.tmp 1) 3) 0, sq 68 (.load 38 (.tmp 67)) 38, sq 69 (.convert 38 3 (.tmp 68)) 3, sq 73 (.fieldAddr 43 (.tmp 1) 4) 0, sq 74 (.load 38 (.tmp 73)) 38, sq 75 (.convert 38 3 (.tmp 74)) 3, sq 79 (.fieldAddr 43 (.tmp 1) 6) 0, sq 80 (.load 39 (.tmp 79)) 39, sq 81 (.call { callee := .builtin .len, args := #[.tmp 80], argTypes := #[39] }) 3]),
  (sc 70 (.call { callee := .value (.func 47), args := #[.tmp 66, .tmp 69, .const (.int .i64 2)], argTypes := #[92, 3, 3] }) 9, [sq 73 (.fieldAddr 43 (.tmp 1) 4) 0, sq 74 (.load 38 (.tmp 73)) 38, sq 75 (.convert 38 3 (.tmp 74)) 3, sq 79 (.fieldAddr 43 (.tmp 1) 6) 0, sq 80 (.load 39 (.tmp 79)) 39, sq 81 (.call { callee := .builtin .len, args := #[.tmp 80], argTypes := #[39] }) 3]),
  (sq 71 (.binOp .add 9 (.tmp 65) (.tmp 70) 9) 9, []),
  (sc 76 (.call { callee := .value (.func 47), args := #[.tmp 72, .tmp 75, .const (.int .i64 2)], argTypes := #[92, 3, 3] }) 9, [sq 79 (.fieldAddr 43 (.tmp 1) 6) 0, sq 80 (.load 39 (.tmp 79)) 39, sq 81 (.call { callee := .builtin .len, args := #[.tmp 80], argTypes := #[39] }) 3, sq 71 (.binOp .add 9 (.tmp 65) (.tmp 70) 9) 9]),
  (sq 77 (.binOp .add 9 (.tmp 71) (.tmp 76) 9) 9, []),
  (sc 82 (.call { callee := .value (.func 47), args := #[.tmp 78, .tmp 81, .const (.int .i64 2)], argTypes := #[92, 3, 3] }) 9, [sq 71 (.binOp .add 9 (.tmp 65) (.tmp 70) 9) 9, sq 77 (.binOp .add 9 (.tmp 71) (.tmp 76) 9) 9]),
  (sq 83 (.binOp .add 9 (.tmp 77) (.tmp 82) 9) 9, []),
  (sq 84 (.binOp .add 9 (.tmp 60) (.tmp 83) 9) 9, []),
  (sw 8 (.assign (.tmp 84)) 9, [])]
def ref3_WriteClass_r9 : List Sop := [
  sq 85 (.move (.tmp 8)) 9,
  sc 86 (.convert 9 69 (.tmp 85)) 69,
  sw 9 (.assign (.tmp 86)) 69]
def ref3_WriteClass_r10 : List Sop := [
  sq 87 (.fieldAddr 43 (.tmp 1) 6) 0,
  sw 88 (.load 39 (.tmp 87)) 39,
  sw 89 (.call { callee := .builtin .len, args := #[.tmp 88], argTypes := #[39] }) 3,
  sw 90 (.move (.const (.int .i64 0))) 3]
def ref3_WriteClass_r11 : List Sop := [
  sw 91 (.binOp .lss 3 (.tmp 90) (.tmp 89) 3) 0]
def ref3_WriteClass_r12 : List Sop := [
  sq 92 (.indexAddr 39 (.tmp 88) (.tmp 90)) 0,
  sq 93 (.load 38 (.tmp 92)) 38,
  sw 11 (.assign (.tmp 93)) 38]
def ref3_WriteClass_r13 : List Sop := [
  sq 94 (.move (.tmp 9)) 69,
  sq 95 (.move (.tmp 4)) 92,
  sq 96 (.move (.tmp 11)) 38,
  sq 97 (.convert 38 3 (.tmp 96)) 3,
  sc 98 (.call { callee := .value (.func 47), args := #[.tmp 95, .tmp 97, .const (.int .i64 2)], argTypes := #[92, 3, 3] }) 9,
  sc 99 (.call { callee := .builtin .append, args := #[.tmp 94, .tmp 98], argTypes := #[69, 9] }) 69,
  sw 9 (.assign (.tmp 99)) 69]
def ref3_WriteClass_r14 : List Sop := [
  sq 100 (.binOp .add 3 (.tmp 90) (.const (.int .i64 1)) 3) 3,
  sw 90 (.move (.tmp 100)) 3]
def ref3_WriteClass_r15 : List Sop := [
  sq 101 (.move (.tmp 9)) 69,
  sq 102 (.move (.tmp 4)) 92,
  sq 103 (.fieldAddr 43 (.tmp 1) 7) 0,
  sq 104 (.load 40 (.tmp 103)) 40,
  sq 105 (.call { callee := .builtin .len, args := #[.tmp 104], argTypes := #[40] }) 3,
  sc 106 (.call { callee := .value (.func 47), args := #[.tmp 102, .tmp 105, .const (.int .i64 2)], argTypes := #[92, 3, 3] }) 9,
  sc 107 (.call { callee := .builtin .append, args := #[.tmp 101, .tmp 106], argTypes := #[69, 9] }) 69,
  sw 9 (.assign (.tmp 107)) 69]
def ref3_WriteClass_r16 : List Sop := [
  sq 108 (.fieldAddr 43 (.tmp 1) 7) 0,
  sw 109 (.load 40 (.tmp 108)) 40,
  sw 110 (.call { callee := .builtin .len, args := #[.tmp 109], argTypes := #[40] }) 3,
  sw 111 (.move (.const (.int .i64 0))) 3]
def ref3_WriteClass_r17 : List Sop := [
  sw 112 (.binOp .lss 3 (.tmp 111) (.tmp 110) 3) 0]
def ref3_WriteClass_r18 : List Sop := [
  sq 113 (.indexAddr 40 (.tmp 109) (.tmp 111)) 0,
  sq 114 (.load 89 (.tmp 113)) 89,
  sa 13 (.alloc 89) 0,
  ss (.store 89 (.tmp 13) (.tmp 114))]
def ref3_WriteClass_r19 : List (Sop × List Sop) := [
  (sq 115 (.move (.tmp 9)) 69, []),
  (sq 116 (.move (.tmp 4)) 92, []),
  (sq 117 (.fieldAddr 89 (.tmp 13) 0) 0, []),
  (sq 118 (.load 38 (.tmp 117)) 38, []),
  (sq 119 (.convert 38 3 (.tmp 118)) 3, []),
  (sq 121 (.move (.tmp 4)) 92, []),
  (sq 122 (.fieldAddr 89 (.tmp 13) 1) 0, []),
  (sq 123 (.load 38 (.tmp 122)) 38, []),
  (sq 124 (.convert 38 3 (.tmp 123)) 3, []),
  (sq 127 (.move (.tmp 4)) 92, []),
  (sq 128 (.fieldAddr 89 (.tmp 13) 2) 0, []),
  (sq 129 (.load 38 (.tmp 128)) 38, []),
  (sq 130 (.convert 38 3 (.tmp 129)) 3, []),
  (sc 120 (.call { callee := .value (.func 47), args := #[.tmp 116, .tmp 119, .const (.int .i64 2)], argTypes := #[92, 3, 3] }) 9, [sq 122 (.fieldAddr 89 (.tmp 13) 1) 0, sq 123 (.load 38 (.tmp 122)) 38, sq 124 (.convert 38 3 (.tmp 123)) 3, sq 128 (.fieldAddr 89 (.tmp 13) 2) 0, sq 129 (.load 38 (.tmp 128)) 38, sq 130 (.convert 38 3 (.tmp 129)) 3]),
  (sc 125 (.call { callee := .value (.func 47), args := #[.tmp 121, .tmp 124, .const (.int .i64 2)], argTypes := #[92, 3, 3] }) 9, [sq 128 (.fieldAddr 89 (.tmp 13) 2) 0, sq 129 (.load 38 (.tmp 128)) 38, sq 130 (.convert 38 3 (.tmp 129)) 3]),
  (sq 126 (.binOp .add 9 (.tmp 120) (.tmp 125) 9) 9, []),
  (sc 131 (.call { callee := .value (.func 47), args := #[.tmp 127, .tmp 130, .const (.int .i64 2)], argTypes := #[92, 3, 3] }) 9, [sq 126 (.binOp .add 9 (.tmp 120) (.tmp 125) 9) 9]),
  (sq 132 (.binOp .add 9 (.tmp 126) (.tmp 131) 9) 9, []),
  (sc 133 (.call { callee := .builtin .append, args := #[.tmp 115, .tmp 132], argTypes := #[69, 9] }) 69, []),
  (sw 9 (.assign (.tmp 133)) 69, [])]
def ref3_WriteClass_r20 : List Sop := [
  sq 134 (.fieldAddr 89 (.tmp 13) 3) 0,
  sq 135 (.load 38 (.tmp 134)) 38,
  sw 136 (.binOp .eql 38 (.tmp 135) (.const (.int .u16 0)) 38) 4]
def ref3_WriteClass_r21 : List Sop := [
  sq 137 (.move (.tmp 9)) 69,
  sc 138 (.call { callee := .builtin .append, args := #[.tmp 137, .const (.string { data := #[0, 0] })], argTypes := #[69, 9] }) 69,
  sw 9 (.assign (.tmp 138)) 69]
def ref3_WriteClass_r22 : List Sop := [
  sq 139 (.move (.tmp 9)) 69,
  sq 140 (.move (.tmp 4)) 92,
  sq 141 (.move (.tmp 4)) 92,
  sq 142 (.fieldAddr 89 (.tmp 13) 3) 0,
  sq 143 (.load 38 (.tmp 142)) 38,
  sq 144 (.convert 38 3 (.tmp 143)) 3,
  sc 145 (.call { callee := .value (.func 47), args := #[.tmp 141, .tmp 144, .const (.int .i64 2)], argTypes := #[92, 3, 3] }) 9,
  sc 146 (.call { callee := .value (.func 48), args := #[.tmp 140, .const (.string { data := #[67, 111, 110, 115, 116, 97, 110, 116, 86, 97, 108, 117, 101] }), .tmp 145], argTypes := #[92, 9, 9] }) 9,
  sq 147 (.binOp .add 9 (.const (.string { data := #[0, 1] })) (.tmp 146) 9) 9,
  sc 148 (.call { callee := .builtin .append, args := #[.tmp 139, .tmp 147], argTypes := #[69, 9] }) 69,
  sw 9 (.assign (.tmp 148)) 69]
def ref3_WriteClass_r23 : List Sop := [
  sq 149 (.binOp .add 3 (.tmp 111) (.const (.int .i64 1)) 3) 3,
  sw 111 (.move (.tmp 149)) 3]
def ref3_WriteClass_r24 : List Sop := [
  sq 150 (.move (.tmp 9)) 69,
  sq 151 (.move (.tmp 4)) 92,
  sq 152 (.fieldAddr 43 (.tmp 1) 8) 0,
  sq 153 (.load 41 (.tmp 152)) 41,
  sq 154 (.call { callee := .builtin .len, args := #[.tmp 153], argTypes := #[41] }) 3,
  sc 155 (.call { callee := .value (.func 47), args := #[.tmp 151, .tmp 154, .const (.int .i64 2)], argTypes := #[92, 3, 3] }) 9,
  sc 156 (.call { callee := .builtin .append, args := #[.tmp 150, .tmp 155], argTypes := #[69, 9] }) 69,
  sw 9 (.assign (.tmp 156)) 69]
def ref3_WriteClass_r25 : List Sop := [
  sq 157 (.fieldAddr 43 (.tmp 1) 8) 0,
  sw 158 (.load 41 (.tmp 157)) 41,
  sw 159 (.call { callee := .builtin .len, args := #[.tmp 158], argTypes := #[41] }) 3,
  sw 160 (.move (.const (.int .i64 0))) 3]
def ref3_WriteClass_r26 : List Sop := [
  sw 161 (.binOp .lss 3 (.tmp 160) (.tmp 159) 3) 0]
def ref3_WriteClass_r27 : List Sop := [
  sq 162 (.indexAddr 41 (.tmp 158) (.tmp 160)) 0,
  sq 163 (.load 81 (.tmp 162)) 81,
  sa 15 (.alloc 81) 0,
  ss (.store 81 (.tmp 15) (.tmp 163))]
def ref3_WriteClass_r28 : List (Sop × List Sop) := [
  (sq 164 (.move (.tmp 9)) 69, []),
  (sq 165 (.move (.tmp 4)) 92, []),
  (sq 166 (.fieldAddr 81 (.tmp 15) 0) 0, []),
  (sq 167 (.load 38 (.tmp 166)) 38, []),
  (sq 168 (.convert 38 3 (.tmp 167)) 3, []),
  (sq 170 (.move (.tmp 4)) 92, []),
  (sq 171 (.fieldAddr 81 (.tmp 15) 1) 0, []),
  (sq 172 (.load 38 (.tmp 171)) 38, []),
  (sq 173 (.convert 38 3 (.tmp 172)) 3, []),
  (sq 176 (.move (.tmp 4)) 92, []),
  (sq 177 (.fieldAddr 81 (.tmp 15) 2) 0, []),
  (sq 178 (.load 38 (.tmp 177)) 38, []),
  (sq 179 (.convert 38 3 (.tmp 178)) 3, []),
  (sc 169 (.call { callee := .value (.func 47), args := #[.tmp 165, .tmp 168, .const (.int .i64 2)], argTypes := #[92, 3, 3] }) 9, [sq 171 (.fieldAddr 81 (.tmp 15) 1) 0, sq 172 (.load 38 (.tmp 171)) 38, sq 173 (.convert 38 3 (.tmp 172)) 3, sq 177 (.fieldAddr 81 (.tmp 15) 2) 0, sq 178 (.load 38 (.tmp 177)) 38, sq 179 (.convert 38 3 (.tmp 178)) 3]),
  (sc 174 (.call { callee := .value (.func 47), args := #[.tmp 170, .tmp 173, .const (.int .i64 2)], argTypes := #[92, 3, 3] }) 9, [sq 177 (.fieldAddr 81 (.tmp 15) 2) 0, sq 178 (.load 38 (.tmp 177)) 38, sq 179 (.convert 38 3 (.tmp 178)) 3]),
  (sq 175 (.binOp .add 9 (.tmp 169) (.tmp 174) 9) 9, []),
  (sc 180 (.call { callee := .value (.func 47), args := #[.tmp 176, .tmp 179, .const (.int .i64 2)], argTypes := #[92, 3, 3] }) 9, [sq 175 (.binOp .add 9 (.tmp 169) (.tmp 174) 9) 9]),
  (sq 181 (.binOp .add 9 (.tmp 175) (.tmp 180) 9) 9, []),
  (sc 182 (.call { callee := .builtin .append, args := #[.tmp 164, .tmp 181], argTypes := #[69, 9] }) 69, []),
  (sw 9 (.assign (.tmp 182)) 69, [])]
def ref3_WriteClass_r29 : List Sop := [
  sq 183 (.fieldAddr 81 (.tmp 15) 3) 0,
  sq 184 (.load 4 (.tmp 183)) 4,
  sw 185 (.unOp .not 4 (.tmp 184)) 4]
def ref3_WriteClass_r30 : List Sop := [
  sq 186 (.move (.tmp 9)) 69,
  sc 187 (.call { callee := .builtin .append, args := #[.tmp 186, .const (.string { data := #[0, 0] })], argTypes := #[69, 9] }) 69,
  sw 9 (.assign (.tmp 187)) 69]
def ref3_WriteClass_r31 : List Sop := [
  sq 188 (.move (.tmp 9)) 69,
  sq 189 (.move (.tmp 4)) 92,
  sq 190 (.fieldAddr 81 (.tmp 15) 4) 0,
  sq 191 (.load 79 (.tmp 190)) 79,
  sc 192 (.call { callee := .value (.func 49), args := #[.tmp 189, .tmp 191], argTypes := #[92, 79] }) 9,
  sq 193 (.binOp .add 9 (.const (.string { data := #[0, 1] })) (.tmp 192) 9) 9,
  sc 194 (.call { callee := .builtin .append, args := #[.tmp 188, .tmp 193], argTypes := #[69, 9] }) 69,
  sw 9 (.assign (.tmp 194)) 69]
def ref3_WriteClass_r32 : List Sop := [
  sq 195 (.binOp .add 3 (.tmp 160) (.const (.int .i64 1)) 3) 3,
  sw 160 (.move (.tmp 195)) 3]
def ref3_WriteClass_r33 : List Sop := [
  sq 196 (.move (.tmp 9)) 69,
  sc 197 (.call { callee := .builtin .append, args := #[.tmp 196, .const (.string { data := #[0, 0] })], argTypes := #[69, 9] }) 69,
  sw 9 (.assign (.tmp 197)) 69]
def ref3_WriteClass_r34 : List Sop := [
  sq 198 (.move (.tmp 4)) 92,
  sq 199 (.nilCheck (.tmp 198)) 0,
  sq 200 (.fieldAddr 94 (.tmp 199) 1) 0,
  sq 201 (.load 27 (.tmp 200)) 27,
  sw 202 (.binOp .neq 27 (.tmp 201) (.const (.int .i64 0)) 27) 4]
def ref3_WriteClass_r35 : List (Sop × List Sop) := [
  (sq 203 (.move (.tmp 4)) 92, []),
  (sq 204 (.nilCheck (.tmp 203)) 0, []),
  (sq 205 (.fieldAddr 94 (.tmp 204) 1) 0, []),
  (sq 206 (.load 27 (.tmp 205)) 27, []),
  (sw 2 (.assign (.const (.string { data := #[] }))) 9, []),
  (sw 3 (.assign (.tmp 206)) 27, [])]
def ref3_WriteClass_r36 : List Sop := [
  sq 207 (.move (.tmp 9)) 69,
  sq 208 (.convert 69 9 (.tmp 207)) 9,
  sw 2 (.assign (.tmp 208)) 9,
  sw 3 (.assign (.const (.int .i64 0))) 27]
def ref3_WriteClass_l0 : Cd := .seq (.region ref3_WriteClass_r11) (.seq (.cond (.tmp 91) (.skip) (.exit 0)) (.seq (.block 1 (.seq (.region ref3_WriteClass_r12) (.region ref3_WriteClass_r13))) (.region ref3_WriteClass_r14)))
def ref3_WriteClass_l1 : Cd := .seq (.region ref3_WriteClass_r17) (.seq (.cond (.tmp 112) (.skip) (.exit 2)) (.seq (.block 3 (.seq (.region ref3_WriteClass_r18) (.seq (.draw ref3_WriteClass_r19) (.seq (.region ref3_WriteClass_r20) (.cond (.tmp 136) (.region ref3_WriteClass_r21) (.region ref3_WriteClass_r22)))))) (.region ref3_WriteClass_r23)))
def ref3_WriteClass_l2 : Cd := .seq (.region ref3_WriteClass_r26) (.seq (.cond (.tmp 161) (.skip) (.exit 4)) (.seq (.block 5 (.seq (.region ref3_WriteClass_r27) (.seq (.draw ref3_WriteClass_r28) (.seq (.region ref3_WriteClass_r29) (.cond (.tmp 185) (.region ref3_WriteClass_r30) (.region ref3_WriteClass_r31)))))) (.region ref3_WriteClass_r32)))
def ref3_WriteClass_t0 : Cd := .seq (.draw ref3_WriteClass_r7) (.seq (.draw ref3_WriteClass_r8) (.seq (.region ref3_WriteClass_r9) (.seq (.seq (.region ref3_WriteClass_r10) (.block 0 (.loop ref3_WriteClass_l0))) (.seq (.region ref3_WriteClass_r15) (.seq (.seq (.region ref3_WriteClass_r16) (.block 2 (.loop ref3_WriteClass_l1))) (.seq (.region ref3_WriteClass_r24) (.seq (.seq (.region ref3_WriteClass_r25) (.block 4 (.loop ref3_WriteClass_l2))) (.seq (.region ref3_WriteClass_r33) (.seq (.seq (.region ref3_WriteClass_r34) (.cond (.tmp 202) (.seq (.draw ref3_WriteClass_r35) (.ret)) (.skip))) (.seq (.region ref3_WriteClass_r36) (.ret)))))))))))
def ref3_WriteClass_t0_go := @goVc Try.prog _ _ ref3_WriteClass_t0.eq_1
def ref3_WriteClass_t1 : Cd := .seq (.region ref3_WriteClass_r4) (.seq (.seq (.region ref3_WriteClass_r5) (.cond (.tmp 42) (.region ref3_WriteClass_r6) (.skip))) (ref3_WriteClass_t0))
def ref3_WriteClass_t1_go := @goVc Try.prog _ _ ref3_WriteClass_t1.eq_1
def ref3_WriteClass : Cd := .seq (.region ref3_WriteClass_r0) (.seq (.region ref3_WriteClass_r1) (.seq (.seq (.region ref3_WriteClass_r2) (.cond (.tmp 31) (.region ref3_WriteClass_r3) (.skip))) (ref3_WriteClass_t1)))
theorem ref3_WriteClass_calls {args : List Value} {h : Heap} {R : Value → Heap → Prop} (hl : args.length = 1) (hv : Cd.vc Try.prog ref3_WriteClass (retQ Try.prog [(2, none), (3, none)] R) (initEnv args [0, 1, 2, 3, 4, 5, 6, 8, 9, 11, 13, 15, 31, 42, 88, 89, 90, 91, 109, 110, 111, 112, 136, 158, 159, 160, 161, 185, 202]) h) : HCalls Try.prog 17 args.toArray h R :=
  hcalls_of_vc (by kernel_rfl) Try.func17 (cd := ref3_WriteClass) (L := [0, 1, 2, 3, 4, 5, 6, 8, 9, 11, 13, 15, 31, 42, 88, 89, 90, 91, 109, 110, 111, 112, 136, 158, 159, 160, 161, 185, 202]) (by kernel_rfl) (by kernel_rfl) ⟨by rw [hl, Try.ntmps17]; decide, by rw [Try.ntmps17]; decide⟩ hv
def ref3_WriteClass_gos := And.intro (@goVc Try.prog _ _ ref3_WriteClass.eq_1) (And.intro (@goOps Try.prog _ _ ref3_WriteClass_r0.eq_1) (And.intro (@goOps Try.prog _ _ ref3_WriteClass_r1.eq_1) (And.intro (@goOps Try.prog _ _ ref3_WriteClass_r2.eq_1) (And.intro (@goOps Try.prog _ _ ref3_WriteClass_r3.eq_1) (And.intro (@goOps Try.prog _ _ ref3_WriteClass_r4.eq_1) (And.intro (@goOps Try.prog _ _ ref3_WriteClass_r5.eq_1) (And.intro (@goOps Try.prog _ _ ref3_WriteClass_r6.eq_1) (And.intro (@goDraw Try.prog _ _ ref3_WriteClass_r7.eq_1) (And.intro (@goDraw Try.prog _ _ ref3_WriteClass_r8.eq_1) (And.intro (@goOps Try.prog _ _ ref3_WriteClass_r9.eq_1) (And.intro (@goOps Try.prog _ _ ref3_WriteClass_r10.eq_1) (And.intro (@goOps Try.prog _ _ ref3_WriteClass_r11.eq_1) (And.intro (@goOps Try.prog _ _ ref3_WriteClass_r12.eq_1) (And.intro (@goOps Try.prog _ _ ref3_WriteClass_r13.eq_1) (And.intro (@goOps Try.prog _ _ ref3_WriteClass_r14.eq_1) (And.intro (@goOps Try.prog _ _ ref3_WriteClass_r15.eq_1) (And.intro (@goOps Try.prog _ _ ref3_WriteClass_r16.eq_1) (And.intro (@goOps Try.prog _ _ ref3_WriteClass_r17.eq_1) (And.intro (@goOps Try.prog _ _ ref3_WriteClass_r18.eq_1) (And.intro (@goDraw Try.prog _ _ ref3_WriteClass_r19.eq_1) (And.intro (@goOps Try.prog _ _ ref3_WriteClass_r20.eq_1) (And.intro (@goOps Try.prog _ _ ref3_WriteClass_r21.eq_1) (And.intro (@goOps Try.prog _ _ ref3_WriteClass_r22.eq_1) (And.intro (@goOps Try.prog _ _ ref3_WriteClass_r23.eq_1) (And.intro (@goOps Try.prog _ _ ref3_WriteClass_r24.eq_1) (And.intro (@goOps Try.prog _ _ ref3_WriteClass_r25.eq_1) (And.intro (@goOps Try.prog _ _ ref3_WriteClass_r26.eq_1) (And.intro (@goOps Try.prog _ _ ref3_WriteClass_r27.eq_1) (And.intro (@goDraw Try.prog _ _ ref3_WriteClass_r28.eq_1) (And.intro (@goOps Try.prog _ _ ref3_WriteClass_r29.eq_1) (And.intro (@goOps Try.prog _ _ ref3_WriteClass_r30.eq_1) (And.intro (@goOps Try.prog _ _ ref3_WriteClass_r31.eq_1) (And.intro (@goOps Try.prog _ _ ref3_WriteClass_r32.eq_1) (And.intro (@goOps Try.prog _ _ ref3_WriteClass_r33.eq_1) (And.intro (@goOps Try.prog _ _ ref3_WriteClass_r34.eq_1) (And.intro (@goDraw Try.prog _ _ ref3_WriteClass_r35.eq_1) (And.intro (@goOps Try.prog _ _ ref3_WriteClass_r36.eq_1) (And.intro (@goVc Try.prog _ _ ref3_WriteClass_l0.eq_1) (And.intro (@goVc Try.prog _ _ ref3_WriteClass_l1.eq_1) (@goVc Try.prog _ _ ref3_WriteClass_l2.eq_1))))))))))))))))))))))))))))))))))))))))

end Go.Proofs.Ytohkbpnblkkdgaa.C
