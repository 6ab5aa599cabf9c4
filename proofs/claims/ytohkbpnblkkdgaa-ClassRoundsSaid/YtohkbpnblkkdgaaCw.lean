/- The stripped code of some functions of this seat's program, printed by a program; that it is that code is proved by the kernel. No condition. -/

import Derived.Test.YtohkbpnblkkdgaaProg

import Derived.Test.YtohkbpnblkkdgaaVcJ

set_option maxRecDepth 100000

set_option linter.defProp false

namespace Go.Proofs.Ytohkbpnblkkdgaa.C

open Go.Vc

/-! jvmcore/pool.Write: function 40: slots [0, 2, 3, 4, 5, 6, 7, 8, 10, 18, 24, 25, 26, 27, 35, 46, 48, 50, 59, 64, 82, 88, 100, 113, 127, 149] -/
def pool_Write_r0 : List Sop := [
  sw 2 (.assign (.const (.string { data := #[] }))) 9,
  sw 3 (.assign (.const (.int .i64 0))) 27,
  sw 4 (.assign (.const (.int .i64 0))) 3]
def pool_Write_r1 : List Sop := [
  sq 11 (.move (.tmp 0)) 22,
  sq 12 (.call { callee := .builtin .len, args := #[.tmp 11], argTypes := #[22] }) 3,
  sq 13 (.binOp .eql 3 (.tmp 12) (.const (.int .i64 0)) 3) 4,
  sq 14 (.move (.tmp 13)) 4,
  ⟨some (15, false), .move (.tmp 0), 22, some (14, false), true⟩,
  ⟨some (16, false), .call { callee := .builtin .len, args := #[.tmp 15], argTypes := #[22] }, 3, some (14, false), true⟩,
  ⟨some (17, false), .binOp .gtr 3 (.tmp 16) (.const (.int .i64 65535)) 3, 4, some (14, false), true⟩,
  sw 18 (.pick (.tmp 14) (.const (.bool true)) (.tmp 17)) 4]
def pool_Write_r2 : List Sop := [
  sw 2 (.assign (.const (.string { data := #[] }))) 9,
  sw 3 (.assign (.const (.int .i64 12))) 27,
  sw 4 (.assign (.const (.int .i64 0))) 3]
def pool_Write_r3 : List Sop := [
  sq 19 (.move (.tmp 0)) 22,
  sq 20 (.call { callee := .builtin .len, args := #[.tmp 19], argTypes := #[22] }) 3,
  sq 21 (.convert 3 74 (.tmp 20)) 74,
  sc 22 (.call { callee := .value (.func 70), args := #[.tmp 21, .const (.int .i64 2)], argTypes := #[74, 3] }) 9,
  sc 23 (.convert 9 69 (.tmp 22)) 69,
  sw 5 (.assign (.tmp 23)) 69]
def pool_Write_r4 : List Sop := [
  sw 6 (.assign (.const (.bool true))) 4]
def pool_Write_r5 : List Sop := [
  sw 24 (.move (.tmp 0)) 22,
  sw 25 (.call { callee := .builtin .len, args := #[.tmp 24], argTypes := #[22] }) 3,
  sw 26 (.move (.const (.int .i64 0))) 3]
def pool_Write_r6 : List Sop := [
  sw 27 (.binOp .lss 3 (.tmp 26) (.tmp 25) 3) 0]
def pool_Write_r7 : List Sop := [
  sq 28 (.move (.tmp 26)) 3,
  sq 29 (.indexAddr 22 (.tmp 24) (.tmp 26)) 0,
  sq 30 (.load 76 (.tmp 29)) 76,
  sa 8 (.alloc 76) 0,
  sw 7 (.assign (.tmp 28)) 3,
  ss (.store 76 (.tmp 8) (.tmp 30))]
def pool_Write_r8 : List Sop := [
  sq 31 (.fieldAddr 76 (.tmp 8) 0) 0,
  sq 32 (.load 5 (.tmp 31)) 5,
  sq 33 (.binOp .eql 5 (.tmp 32) (.const (.int .u8 0)) 5) 4,
  sq 34 (.move (.tmp 6)) 4,
  sw 35 (.binOp .neq 4 (.tmp 33) (.tmp 34) 4) 4]
def pool_Write_r9 : List Sop := [
  sq 36 (.move (.tmp 7)) 3,
  sw 2 (.assign (.const (.string { data := #[] }))) 9,
  sw 3 (.assign (.const (.int .i64 5))) 27,
  sw 4 (.assign (.tmp 36)) 3]
def pool_Write_r10 : List Sop := [
  sq 37 (.fieldAddr 76 (.tmp 8) 0) 0,
  sq 38 (.load 5 (.tmp 37)) 5,
  sq 39 (.binOp .eql 5 (.tmp 38) (.const (.int .u8 5)) 5) 4,
  sq 40 (.move (.tmp 39)) 4,
  ⟨some (41, false), .fieldAddr 76 (.tmp 8) 0, 0, some (40, false), true⟩,
  ⟨some (42, false), .load 5 (.tmp 41), 5, some (40, false), true⟩,
  ⟨some (43, false), .binOp .eql 5 (.tmp 42) (.const (.int .u8 6)) 5, 4, some (40, false), true⟩,
  sq 44 (.pick (.tmp 40) (.const (.bool true)) (.tmp 43)) 4,
  sw 6 (.assign (.tmp 44)) 4]
def pool_Write_r11 : List Sop := [
  sq 45 (.fieldAddr 76 (.tmp 8) 0) 0,
  sw 46 (.load 5 (.tmp 45)) 5]
def pool_Write_r12 : List Sop := [
  sq 49 (.binOp .eql 5 (.tmp 46) (.const (.int .u8 0)) 5) 4,
  sw 48 (.assign (.tmp 49)) 4]
def pool_Write_r13 : List Sop := [
  sq 51 (.binOp .eql 5 (.tmp 46) (.const (.int .u8 1)) 5) 4,
  sw 50 (.assign (.tmp 51)) 4]
def pool_Write_r14 : List Sop := [
  sq 53 (.fieldAddr 76 (.tmp 8) 1) 0,
  sq 54 (.load 9 (.tmp 53)) 9,
  sc 55 (.call { callee := .value (.func 73), args := #[.tmp 54], argTypes := #[9] }) 129,
  sq 52 (.move (.tmp 55)) 129,
  sq 56 (.extract (.tmp 52) 0) 39,
  sq 57 (.extract (.tmp 52) 1) 4,
  sq 9 (.assign (.tmp 56)) 39,
  sw 10 (.assign (.tmp 57)) 4]
def pool_Write_r15 : List Sop := [
  sq 58 (.move (.tmp 10)) 4,
  sw 59 (.unOp .not 4 (.tmp 58)) 4]
def pool_Write_r16 : List Sop := [
  sq 60 (.move (.tmp 7)) 3,
  sw 2 (.assign (.const (.string { data := #[] }))) 9,
  sw 3 (.assign (.const (.int .i64 6))) 27,
  sw 4 (.assign (.tmp 60)) 3]
def pool_Write_r17 : List Sop := [
  sq 61 (.fieldAddr 76 (.tmp 8) 1) 0,
  sq 62 (.load 9 (.tmp 61)) 9,
  sq 63 (.call { callee := .builtin .len, args := #[.tmp 62], argTypes := #[9] }) 3,
  sw 64 (.binOp .gtr 3 (.tmp 63) (.const (.int .i64 65535)) 3) 4]
def pool_Write_r18 : List Sop := [
  sq 65 (.move (.tmp 7)) 3,
  sw 2 (.assign (.const (.string { data := #[] }))) 9,
  sw 3 (.assign (.const (.int .i64 12))) 27,
  sw 4 (.assign (.tmp 65)) 3]
def pool_Write_r19 : List Sop := [
  sq 66 (.move (.tmp 5)) 69,
  sq 67 (.fieldAddr 76 (.tmp 8) 0) 0,
  sq 68 (.load 5 (.tmp 67)) 5,
  sc 69 (.buildSlice 69 1 #[(0, .tmp 68)]) 69,
  sc 70 (.call { callee := .builtin .append, args := #[.tmp 66, .tmp 69], argTypes := #[69, 69] }) 69,
  sw 5 (.assign (.tmp 70)) 69]
def pool_Write_r20 : List Sop := [
  sq 71 (.move (.tmp 5)) 69,
  sq 72 (.fieldAddr 76 (.tmp 8) 1) 0,
  sq 73 (.load 9 (.tmp 72)) 9,
  sq 74 (.call { callee := .builtin .len, args := #[.tmp 73], argTypes := #[9] }) 3,
  sq 75 (.convert 3 74 (.tmp 74)) 74,
  sc 76 (.call { callee := .value (.func 70), args := #[.tmp 75, .const (.int .i64 2)], argTypes := #[74, 3] }) 9,
  sc 77 (.call { callee := .builtin .append, args := #[.tmp 71, .tmp 76], argTypes := #[69, 9] }) 69,
  sw 5 (.assign (.tmp 77)) 69]
def pool_Write_r21 : List Sop := [
  sq 78 (.move (.tmp 5)) 69,
  sq 79 (.fieldAddr 76 (.tmp 8) 1) 0,
  sq 80 (.load 9 (.tmp 79)) 9,
  sc 81 (.call { callee := .builtin .append, args := #[.tmp 78, .tmp 80], argTypes := #[69, 9] }) 69,
  sw 5 (.assign (.tmp 81)) 69]
def pool_Write_r22 : List Sop := [
  sq 83 (.binOp .eql 5 (.tmp 46) (.const (.int .u8 3)) 5) 4,
  sw 82 (.assign (.tmp 83)) 4]
def pool_Write_r23 : List Sop := [
  sq 84 (.binOp .eql 5 (.tmp 46) (.const (.int .u8 4)) 5) 4,
  sw 82 (.assign (.tmp 84)) 4]
def pool_Write_r24 : List Sop := [
  sq 85 (.fieldAddr 76 (.tmp 8) 2) 0,
  sq 86 (.load 74 (.tmp 85)) 74,
  sq 87 (.binOp .shr 74 (.tmp 86) (.const (.int .u64 32)) 121) 74,
  sw 88 (.binOp .neq 74 (.tmp 87) (.const (.int .u64 0)) 74) 4]
def pool_Write_r25 : List Sop := [
  sq 89 (.move (.tmp 7)) 3,
  sw 2 (.assign (.const (.string { data := #[] }))) 9,
  sw 3 (.assign (.const (.int .i64 12))) 27,
  sw 4 (.assign (.tmp 89)) 3]
def pool_Write_r26 : List Sop := [
  sq 90 (.move (.tmp 5)) 69,
  sq 91 (.fieldAddr 76 (.tmp 8) 0) 0,
  sq 92 (.load 5 (.tmp 91)) 5,
  sc 93 (.buildSlice 69 1 #[(0, .tmp 92)]) 69,
  sc 94 (.call { callee := .builtin .append, args := #[.tmp 90, .tmp 93], argTypes := #[69, 69] }) 69,
  sw 5 (.assign (.tmp 94)) 69]
def pool_Write_r27 : List Sop := [
  sq 95 (.move (.tmp 5)) 69,
  sq 96 (.fieldAddr 76 (.tmp 8) 2) 0,
  sq 97 (.load 74 (.tmp 96)) 74,
  sc 98 (.call { callee := .value (.func 70), args := #[.tmp 97, .const (.int .i64 4)], argTypes := #[74, 3] }) 9,
  sc 99 (.call { callee := .builtin .append, args := #[.tmp 95, .tmp 98], argTypes := #[69, 9] }) 69,
  sw 5 (.assign (.tmp 99)) 69]
def pool_Write_r28 : List Sop := [
  sq 101 (.binOp .eql 5 (.tmp 46) (.const (.int .u8 5)) 5) 4,
  sw 100 (.assign (.tmp 101)) 4]
def pool_Write_r29 : List Sop := [
  sq 102 (.binOp .eql 5 (.tmp 46) (.const (.int .u8 6)) 5) 4,
  sw 100 (.assign (.tmp 102)) 4]
def pool_Write_r30 : List Sop := [
  sq 103 (.move (.tmp 5)) 69,
  sq 104 (.fieldAddr 76 (.tmp 8) 0) 0,
  sq 105 (.load 5 (.tmp 104)) 5,
  sc 106 (.buildSlice 69 1 #[(0, .tmp 105)]) 69,
  sc 107 (.call { callee := .builtin .append, args := #[.tmp 103, .tmp 106], argTypes := #[69, 69] }) 69,
  sw 5 (.assign (.tmp 107)) 69]
def pool_Write_r31 : List Sop := [
  sq 108 (.move (.tmp 5)) 69,
  sq 109 (.fieldAddr 76 (.tmp 8) 2) 0,
  sq 110 (.load 74 (.tmp 109)) 74,
  sc 111 (.call { callee := .value (.func 70), args := #[.tmp 110, .const (.int .i64 8)], argTypes := #[74, 3] }) 9,
  sc 112 (.call { callee := .builtin .append, args := #[.tmp 108, .tmp 111], argTypes := #[69, 9] }) 69,
  sw 5 (.assign (.tmp 112)) 69]
def pool_Write_r32 : List Sop := [
  sq 114 (.binOp .eql 5 (.tmp 46) (.const (.int .u8 7)) 5) 4,
  sw 113 (.assign (.tmp 114)) 4]
def pool_Write_r33 : List Sop := [
  sq 115 (.binOp .eql 5 (.tmp 46) (.const (.int .u8 8)) 5) 4,
  sw 113 (.assign (.tmp 115)) 4]
def pool_Write_r34 : List Sop := [
  sq 116 (.move (.tmp 5)) 69,
  sq 117 (.fieldAddr 76 (.tmp 8) 0) 0,
  sq 118 (.load 5 (.tmp 117)) 5,
  sc 119 (.buildSlice 69 1 #[(0, .tmp 118)]) 69,
  sc 120 (.call { callee := .builtin .append, args := #[.tmp 116, .tmp 119], argTypes := #[69, 69] }) 69,
  sw 5 (.assign (.tmp 120)) 69]
def pool_Write_r35 : List Sop := [
  sq 121 (.move (.tmp 5)) 69,
  sq 122 (.fieldAddr 76 (.tmp 8) 3) 0,
  sq 123 (.load 38 (.tmp 122)) 38,
  sq 124 (.convert 38 74 (.tmp 123)) 74,
  sc 125 (.call { callee := .value (.func 70), args := #[.tmp 124, .const (.int .i64 2)], argTypes := #[74, 3] }) 9,
  sc 126 (.call { callee := .builtin .append, args := #[.tmp 121, .tmp 125], argTypes := #[69, 9] }) 69,
  sw 5 (.assign (.tmp 126)) 69]
def pool_Write_r36 : List Sop := [
  sq 128 (.binOp .eql 5 (.tmp 46) (.const (.int .u8 9)) 5) 4,
  sw 127 (.assign (.tmp 128)) 4]
def pool_Write_r37 : List Sop := [
  sq 129 (.binOp .eql 5 (.tmp 46) (.const (.int .u8 10)) 5) 4,
  sw 127 (.assign (.tmp 129)) 4]
def pool_Write_r38 : List Sop := [
  sq 130 (.binOp .eql 5 (.tmp 46) (.const (.int .u8 11)) 5) 4,
  sw 127 (.assign (.tmp 130)) 4]
def pool_Write_r39 : List Sop := [
  sq 131 (.binOp .eql 5 (.tmp 46) (.const (.int .u8 12)) 5) 4,
  sw 127 (.assign (.tmp 131)) 4]
def pool_Write_r40 : List Sop := [
  sq 132 (.move (.tmp 5)) 69,
  sq 133 (.fieldAddr 76 (.tmp 8) 0) 0,
  sq 134 (.load 5 (.tmp 133)) 5,
  sc 135 (.buildSlice 69 1 #[(0, .tmp 134)]) 69,
  sc 136 (.call { callee := .builtin .append, args := #[.tmp 132, .tmp 135], argTypes := #[69, 69] }) 69,
  sw 5 (.assign (.tmp 136)) 69]
def pool_Write_r41 : List Sop := [
  sq 137 (.move (.tmp 5)) 69,
  sq 138 (.fieldAddr 76 (.tmp 8) 3) 0,
  sq 139 (.load 38 (.tmp 138)) 38,
  sq 140 (.convert 38 74 (.tmp 139)) 74,
  sq 141 (.binOp .shl 74 (.tmp 140) (.const (.int .u64 16)) 121) 74,
  sq 142 (.fieldAddr 76 (.tmp 8) 4) 0,
  sq 143 (.load 38 (.tmp 142)) 38,
  sq 144 (.convert 38 74 (.tmp 143)) 74,
  sq 145 (.binOp .or 74 (.tmp 141) (.tmp 144) 74) 74,
  sc 146 (.call { callee := .value (.func 70), args := #[.tmp 145, .const (.int .i64 4)], argTypes := #[74, 3] }) 9,
  sc 147 (.call { callee := .builtin .append, args := #[.tmp 137, .tmp 146], argTypes := #[69, 9] }) 69,
  sw 5 (.assign (.tmp 147)) 69]
def pool_Write_r42 : List Sop := [
  sq 47 (.move (.tmp 7)) 3,
  sw 2 (.assign (.const (.string { data := #[] }))) 9,
  sw 3 (.assign (.const (.int .i64 5))) 27,
  sw 4 (.assign (.tmp 47)) 3]
def pool_Write_r43 : List Sop := [
  sq 148 (.binOp .add 3 (.tmp 26) (.const (.int .i64 1)) 3) 3,
  sw 26 (.move (.tmp 148)) 3]
def pool_Write_r44 : List Sop := [
  sw 149 (.move (.tmp 6)) 4]
def pool_Write_r45 : List Sop := [
  sq 150 (.move (.tmp 0)) 22,
  sq 151 (.call { callee := .builtin .len, args := #[.tmp 150], argTypes := #[22] }) 3,
  sw 2 (.assign (.const (.string { data := #[] }))) 9,
  sw 3 (.assign (.const (.int .i64 5))) 27,
  sw 4 (.assign (.tmp 151)) 3]
def pool_Write_r46 : List Sop := [
  sq 152 (.move (.tmp 5)) 69,
  sq 153 (.convert 69 9 (.tmp 152)) 9,
  sw 2 (.assign (.tmp 153)) 9,
  sw 3 (.assign (.const (.int .i64 0))) 27,
  sw 4 (.assign (.const (.int .i64 0))) 3]
def pool_Write_l0 : Cd := .seq (.region pool_Write_r6) (.seq (.cond (.tmp 27) (.skip) (.exit 0)) (.seq (.block 1 (.seq (.region pool_Write_r7) (.seq (.seq (.region pool_Write_r8) (.cond (.tmp 35) (.seq (.region pool_Write_r9) (.ret)) (.skip))) (.seq (.region pool_Write_r10) (.seq (.region pool_Write_r11) (.block 2 (.seq (.region pool_Write_r12) (.cond (.tmp 48) (.exit 1) (.seq (.region pool_Write_r13) (.cond (.tmp 50) (.seq (.seq (.region pool_Write_r14) (.seq (.region pool_Write_r15) (.cond (.tmp 59) (.seq (.region pool_Write_r16) (.ret)) (.skip)))) (.seq (.seq (.region pool_Write_r17) (.cond (.tmp 64) (.seq (.region pool_Write_r18) (.ret)) (.skip))) (.seq (.region pool_Write_r19) (.seq (.region pool_Write_r20) (.region pool_Write_r21))))) (.seq (.seq (.region pool_Write_r22) (.cond (.tmp 82) (.skip) (.region pool_Write_r23))) (.cond (.tmp 82) (.seq (.seq (.region pool_Write_r24) (.cond (.tmp 88) (.seq (.region pool_Write_r25) (.ret)) (.skip))) (.seq (.region pool_Write_r26) (.region pool_Write_r27))) (.seq (.seq (.region pool_Write_r28) (.cond (.tmp 100) (.skip) (.region pool_Write_r29))) (.cond (.tmp 100) (.seq (.region pool_Write_r30) (.region pool_Write_r31)) (.seq (.seq (.region pool_Write_r32) (.cond (.tmp 113) (.skip) (.region pool_Write_r33))) (.cond (.tmp 113) (.seq (.region pool_Write_r34) (.region pool_Write_r35)) (.seq (.seq (.region pool_Write_r36) (.cond (.tmp 127) (.skip) (.seq (.region pool_Write_r37) (.cond (.tmp 127) (.skip) (.seq (.region pool_Write_r38) (.cond (.tmp 127) (.skip) (.region pool_Write_r39))))))) (.cond (.tmp 127) (.seq (.region pool_Write_r40) (.region pool_Write_r41)) (.seq (.region pool_Write_r42) (.ret)))))))))))))))))))) (.region pool_Write_r43)))
def pool_Write : Cd := .seq (.region pool_Write_r0) (.seq (.seq (.region pool_Write_r1) (.cond (.tmp 18) (.seq (.region pool_Write_r2) (.ret)) (.skip))) (.seq (.region pool_Write_r3) (.seq (.region pool_Write_r4) (.seq (.seq (.region pool_Write_r5) (.block 0 (.loop pool_Write_l0))) (.seq (.seq (.region pool_Write_r44) (.cond (.tmp 149) (.seq (.region pool_Write_r45) (.ret)) (.skip))) (.seq (.region pool_Write_r46) (.ret)))))))
theorem pool_Write_calls {args : List Value} {h : Heap} {R : Value → Heap → Prop} (hl : args.length = 1) (hv : Cd.vc Try.prog pool_Write (retQ Try.prog [(2, none), (3, none), (4, none)] R) (initEnv args [0, 2, 3, 4, 5, 6, 7, 8, 10, 18, 24, 25, 26, 27, 35, 46, 48, 50, 59, 64, 82, 88, 100, 113, 127, 149]) h) : HCalls Try.prog 40 args.toArray h R :=
  hcalls_of_vc (by kernel_rfl) Try.func40 (cd := pool_Write) (L := [0, 2, 3, 4, 5, 6, 7, 8, 10, 18, 24, 25, 26, 27, 35, 46, 48, 50, 59, 64, 82, 88, 100, 113, 127, 149]) (by kernel_rfl) (by kernel_rfl) ⟨by rw [hl, Try.ntmps40]; decide, by rw [Try.ntmps40]; decide⟩ hv
def pool_Write_gos := And.intro (@goVc Try.prog _ _ pool_Write.eq_1) (And.intro (@goOps Try.prog _ _ pool_Write_r0.eq_1) (And.intro (@goOps Try.prog _ _ pool_Write_r1.eq_1) (And.intro (@goOps Try.prog _ _ pool_Write_r2.eq_1) (And.intro (@goOps Try.prog _ _ pool_Write_r3.eq_1) (And.intro (@goOps Try.prog _ _ pool_Write_r4.eq_1) (And.intro (@goOps Try.prog _ _ pool_Write_r5.eq_1) (And.intro (@goOps Try.prog _ _ pool_Write_r6.eq_1) (And.intro (@goOps Try.prog _ _ pool_Write_r7.eq_1) (And.intro (@goOps Try.prog _ _ pool_Write_r8.eq_1) (And.intro (@goOps Try.prog _ _ pool_Write_r9.eq_1) (And.intro (@goOps Try.prog _ _ pool_Write_r10.eq_1) (And.intro (@goOps Try.prog _ _ pool_Write_r11.eq_1) (And.intro (@goOps Try.prog _ _ pool_Write_r12.eq_1) (And.intro (@goOps Try.prog _ _ pool_Write_r13.eq_1) (And.intro (@goOps Try.prog _ _ pool_Write_r14.eq_1) (And.intro (@goOps Try.prog _ _ pool_Write_r15.eq_1) (And.intro (@goOps Try.prog _ _ pool_Write_r16.eq_1) (And.intro (@goOps Try.prog _ _ pool_Write_r17.eq_1) (And.intro (@goOps Try.prog _ _ pool_Write_r18.eq_1) (And.intro (@goOps Try.prog _ _ pool_Write_r19.eq_1) (And.intro (@goOps Try.prog _ _ pool_Write_r20.eq_1) (And.intro (@goOps Try.prog _ _ pool_Write_r21.eq_1) (And.intro (@goOps Try.prog _ _ pool_Write_r22.eq_1) (And.intro (@goOps Try.prog _ _ pool_Write_r23.eq_1) (And.intro (@goOps Try.prog _ _ pool_Write_r24.eq_1) (And.intro (@goOps Try.prog _ _ pool_Write_r25.eq_1) (And.intro (@goOps Try.prog _ _ pool_Write_r26.eq_1) (And.intro (@goOps Try.prog _ _ pool_Write_r27.eq_1) (And.intro (@goOps Try.prog _ _ pool_Write_r28.eq_1) (And.intro (@goOps Try.prog _ _ pool_Write_r29.eq_1) (And.intro (@goOps Try.prog _ _ pool_Write_r30.eq_1) (And.intro (@goOps Try.prog _ _ pool_Write_r31.eq_1) (And.intro (@goOps Try.prog _ _ pool_Write_r32.eq_1) (And.intro (@goOps Try.prog _ _ pool_Write_r33.eq_1) (And.intro (@goOps Try.prog _ _ pool_Write_r34.eq_1) (And.intro (@goOps Try.prog _ _ pool_Write_r35.eq_1) (And.intro (@goOps Try.prog _ _ pool_Write_r36.eq_1) (And.intro (@goOps Try.prog _ _ pool_Write_r37.eq_1) (And.intro (@goOps Try.prog _ _ pool_Write_r38.eq_1) (And.intro (@goOps Try.prog _ _ pool_Write_r39.eq_1) (And.intro (@goOps Try.prog _ _ pool_Write_r40.eq_1) (And.intro (@goOps Try.prog _ _ pool_Write_r41.eq_1) (And.intro (@goOps Try.prog _ _ pool_Write_r42.eq_1) (And.intro (@goOps Try.prog _ _ pool_Write_r43.eq_1) (And.intro (@goOps Try.prog _ _ pool_Write_r44.eq_1) (And.intro (@goOps Try.prog _ _ pool_Write_r45.eq_1) (And.intro (@goOps Try.prog _ _ pool_Write_r46.eq_1) (@goVc Try.prog _ _ pool_Write_l0.eq_1))))))))))))))))))))))))))))))))))))))))))))))))

end Go.Proofs.Ytohkbpnblkkdgaa.C
