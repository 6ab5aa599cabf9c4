/- The stripped code of some functions of this seat's program, printed by a program; that it is that code is proved by the kernel. No condition. -/

import Derived.Test.YtohkbpnblkkdgaaProg

import Derived.Test.YtohkbpnblkkdgaaVcJ

set_option maxRecDepth 100000

set_option linter.defProp false

namespace Go.Proofs.Ytohkbpnblkkdgaa.C

open Go.Vc

/-! jvmcore/jvmcoreref1.Write: function 46: slots [0, 2, 3, 4, 5, 6, 7, 8, 9, 10, 12, 13, 21, 26, 27, 28, 29, 62, 74, 77, 83, 90, 99, 104, 114, 119, 124, 151] -/
def ref1_Write_r0 : List Sop := [
  sw 2 (.assign (.const (.string { data := #[] }))) 9,
  sw 3 (.assign (.const (.int .i64 0))) 27,
  sw 4 (.assign (.const (.int .i64 0))) 3]
def ref1_Write_r1 : List Sop := [
  sq 14 (.move (.tmp 0)) 22,
  sq 15 (.call { callee := .builtin .len, args := #[.tmp 14], argTypes := #[22] }) 3,
  sq 16 (.binOp .lss 3 (.tmp 15) (.const (.int .i64 1)) 3) 4,
  sq 17 (.move (.tmp 16)) 4,
  ⟨some (18, false), .move (.tmp 0), 22, some (17, false), true⟩,
  ⟨some (19, false), .call { callee := .builtin .len, args := #[.tmp 18], argTypes := #[22] }, 3, some (17, false), true⟩,
  ⟨some (20, false), .binOp .gtr 3 (.tmp 19) (.const (.int .i64 65535)) 3, 4, some (17, false), true⟩,
  sw 21 (.pick (.tmp 17) (.const (.bool true)) (.tmp 20)) 4]
def ref1_Write_r2 : List Sop := [
  sw 2 (.assign (.const (.string { data := #[] }))) 9,
  sw 3 (.assign (.const (.int .i64 12))) 27,
  sw 4 (.assign (.const (.int .i64 0))) 3]
def ref1_Write_r3 : List Sop := [
  sq 22 (.move (.tmp 0)) 22,
  sq 23 (.call { callee := .builtin .len, args := #[.tmp 22], argTypes := #[22] }) 3,
  sq 24 (.convert 3 74 (.tmp 23)) 74,
  sc 25 (.call { callee := .value (.func 75), args := #[.tmp 24, .const (.int .i64 2)], argTypes := #[74, 3] }) 9,
  sw 5 (.assign (.tmp 25)) 9]
def ref1_Write_r4 : List Sop := [
  sw 26 (.move (.tmp 0)) 22,
  sw 27 (.call { callee := .builtin .len, args := #[.tmp 26], argTypes := #[22] }) 3,
  sw 28 (.move (.const (.int .i64 0))) 3]
def ref1_Write_r5 : List Sop := [
  sw 29 (.binOp .lss 3 (.tmp 28) (.tmp 27) 3) 0]
def ref1_Write_r6 : List Sop := [
  sq 30 (.move (.tmp 28)) 3,
  sq 31 (.indexAddr 22 (.tmp 26) (.tmp 28)) 0,
  sq 32 (.load 76 (.tmp 31)) 76,
  sa 7 (.alloc 76) 0,
  sw 6 (.assign (.tmp 30)) 3,
  ss (.store 76 (.tmp 7) (.tmp 32))]
def ref1_Write_r7 : List Sop := [
  sq 33 (.move (.tmp 6)) 3,
  sq 34 (.binOp .gtr 3 (.tmp 33) (.const (.int .i64 0)) 3) 4,
  sq 35 (.move (.tmp 34)) 4,
  ⟨some (36, false), .move (.tmp 0), 22, some (35, true), true⟩,
  ⟨some (37, false), .move (.tmp 6), 3, some (35, true), true⟩,
  ⟨some (38, false), .binOp .sub 3 (.tmp 37) (.const (.int .i64 1)) 3, 3, some (35, true), true⟩,
  ⟨some (39, false), .indexAddr 22 (.tmp 36) (.tmp 38), 0, some (35, true), true⟩,
  ⟨some (40, false), .fieldAddr 76 (.tmp 39) 0, 0, some (35, true), true⟩,
  ⟨some (41, false), .load 5 (.tmp 40), 5, some (35, true), true⟩,
  ⟨some (42, false), .binOp .eql 5 (.tmp 41) (.const (.int .u8 5)) 5, 4, some (35, true), true⟩,
  ⟨some (43, false), .move (.tmp 42), 4, some (35, true), true⟩,
  ⟨some (44, false), .move (.tmp 0), 22, some (43, false), true⟩,
  ⟨some (45, false), .move (.tmp 6), 3, some (43, false), true⟩,
  ⟨some (46, false), .binOp .sub 3 (.tmp 45) (.const (.int .i64 1)) 3, 3, some (43, false), true⟩,
  ⟨some (47, false), .indexAddr 22 (.tmp 44) (.tmp 46), 0, some (43, false), true⟩,
  ⟨some (48, false), .fieldAddr 76 (.tmp 47) 0, 0, some (43, false), true⟩,
  ⟨some (49, false), .load 5 (.tmp 48), 5, some (43, false), true⟩,
  ⟨some (50, false), .binOp .eql 5 (.tmp 49) (.const (.int .u8 6)) 5, 4, some (43, false), true⟩,
  ⟨some (51, false), .pick (.tmp 43) (.const (.bool true)) (.tmp 50), 4, some (35, true), true⟩,
  sq 52 (.pick (.tmp 35) (.tmp 51) (.const (.bool false))) 4,
  sw 8 (.assign (.tmp 52)) 4]
def ref1_Write_r8 : List Sop := [
  sq 53 (.fieldAddr 76 (.tmp 7) 0) 0,
  sq 54 (.load 5 (.tmp 53)) 5,
  sq 55 (.binOp .eql 5 (.tmp 54) (.const (.int .u8 0)) 5) 4,
  sq 56 (.move (.tmp 55)) 4,
  ⟨some (57, false), .move (.tmp 6), 3, some (56, true), true⟩,
  ⟨some (58, false), .binOp .eql 3 (.tmp 57) (.const (.int .i64 0)) 3, 4, some (56, true), true⟩,
  ⟨some (59, false), .move (.tmp 58), 4, some (56, true), true⟩,
  ⟨some (60, false), .move (.tmp 8), 4, some (59, false), true⟩,
  ⟨some (61, false), .pick (.tmp 59) (.const (.bool true)) (.tmp 60), 4, some (56, true), true⟩,
  sw 62 (.pick (.tmp 56) (.tmp 61) (.const (.bool false))) 4]
def ref1_Write_r9 : List Sop := [
  sq 63 (.fieldAddr 76 (.tmp 7) 0) 0,
  sq 64 (.load 5 (.tmp 63)) 5,
  sc 65 (.call { callee := .value (.func 76), args := #[.tmp 64], argTypes := #[5] }) 3,
  sw 9 (.assign (.tmp 65)) 3]
def ref1_Write_r10 : List Sop := [
  sq 66 (.move (.tmp 6)) 3,
  sq 67 (.binOp .eql 3 (.tmp 66) (.const (.int .i64 0)) 3) 4,
  sq 68 (.move (.tmp 67)) 4,
  ⟨some (69, false), .move (.tmp 8), 4, some (68, false), true⟩,
  sq 70 (.pick (.tmp 68) (.const (.bool true)) (.tmp 69)) 4,
  sq 71 (.move (.tmp 70)) 4,
  ⟨some (72, false), .move (.tmp 9), 3, some (71, false), true⟩,
  ⟨some (73, false), .binOp .lss 3 (.tmp 72) (.const (.int .i64 0)) 3, 4, some (71, false), true⟩,
  sw 74 (.pick (.tmp 71) (.const (.bool true)) (.tmp 73)) 4]
def ref1_Write_r11 : List Sop := [
  sq 75 (.move (.tmp 6)) 3,
  sw 2 (.assign (.const (.string { data := #[] }))) 9,
  sw 3 (.assign (.const (.int .i64 5))) 27,
  sw 4 (.assign (.tmp 75)) 3]
def ref1_Write_r12 : List Sop := [
  sw 10 (.assign (.const (.string { data := #[] }))) 9]
def ref1_Write_r13 : List Sop := [
  sq 76 (.fieldAddr 76 (.tmp 7) 0) 0,
  sw 77 (.load 5 (.tmp 76)) 5]
def ref1_Write_r14 : List Sop := [
  sq 91 (.binOp .eql 5 (.tmp 77) (.const (.int .u8 1)) 5) 4,
  sw 90 (.assign (.tmp 91)) 4]
def ref1_Write_r15 : List Sop := [
  sq 93 (.fieldAddr 76 (.tmp 7) 1) 0,
  sq 94 (.load 9 (.tmp 93)) 9,
  sc 95 (.call { callee := .value (.func 77), args := #[.tmp 94], argTypes := #[9] }) 135,
  sq 92 (.move (.tmp 95)) 135,
  sq 96 (.extract (.tmp 92) 0) 134,
  sq 97 (.extract (.tmp 92) 1) 4,
  sq 11 (.assign (.tmp 96)) 134,
  sw 12 (.assign (.tmp 97)) 4]
def ref1_Write_r16 : List Sop := [
  sq 98 (.move (.tmp 12)) 4,
  sw 99 (.unOp .not 4 (.tmp 98)) 4]
def ref1_Write_r17 : List Sop := [
  sq 100 (.move (.tmp 6)) 3,
  sw 2 (.assign (.const (.string { data := #[] }))) 9,
  sw 3 (.assign (.const (.int .i64 6))) 27,
  sw 4 (.assign (.tmp 100)) 3]
def ref1_Write_r18 : List Sop := [
  sq 101 (.fieldAddr 76 (.tmp 7) 1) 0,
  sq 102 (.load 9 (.tmp 101)) 9,
  sq 103 (.call { callee := .builtin .len, args := #[.tmp 102], argTypes := #[9] }) 3,
  sw 104 (.binOp .gtr 3 (.tmp 103) (.const (.int .i64 65535)) 3) 4]
def ref1_Write_r19 : List Sop := [
  sq 105 (.move (.tmp 6)) 3,
  sw 2 (.assign (.const (.string { data := #[] }))) 9,
  sw 3 (.assign (.const (.int .i64 12))) 27,
  sw 4 (.assign (.tmp 105)) 3]
def ref1_Write_r20 : List (Sop × List Sop) := [
  (sq 106 (.fieldAddr 76 (.tmp 7) 1) 0, []),
  (sq 107 (.load 9 (.tmp 106)) 9, []),
  (sq 108 (.call { callee := .builtin .len, args := #[.tmp 107], argTypes := #[9] }) 3, []),
  (sq 109 (.convert 3 74 (.tmp 108)) 74, []),
  (sq 111 (.fieldAddr 76 (.tmp 7) 1) 0, []),
  (sq 112 (.load 9 (.tmp 111)) 9, []),
  (sc 110 (.call { callee := .value (.func 75), args := #[.tmp 109, .const (.int .i64 2)], argTypes := #[74, 3] }) 9, [sq 111 (.fieldAddr 76 (.tmp 7) 1) 0, sq 112 (.load 9 (.tmp 111)) 9]),
  (sq 113 (.binOp .add 9 (.tmp 110) (.tmp 112) 9) 9, []),
  (sw 10 (.assign (.tmp 113)) 9, [])]
def ref1_Write_r21 : List Sop := [
  sq 115 (.binOp .eql 5 (.tmp 77) (.const (.int .u8 3)) 5) 4,
  sw 114 (.assign (.tmp 115)) 4]
def ref1_Write_r22 : List Sop := [
  sq 116 (.binOp .eql 5 (.tmp 77) (.const (.int .u8 4)) 5) 4,
  sw 114 (.assign (.tmp 116)) 4]
def ref1_Write_r23 : List Sop := [
  sq 117 (.fieldAddr 76 (.tmp 7) 2) 0,
  sq 118 (.load 74 (.tmp 117)) 74,
  sw 119 (.binOp .geq 74 (.tmp 118) (.const (.int .u64 4294967296)) 74) 4]
def ref1_Write_r24 : List Sop := [
  sq 120 (.move (.tmp 6)) 3,
  sw 2 (.assign (.const (.string { data := #[] }))) 9,
  sw 3 (.assign (.const (.int .i64 12))) 27,
  sw 4 (.assign (.tmp 120)) 3]
def ref1_Write_r25 : List Sop := [
  sq 121 (.fieldAddr 76 (.tmp 7) 2) 0,
  sq 122 (.load 74 (.tmp 121)) 74,
  sc 123 (.call { callee := .value (.func 75), args := #[.tmp 122, .const (.int .i64 4)], argTypes := #[74, 3] }) 9,
  sw 10 (.assign (.tmp 123)) 9]
def ref1_Write_r26 : List Sop := [
  sq 125 (.binOp .eql 5 (.tmp 77) (.const (.int .u8 5)) 5) 4,
  sw 124 (.assign (.tmp 125)) 4]
def ref1_Write_r27 : List Sop := [
  sq 126 (.binOp .eql 5 (.tmp 77) (.const (.int .u8 6)) 5) 4,
  sw 124 (.assign (.tmp 126)) 4]
def ref1_Write_r28 : List Sop := [
  sq 127 (.fieldAddr 76 (.tmp 7) 2) 0,
  sq 128 (.load 74 (.tmp 127)) 74,
  sc 129 (.call { callee := .value (.func 75), args := #[.tmp 128, .const (.int .i64 8)], argTypes := #[74, 3] }) 9,
  sw 10 (.assign (.tmp 129)) 9]
def ref1_Write_r29 : List Sop := [
  sq 78 (.fieldAddr 76 (.tmp 7) 3) 0,
  sq 79 (.load 38 (.tmp 78)) 38,
  sq 80 (.convert 38 74 (.tmp 79)) 74,
  sc 81 (.call { callee := .value (.func 75), args := #[.tmp 80, .const (.int .i64 2)], argTypes := #[74, 3] }) 9,
  sw 10 (.assign (.tmp 81)) 9]
def ref1_Write_r30 : List Sop := [
  sq 82 (.move (.tmp 9)) 3,
  sw 83 (.binOp .eql 3 (.tmp 82) (.const (.int .i64 4)) 3) 4]
def ref1_Write_r31 : List Sop := [
  sq 84 (.move (.tmp 10)) 9,
  sq 85 (.fieldAddr 76 (.tmp 7) 4) 0,
  sq 86 (.load 38 (.tmp 85)) 38,
  sq 87 (.convert 38 74 (.tmp 86)) 74,
  sc 88 (.call { callee := .value (.func 75), args := #[.tmp 87, .const (.int .i64 2)], argTypes := #[74, 3] }) 9,
  sq 89 (.binOp .add 9 (.tmp 84) (.tmp 88) 9) 9,
  sw 10 (.assign (.tmp 89)) 9]
def ref1_Write_r32 : List Sop := [
  sq 130 (.move (.tmp 5)) 9,
  sq 131 (.fieldAddr 76 (.tmp 7) 0) 0,
  sq 132 (.load 5 (.tmp 131)) 5,
  sc 133 (.buildSlice 69 1 #[(0, .tmp 132)]) 69,
  sq 134 (.convert 69 9 (.tmp 133)) 9,
  sq 135 (.move (.tmp 10)) 9,
  sq 136 (.binOp .add 9 (.tmp 134) (.tmp 135) 9) 9,
  sq 137 (.binOp .add 9 (.tmp 130) (.tmp 136) 9) 9,
  sw 5 (.assign (.tmp 137)) 9]
def ref1_Write_r33 : List Sop := [
  sq 138 (.binOp .add 3 (.tmp 28) (.const (.int .i64 1)) 3) 3,
  sw 28 (.move (.tmp 138)) 3]
def ref1_Write_r34 : List Sop := [
  sq 139 (.move (.tmp 0)) 22,
  sq 140 (.move (.tmp 0)) 22,
  sq 141 (.call { callee := .builtin .len, args := #[.tmp 140], argTypes := #[22] }) 3,
  sq 142 (.binOp .sub 3 (.tmp 141) (.const (.int .i64 1)) 3) 3,
  sq 143 (.indexAddr 22 (.tmp 139) (.tmp 142)) 0,
  sq 144 (.fieldAddr 76 (.tmp 143) 0) 0,
  sq 145 (.load 5 (.tmp 144)) 5,
  sw 13 (.assign (.tmp 145)) 5]
def ref1_Write_r35 : List Sop := [
  sq 146 (.move (.tmp 13)) 5,
  sq 147 (.binOp .eql 5 (.tmp 146) (.const (.int .u8 5)) 5) 4,
  sq 148 (.move (.tmp 147)) 4,
  ⟨some (149, false), .move (.tmp 13), 5, some (148, false), true⟩,
  ⟨some (150, false), .binOp .eql 5 (.tmp 149) (.const (.int .u8 6)) 5, 4, some (148, false), true⟩,
  sw 151 (.pick (.tmp 148) (.const (.bool true)) (.tmp 150)) 4]
def ref1_Write_r36 : List Sop := [
  sq 152 (.move (.tmp 0)) 22,
  sq 153 (.call { callee := .builtin .len, args := #[.tmp 152], argTypes := #[22] }) 3,
  sw 2 (.assign (.const (.string { data := #[] }))) 9,
  sw 3 (.assign (.const (.int .i64 5))) 27,
  sw 4 (.assign (.tmp 153)) 3]
def ref1_Write_r37 : List Sop := [
  sq 154 (.move (.tmp 5)) 9,
  sw 2 (.assign (.tmp 154)) 9,
  sw 3 (.assign (.const (.int .i64 0))) 27,
  sw 4 (.assign (.const (.int .i64 0))) 3]
def ref1_Write_l0 : Cd := .seq (.region ref1_Write_r5) (.seq (.cond (.tmp 29) (.skip) (.exit 0)) (.seq (.block 1 (.seq (.region ref1_Write_r6) (.seq (.region ref1_Write_r7) (.seq (.seq (.region ref1_Write_r8) (.cond (.tmp 62) (.exit 1) (.skip))) (.seq (.region ref1_Write_r9) (.seq (.seq (.region ref1_Write_r10) (.cond (.tmp 74) (.seq (.region ref1_Write_r11) (.ret)) (.skip))) (.seq (.region ref1_Write_r12) (.seq (.seq (.region ref1_Write_r13) (.block 2 (.seq (.region ref1_Write_r14) (.cond (.tmp 90) (.seq (.seq (.region ref1_Write_r15) (.seq (.region ref1_Write_r16) (.cond (.tmp 99) (.seq (.region ref1_Write_r17) (.ret)) (.skip)))) (.seq (.seq (.region ref1_Write_r18) (.cond (.tmp 104) (.seq (.region ref1_Write_r19) (.ret)) (.skip))) (.draw ref1_Write_r20))) (.seq (.seq (.region ref1_Write_r21) (.cond (.tmp 114) (.skip) (.region ref1_Write_r22))) (.cond (.tmp 114) (.seq (.seq (.region ref1_Write_r23) (.cond (.tmp 119) (.seq (.region ref1_Write_r24) (.ret)) (.skip))) (.region ref1_Write_r25)) (.seq (.seq (.region ref1_Write_r26) (.cond (.tmp 124) (.skip) (.region ref1_Write_r27))) (.cond (.tmp 124) (.region ref1_Write_r28) (.seq (.region ref1_Write_r29) (.seq (.region ref1_Write_r30) (.cond (.tmp 83) (.region ref1_Write_r31) (.skip)))))))))))) (.region ref1_Write_r32))))))))) (.region ref1_Write_r33)))
def ref1_Write : Cd := .seq (.region ref1_Write_r0) (.seq (.seq (.region ref1_Write_r1) (.cond (.tmp 21) (.seq (.region ref1_Write_r2) (.ret)) (.skip))) (.seq (.region ref1_Write_r3) (.seq (.seq (.region ref1_Write_r4) (.block 0 (.loop ref1_Write_l0))) (.seq (.seq (.region ref1_Write_r34) (.seq (.region ref1_Write_r35) (.cond (.tmp 151) (.seq (.region ref1_Write_r36) (.ret)) (.skip)))) (.seq (.region ref1_Write_r37) (.ret))))))
theorem ref1_Write_calls {args : List Value} {h : Heap} {R : Value → Heap → Prop} (hl : args.length = 1) (hv : Cd.vc Try.prog ref1_Write (retQ Try.prog [(2, none), (3, none), (4, none)] R) (initEnv args [0, 2, 3, 4, 5, 6, 7, 8, 9, 10, 12, 13, 21, 26, 27, 28, 29, 62, 74, 77, 83, 90, 99, 104, 114, 119, 124, 151]) h) : HCalls Try.prog 46 args.toArray h R :=
  hcalls_of_vc (by kernel_rfl) Try.func46 (cd := ref1_Write) (L := [0, 2, 3, 4, 5, 6, 7, 8, 9, 10, 12, 13, 21, 26, 27, 28, 29, 62, 74, 77, 83, 90, 99, 104, 114, 119, 124, 151]) (by kernel_rfl) (by kernel_rfl) ⟨by rw [hl, Try.ntmps46]; decide, by rw [Try.ntmps46]; decide⟩ hv
def ref1_Write_gos := And.intro (@goVc Try.prog _ _ ref1_Write.eq_1) (And.intro (@goOps Try.prog _ _ ref1_Write_r0.eq_1) (And.intro (@goOps Try.prog _ _ ref1_Write_r1.eq_1) (And.intro (@goOps Try.prog _ _ ref1_Write_r2.eq_1) (And.intro (@goOps Try.prog _ _ ref1_Write_r3.eq_1) (And.intro (@goOps Try.prog _ _ ref1_Write_r4.eq_1) (And.intro (@goOps Try.prog _ _ ref1_Write_r5.eq_1) (And.intro (@goOps Try.prog _ _ ref1_Write_r6.eq_1) (And.intro (@goOps Try.prog _ _ ref1_Write_r7.eq_1) (And.intro (@goOps Try.prog _ _ ref1_Write_r8.eq_1) (And.intro (@goOps Try.prog _ _ ref1_Write_r9.eq_1) (And.intro (@goOps Try.prog _ _ ref1_Write_r10.eq_1) (And.intro (@goOps Try.prog _ _ ref1_Write_r11.eq_1) (And.intro (@goOps Try.prog _ _ ref1_Write_r12.eq_1) (And.intro (@goOps Try.prog _ _ ref1_Write_r13.eq_1) (And.intro (@goOps Try.prog _ _ ref1_Write_r14.eq_1) (And.intro (@goOps Try.prog _ _ ref1_Write_r15.eq_1) (And.intro (@goOps Try.prog _ _ ref1_Write_r16.eq_1) (And.intro (@goOps Try.prog _ _ ref1_Write_r17.eq_1) (And.intro (@goOps Try.prog _ _ ref1_Write_r18.eq_1) (And.intro (@goOps Try.prog _ _ ref1_Write_r19.eq_1) (And.intro (@goDraw Try.prog _ _ ref1_Write_r20.eq_1) (And.intro (@goOps Try.prog _ _ ref1_Write_r21.eq_1) (And.intro (@goOps Try.prog _ _ ref1_Write_r22.eq_1) (And.intro (@goOps Try.prog _ _ ref1_Write_r23.eq_1) (And.intro (@goOps Try.prog _ _ ref1_Write_r24.eq_1) (And.intro (@goOps Try.prog _ _ ref1_Write_r25.eq_1) (And.intro (@goOps Try.prog _ _ ref1_Write_r26.eq_1) (And.intro (@goOps Try.prog _ _ ref1_Write_r27.eq_1) (And.intro (@goOps Try.prog _ _ ref1_Write_r28.eq_1) (And.intro (@goOps Try.prog _ _ ref1_Write_r29.eq_1) (And.intro (@goOps Try.prog _ _ ref1_Write_r30.eq_1) (And.intro (@goOps Try.prog _ _ ref1_Write_r31.eq_1) (And.intro (@goOps Try.prog _ _ ref1_Write_r32.eq_1) (And.intro (@goOps Try.prog _ _ ref1_Write_r33.eq_1) (And.intro (@goOps Try.prog _ _ ref1_Write_r34.eq_1) (And.intro (@goOps Try.prog _ _ ref1_Write_r35.eq_1) (And.intro (@goOps Try.prog _ _ ref1_Write_r36.eq_1) (And.intro (@goOps Try.prog _ _ ref1_Write_r37.eq_1) (@goVc Try.prog _ _ ref1_Write_l0.eq_1)))))))))))))))))))))))))))))))))))))))

end Go.Proofs.Ytohkbpnblkkdgaa.C
