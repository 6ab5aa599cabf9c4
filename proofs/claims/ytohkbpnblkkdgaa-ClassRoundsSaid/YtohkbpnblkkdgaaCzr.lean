/- The stripped code of some functions of this seat's program, printed by a program; that it is that code is proved by the kernel. No condition. -/

import Derived.Test.YtohkbpnblkkdgaaProg

import Derived.Test.YtohkbpnblkkdgaaVcJ

set_option maxRecDepth 100000

set_option linter.defProp false

namespace Go.Proofs.Ytohkbpnblkkdgaa.C

open Go.Vc

/-! jvmcore/class.Read: function 19: slots [0, 2, 3, 4, 5, 6, 7, 8, 9, 10, 11, 21, 64, 116, 147, 175, 196, 216] -/
def class_Read_r0 : List Sop := [
  sa 2 (.alloc 43) 0,
  sw 3 (.assign (.const (.int .i64 0))) 27,
  sw 4 (.assign (.const (.int .i64 0))) 3]
def class_Read_r1 : List Sop := [
  sq 12 (.move (.tmp 0)) 9,
  sc 13 (.call { callee := .value (.func 22), args := #[.tmp 12], argTypes := #[9] }) 54,
  sq 14 (.build 102 #[(0, .tmp 13)]) 102,
  sc 15 (.box 102 (.tmp 14)) 100,
  sw 5 (.assign (.tmp 15)) 100]
def class_Read_r2 : List Sop := [
  sq 16 (.move (.tmp 5)) 100,
  sq 17 (.nilCheck (.tmp 16)) 0,
  sq 18 (.fieldAddr 102 (.tmp 17) 0) 0,
  sq 19 (.load 54 (.tmp 18)) 54,
  sc 20 (.call { callee := .value (.func 23), args := #[.tmp 19, .const (.int .i64 4)], argTypes := #[54, 3] }) 3,
  sw 21 (.binOp .neq 3 (.tmp 20) (.const (.int .i64 3405691582)) 3) 4]
def class_Read_r3 : List Sop := [
  sq 22 (.move (.tmp 5)) 100,
  sq 23 (.nilCheck (.tmp 22)) 0,
  sq 24 (.fieldAddr 102 (.tmp 23) 0) 0,
  sq 25 (.load 54 (.tmp 24)) 54,
  sc 26 (.call { callee := .value (.func 28), args := #[.tmp 25, .const (.int .i64 3), .const (.int .i64 0)], argTypes := #[54, 27, 3] }) 0]
def class_Read_r4 : List Sop := [
  sq 27 (.move (.tmp 5)) 100,
  sq 28 (.nilCheck (.tmp 27)) 0,
  sq 29 (.fieldAddr 102 (.tmp 28) 1) 0,
  sw 6 (.assign (.tmp 29)) 103]
def class_Read_r5 : List (Sop × List Sop) := [
  (sq 30 (.move (.tmp 6)) 103, []),
  (sq 31 (.move (.tmp 6)) 103, []),
  (sq 32 (.move (.tmp 5)) 100, []),
  (sq 33 (.nilCheck (.tmp 32)) 0, []),
  (sq 34 (.fieldAddr 102 (.tmp 33) 0) 0, []),
  (sq 35 (.load 54 (.tmp 34)) 54, []),
  (sq 37 (.move (.tmp 5)) 100, []),
  (sq 38 (.nilCheck (.tmp 37)) 0, []),
  (sq 39 (.fieldAddr 102 (.tmp 38) 0) 0, []),
  (sq 40 (.load 54 (.tmp 39)) 54, []),
  (sc 36 (.call { callee := .value (.func 52), args := #[.tmp 35], argTypes := #[54] }) 38, [sq 38 (.nilCheck (.tmp 37)) 0, sq 39 (.fieldAddr 102 (.tmp 38) 0) 0, sq 40 (.load 54 (.tmp 39)) 54]),
  (sc 41 (.call { callee := .value (.func 52), args := #[.tmp 40], argTypes := #[54] }) 38, []),
  (sq 42 (.nilCheck (.tmp 30)) 0, []),
  (sq 43 (.fieldAddr 43 (.tmp 42) 0) 0, []),
  (ss (.store 38 (.tmp 43) (.tmp 36)), []),
  (sq 44 (.nilCheck (.tmp 31)) 0, []),
  (sq 45 (.fieldAddr 43 (.tmp 44) 1) 0, []),
  (ss (.store 38 (.tmp 45) (.tmp 41)), [])]
def class_Read_r6 : List Sop := [
  sq 46 (.move (.tmp 6)) 103,
  sq 47 (.nilCheck (.tmp 46)) 0,
  sq 48 (.fieldAddr 43 (.tmp 47) 1) 0,
  sq 49 (.load 38 (.tmp 48)) 38,
  sq 50 (.binOp .neq 38 (.tmp 49) (.const (.int .u16 50)) 38) 4,
  sq 51 (.move (.tmp 50)) 4,
  ⟨some (52, false), .move (.tmp 6), 103, some (51, true), true⟩,
  ⟨some (53, false), .nilCheck (.tmp 52), 0, some (51, true), true⟩,
  ⟨some (54, false), .fieldAddr 43 (.tmp 53) 1, 0, some (51, true), true⟩,
  ⟨some (55, false), .load 38 (.tmp 54), 38, some (51, true), true⟩,
  ⟨some (56, false), .binOp .neq 38 (.tmp 55) (.const (.int .u16 51)) 38, 4, some (51, true), true⟩,
  sq 57 (.pick (.tmp 51) (.tmp 56) (.const (.bool false))) 4,
  sq 58 (.move (.tmp 57)) 4,
  ⟨some (59, false), .move (.tmp 6), 103, some (58, false), true⟩,
  ⟨some (60, false), .nilCheck (.tmp 59), 0, some (58, false), true⟩,
  ⟨some (61, false), .fieldAddr 43 (.tmp 60) 0, 0, some (58, false), true⟩,
  ⟨some (62, false), .load 38 (.tmp 61), 38, some (58, false), true⟩,
  ⟨some (63, false), .binOp .neq 38 (.tmp 62) (.const (.int .u16 0)) 38, 4, some (58, false), true⟩,
  sw 64 (.pick (.tmp 58) (.const (.bool true)) (.tmp 63)) 4]
def class_Read_r7 : List Sop := [
  sq 65 (.move (.tmp 5)) 100,
  sq 66 (.nilCheck (.tmp 65)) 0,
  sq 67 (.fieldAddr 102 (.tmp 66) 0) 0,
  sq 68 (.load 54 (.tmp 67)) 54,
  sc 69 (.call { callee := .value (.func 28), args := #[.tmp 68, .const (.int .i64 4), .const (.int .i64 4)], argTypes := #[54, 27, 3] }) 0]
def class_Read_r8 : List Sop := [
  sq 70 (.move (.tmp 6)) 103,
  sq 71 (.move (.tmp 5)) 100,
  sq 72 (.nilCheck (.tmp 71)) 0,
  sq 73 (.fieldAddr 102 (.tmp 72) 0) 0,
  sq 74 (.load 54 (.tmp 73)) 54,
  sc 75 (.call { callee := .value (.func 53), args := #[.tmp 74], argTypes := #[54] }) 22,
  sq 76 (.nilCheck (.tmp 70)) 0,
  sq 77 (.fieldAddr 43 (.tmp 76) 5) 0,
  ss (.store 22 (.tmp 77) (.tmp 75))]
def class_Read_r9 : List (Sop × List Sop) := [
  (sq 78 (.move (.tmp 6)) 103, []),
  (sq 79 (.move (.tmp 6)) 103, []),
  (sq 80 (.move (.tmp 6)) 103, []),
  (sq 81 (.move (.tmp 5)) 100, []),
  (sq 82 (.nilCheck (.tmp 81)) 0, []),
  (sq 83 (.fieldAddr 102 (.tmp 82) 0) 0, []),
  (sq 84 (.load 54 (.tmp 83)) 54, []),
  (sq 86 (.move (.tmp 5)) 100, []),
  (sq 87 (.nilCheck (.tmp 86)) 0, []),
  (sq 88 (.fieldAddr 102 (.tmp 87) 0) 0, []),
  (sq 89 (.load 54 (.tmp 88)) 54, []),
  (sq 91 (.move (.tmp 5)) 100, []),
  (sq 92 (.nilCheck (.tmp 91)) 0, []),
  (sq 93 (.fieldAddr 102 (.tmp 92) 0) 0, []),
  (sq 94 (.load 54 (.tmp 93)) 54, []),
  (sc 85 (.call { callee := .value (.func 52), args := #[.tmp 84], argTypes := #[54] }) 38, [sq 87 (.nilCheck (.tmp 86)) 0, sq 88 (.fieldAddr 102 (.tmp 87) 0) 0, sq 89 (.load 54 (.tmp 88)) 54, sq 92 (.nilCheck (.tmp 91)) 0, sq 93 (.fieldAddr 102 (.tmp 92) 0) 0, sq 94 (.load 54 (.tmp 93)) 54]),
  (sc 90 (.call { callee := .value (.func 52), args := #[.tmp 89], argTypes := #[54] }) 38, [sq 92 (.nilCheck (.tmp 91)) 0, sq 93 (.fieldAddr 102 (.tmp 92) 0) 0, sq 94 (.load 54 (.tmp 93)) 54]),
  (sc 95 (.call { callee := .value (.func 52), args := #[.tmp 94], argTypes := #[54] }) 38, []),
  (sq 96 (.nilCheck (.tmp 78)) 0, []),
  (sq 97 (.fieldAddr 43 (.tmp 96) 2) 0, []),
  (ss (.store 38 (.tmp 97) (.tmp 85)), []),
  (sq 98 (.nilCheck (.tmp 79)) 0, []),
  (sq 99 (.fieldAddr 43 (.tmp 98) 3) 0, []),
  (ss (.store 38 (.tmp 99) (.tmp 90)), []),
  (sq 100 (.nilCheck (.tmp 80)) 0, []),
  (sq 101 (.fieldAddr 43 (.tmp 100) 4) 0, []),
  (ss (.store 38 (.tmp 101) (.tmp 95)), [])]
def class_Read_r10 : List Sop := [
  sq 102 (.move (.tmp 5)) 100,
  sq 103 (.nilCheck (.tmp 102)) 0,
  sq 104 (.fieldAddr 102 (.tmp 103) 0) 0,
  sq 105 (.load 54 (.tmp 104)) 54,
  sc 106 (.call { callee := .value (.func 23), args := #[.tmp 105, .const (.int .i64 2)], argTypes := #[54, 3] }) 3,
  sw 7 (.assign (.tmp 106)) 3]
def class_Read_r11 : List Sop := [
  sq 107 (.move (.tmp 7)) 3,
  sq 108 (.binOp .gtr 3 (.tmp 107) (.const (.int .i64 0)) 3) 4,
  sq 109 (.move (.tmp 108)) 4,
  ⟨some (110, false), .move (.tmp 5), 100, some (109, true), true⟩,
  ⟨some (111, false), .nilCheck (.tmp 110), 0, some (109, true), true⟩,
  ⟨some (112, false), .fieldAddr 102 (.tmp 111) 0, 0, some (109, true), true⟩,
  ⟨some (113, false), .load 54 (.tmp 112), 54, some (109, true), true⟩,
  ⟨some (114, false), .call { callee := .value (.func 25), args := #[.tmp 113], argTypes := #[54] }, 4, some (109, true), false⟩,
  ⟨some (115, false), .unOp .not 4 (.tmp 114), 4, some (109, true), true⟩,
  sw 116 (.pick (.tmp 109) (.tmp 115) (.const (.bool false))) 4]
def class_Read_r12 : List (Sop × List Sop) := [
  (sq 119 (.move (.tmp 6)) 103, []),
  (sq 120 (.move (.tmp 6)) 103, []),
  (sq 121 (.nilCheck (.tmp 120)) 0, []),
  (sq 122 (.fieldAddr 43 (.tmp 121) 6) 0, []),
  (sq 123 (.load 39 (.tmp 122)) 39, []),
  (sq 124 (.move (.tmp 5)) 100, []),
  (sq 125 (.nilCheck (.tmp 124)) 0, []),
  (sq 126 (.fieldAddr 102 (.tmp 125) 0) 0, []),
  (sq 127 (.load 54 (.tmp 126)) 54, []),
  (sc 128 (.call { callee := .value (.func 52), args := #[.tmp 127], argTypes := #[54] }) 38, [sq 121 (.nilCheck (.tmp 120)) 0, sq 122 (.fieldAddr 43 (.tmp 121) 6) 0, sq 123 (.load 39 (.tmp 122)) 39]),
  (sc 129 (.buildSlice 39 1 #[(0, .tmp 128)]) 39, [sq 121 (.nilCheck (.tmp 120)) 0, sq 122 (.fieldAddr 43 (.tmp 121) 6) 0, sq 123 (.load 39 (.tmp 122)) 39]),
  (sc 130 (.call { callee := .builtin .append, args := #[.tmp 123, .tmp 129], argTypes := #[39, 39] }) 39, []),
  (sq 131 (.nilCheck (.tmp 119)) 0, []),
  (sq 132 (.fieldAddr 43 (.tmp 131) 6) 0, []),
  (ss (.store 39 (.tmp 132) (.tmp 130)), [])]
def class_Read_r13 : List Sop := [
  sq 117 (.move (.tmp 7)) 3,
  sq 118 (.binOp .sub 3 (.tmp 117) (.const (.int .i64 1)) 3) 3,
  sw 7 (.assign (.tmp 118)) 3]
def class_Read_r14 : List Sop := [
  sq 133 (.move (.tmp 5)) 100,
  sq 134 (.nilCheck (.tmp 133)) 0,
  sq 135 (.fieldAddr 102 (.tmp 134) 0) 0,
  sq 136 (.load 54 (.tmp 135)) 54,
  sc 137 (.call { callee := .value (.func 23), args := #[.tmp 136, .const (.int .i64 2)], argTypes := #[54, 3] }) 3,
  sw 8 (.assign (.tmp 137)) 3]
def class_Read_r15 : List Sop := [
  sq 138 (.move (.tmp 8)) 3,
  sq 139 (.binOp .gtr 3 (.tmp 138) (.const (.int .i64 0)) 3) 4,
  sq 140 (.move (.tmp 139)) 4,
  ⟨some (141, false), .move (.tmp 5), 100, some (140, true), true⟩,
  ⟨some (142, false), .nilCheck (.tmp 141), 0, some (140, true), true⟩,
  ⟨some (143, false), .fieldAddr 102 (.tmp 142) 0, 0, some (140, true), true⟩,
  ⟨some (144, false), .load 54 (.tmp 143), 54, some (140, true), true⟩,
  ⟨some (145, false), .call { callee := .value (.func 25), args := #[.tmp 144], argTypes := #[54] }, 4, some (140, true), false⟩,
  ⟨some (146, false), .unOp .not 4 (.tmp 145), 4, some (140, true), true⟩,
  sw 147 (.pick (.tmp 140) (.tmp 146) (.const (.bool false))) 4]
def class_Read_r16 : List (Sop × List Sop) := [
  (sq 150 (.move (.tmp 6)) 103, []),
  (sq 151 (.move (.tmp 6)) 103, []),
  (sq 152 (.nilCheck (.tmp 151)) 0, []),
  (sq 153 (.fieldAddr 43 (.tmp 152) 7) 0, []),
  (sq 154 (.load 40 (.tmp 153)) 40, []),
  (sq 155 (.move (.tmp 5)) 100, []),
  (sc 156 (.call { callee := .value (.func 54), args := #[.tmp 155], argTypes := #[100] }) 89, [sq 152 (.nilCheck (.tmp 151)) 0, sq 153 (.fieldAddr 43 (.tmp 152) 7) 0, sq 154 (.load 40 (.tmp 153)) 40]),
  (sc 157 (.buildSlice 40 1 #[(0, .tmp 156)]) 40, [sq 152 (.nilCheck (.tmp 151)) 0, sq 153 (.fieldAddr 43 (.tmp 152) 7) 0, sq 154 (.load 40 (.tmp 153)) 40]),
  (sc 158 (.call { callee := .builtin .append, args := #[.tmp 154, .tmp 157], argTypes := #[40, 40] }) 40, []),
  (sq 159 (.nilCheck (.tmp 150)) 0, []),
  (sq 160 (.fieldAddr 43 (.tmp 159) 7) 0, []),
  (ss (.store 40 (.tmp 160) (.tmp 158)), [])]
def class_Read_r17 : List Sop := [
  sq 148 (.move (.tmp 8)) 3,
  sq 149 (.binOp .sub 3 (.tmp 148) (.const (.int .i64 1)) 3) 3,
  sw 8 (.assign (.tmp 149)) 3]
def class_Read_r18 : List Sop := [
  sq 161 (.move (.tmp 5)) 100,
  sq 162 (.nilCheck (.tmp 161)) 0,
  sq 163 (.fieldAddr 102 (.tmp 162) 0) 0,
  sq 164 (.load 54 (.tmp 163)) 54,
  sc 165 (.call { callee := .value (.func 23), args := #[.tmp 164, .const (.int .i64 2)], argTypes := #[54, 3] }) 3,
  sw 9 (.assign (.tmp 165)) 3]
def class_Read_r19 : List Sop := [
  sq 166 (.move (.tmp 9)) 3,
  sq 167 (.binOp .gtr 3 (.tmp 166) (.const (.int .i64 0)) 3) 4,
  sq 168 (.move (.tmp 167)) 4,
  ⟨some (169, false), .move (.tmp 5), 100, some (168, true), true⟩,
  ⟨some (170, false), .nilCheck (.tmp 169), 0, some (168, true), true⟩,
  ⟨some (171, false), .fieldAddr 102 (.tmp 170) 0, 0, some (168, true), true⟩,
  ⟨some (172, false), .load 54 (.tmp 171), 54, some (168, true), true⟩,
  ⟨some (173, false), .call { callee := .value (.func 25), args := #[.tmp 172], argTypes := #[54] }, 4, some (168, true), false⟩,
  ⟨some (174, false), .unOp .not 4 (.tmp 173), 4, some (168, true), true⟩,
  sw 175 (.pick (.tmp 168) (.tmp 174) (.const (.bool false))) 4]
def class_Read_r20 : List (Sop × List Sop) := [
  (sq 178 (.move (.tmp 6)) 103, []),
  (sq 179 (.move (.tmp 6)) 103, []),
  (sq 180 (.nilCheck (.tmp 179)) 0, []),
  (sq 181 (.fieldAddr 43 (.tmp 180) 8) 0, []),
  (sq 182 (.load 41 (.tmp 181)) 41, []),
  (sq 183 (.move (.tmp 5)) 100, []),
  (sc 184 (.call { callee := .value (.func 55), args := #[.tmp 183], argTypes := #[100] }) 81, [sq 180 (.nilCheck (.tmp 179)) 0, sq 181 (.fieldAddr 43 (.tmp 180) 8) 0, sq 182 (.load 41 (.tmp 181)) 41]),
  (sc 185 (.buildSlice 41 1 #[(0, .tmp 184)]) 41, [sq 180 (.nilCheck (.tmp 179)) 0, sq 181 (.fieldAddr 43 (.tmp 180) 8) 0, sq 182 (.load 41 (.tmp 181)) 41]),
  (sc 186 (.call { callee := .builtin .append, args := #[.tmp 182, .tmp 185], argTypes := #[41, 41] }) 41, []),
  (sq 187 (.nilCheck (.tmp 178)) 0, []),
  (sq 188 (.fieldAddr 43 (.tmp 187) 8) 0, []),
  (ss (.store 41 (.tmp 188) (.tmp 186)), [])]
def class_Read_r21 : List Sop := [
  sq 176 (.move (.tmp 9)) 3,
  sq 177 (.binOp .sub 3 (.tmp 176) (.const (.int .i64 1)) 3) 3,
  sw 9 (.assign (.tmp 177)) 3]
def class_Read_r22 : List Sop := [
  sq 189 (.move (.tmp 5)) 100,
  sc 190 (.call { callee := .value (.func 56), args := #[.tmp 189, .func 57], argTypes := #[100, 109] }) 0]
def class_Read_r23 : List Sop := [
  sq 191 (.move (.tmp 5)) 100,
  sq 192 (.nilCheck (.tmp 191)) 0,
  sq 193 (.fieldAddr 102 (.tmp 192) 0) 0,
  sq 194 (.load 54 (.tmp 193)) 54,
  sc 195 (.call { callee := .value (.func 27), args := #[.tmp 194], argTypes := #[54] }) 3,
  sw 196 (.binOp .gtr 3 (.tmp 195) (.const (.int .i64 0)) 3) 4]
def class_Read_r24 : List (Sop × List Sop) := [
  (sq 197 (.move (.tmp 5)) 100, []),
  (sq 198 (.nilCheck (.tmp 197)) 0, []),
  (sq 199 (.fieldAddr 102 (.tmp 198) 0) 0, []),
  (sq 200 (.load 54 (.tmp 199)) 54, []),
  (sq 201 (.move (.tmp 5)) 100, []),
  (sq 202 (.nilCheck (.tmp 201)) 0, []),
  (sq 203 (.fieldAddr 102 (.tmp 202) 0) 0, []),
  (sq 204 (.load 54 (.tmp 203)) 54, []),
  (sc 205 (.call { callee := .value (.func 29), args := #[.tmp 204], argTypes := #[54] }) 3, [sq 198 (.nilCheck (.tmp 197)) 0, sq 199 (.fieldAddr 102 (.tmp 198) 0) 0, sq 200 (.load 54 (.tmp 199)) 54]),
  (sc 206 (.call { callee := .value (.func 28), args := #[.tmp 200, .const (.int .i64 2), .tmp 205], argTypes := #[54, 27, 3] }) 0, [])]
def class_Read_r25 : List Sop := [
  sq 208 (.move (.tmp 5)) 100,
  sq 209 (.nilCheck (.tmp 208)) 0,
  sq 210 (.fieldAddr 102 (.tmp 209) 0) 0,
  sq 211 (.load 54 (.tmp 210)) 54,
  sc 212 (.call { callee := .value (.func 30), args := #[.tmp 211], argTypes := #[54] }) 62,
  sq 207 (.move (.tmp 212)) 62,
  sq 213 (.extract (.tmp 207) 0) 27,
  sq 214 (.extract (.tmp 207) 1) 3,
  sw 10 (.assign (.tmp 213)) 27,
  sw 11 (.assign (.tmp 214)) 3]
def class_Read_r26 : List Sop := [
  sq 215 (.move (.tmp 10)) 27,
  sw 216 (.binOp .neq 27 (.tmp 215) (.const (.int .i64 0)) 27) 4]
def class_Read_r27 : List Sop := [
  sq 217 (.build 43 #[]) 43,
  sq 218 (.move (.tmp 10)) 27,
  sq 219 (.move (.tmp 11)) 3,
  ss (.store 43 (.tmp 2) (.tmp 217)),
  sw 3 (.assign (.tmp 218)) 27,
  sw 4 (.assign (.tmp 219)) 3]
def class_Read_r28 : List Sop := [
  sq 220 (.move (.tmp 6)) 103,
  sq 221 (.nilCheck (.tmp 220)) 0,
  sq 222 (.load 43 (.tmp 221)) 43,
  ss (.store 43 (.tmp 2) (.tmp 222)),
  sw 3 (.assign (.const (.int .i64 0))) 27,
  sw 4 (.assign (.const (.int .i64 0))) 3]
def class_Read_l0 : Cd := .seq (.seq (.region class_Read_r11) (.cond (.tmp 116) (.skip) (.exit 0))) (.seq (.block 1 (.draw class_Read_r12)) (.region class_Read_r13))
def class_Read_l1 : Cd := .seq (.seq (.region class_Read_r15) (.cond (.tmp 147) (.skip) (.exit 2))) (.seq (.block 3 (.draw class_Read_r16)) (.region class_Read_r17))
def class_Read_l2 : Cd := .seq (.seq (.region class_Read_r19) (.cond (.tmp 175) (.skip) (.exit 4))) (.seq (.block 5 (.draw class_Read_r20)) (.region class_Read_r21))
def class_Read_t0 : Cd := .seq (.seq (.region class_Read_r25) (.seq (.region class_Read_r26) (.cond (.tmp 216) (.seq (.region class_Read_r27) (.ret)) (.skip)))) (.seq (.region class_Read_r28) (.ret))
def class_Read_t0_go := @goVc Try.prog _ _ class_Read_t0.eq_1
def class_Read_t1 : Cd := .seq (.region class_Read_r22) (.seq (.seq (.region class_Read_r23) (.cond (.tmp 196) (.draw class_Read_r24) (.skip))) (class_Read_t0))
def class_Read_t1_go := @goVc Try.prog _ _ class_Read_t1.eq_1
def class_Read_t2 : Cd := .seq (.seq (.region class_Read_r18) (.block 4 (.loop class_Read_l2))) (class_Read_t1)
def class_Read_t2_go := @goVc Try.prog _ _ class_Read_t2.eq_1
def class_Read_t3 : Cd := .seq (.seq (.region class_Read_r14) (.block 2 (.loop class_Read_l1))) (class_Read_t2)
def class_Read_t3_go := @goVc Try.prog _ _ class_Read_t3.eq_1
def class_Read_t4 : Cd := .seq (.seq (.region class_Read_r10) (.block 0 (.loop class_Read_l0))) (class_Read_t3)
def class_Read_t4_go := @goVc Try.prog _ _ class_Read_t4.eq_1
def class_Read_t5 : Cd := .seq (.region class_Read_r8) (.seq (.draw class_Read_r9) (class_Read_t4))
def class_Read_t5_go := @goVc Try.prog _ _ class_Read_t5.eq_1
def class_Read_t6 : Cd := .seq (.region class_Read_r4) (.seq (.draw class_Read_r5) (.seq (.seq (.region class_Read_r6) (.cond (.tmp 64) (.region class_Read_r7) (.skip))) (class_Read_t5)))
def class_Read_t6_go := @goVc Try.prog _ _ class_Read_t6.eq_1
def class_Read : Cd := .seq (.region class_Read_r0) (.seq (.region class_Read_r1) (.seq (.seq (.region class_Read_r2) (.cond (.tmp 21) (.region class_Read_r3) (.skip))) (class_Read_t6)))
theorem class_Read_calls {args : List Value} {h : Heap} {R : Value → Heap → Prop} (hl : args.length = 1) (hv : Cd.vc Try.prog class_Read (retQ Try.prog [(2, some 43), (3, none), (4, none)] R) (initEnv args [0, 2, 3, 4, 5, 6, 7, 8, 9, 10, 11, 21, 64, 116, 147, 175, 196, 216]) h) : HCalls Try.prog 19 args.toArray h R :=
  hcalls_of_vc (by kernel_rfl) Try.func19 (cd := class_Read) (L := [0, 2, 3, 4, 5, 6, 7, 8, 9, 10, 11, 21, 64, 116, 147, 175, 196, 216]) (by kernel_rfl) (by kernel_rfl) ⟨by rw [hl, Try.ntmps19]; decide, by rw [Try.ntmps19]; decide⟩ hv
def class_Read_gos := And.intro (@goVc Try.prog _ _ class_Read.eq_1) (And.intro (@goOps Try.prog _ _ class_Read_r0.eq_1) (And.intro (@goOps Try.prog _ _ class_Read_r1.eq_1) (And.intro (@goOps Try.prog _ _ class_Read_r2.eq_1) (And.intro (@goOps Try.prog _ _ class_Read_r3.eq_1) (And.intro (@goOps Try.prog _ _ class_Read_r4.eq_1) (And.intro (@goDraw Try.prog _ _ class_Read_r5.eq_1) (And.intro (@goOps Try.prog _ _ class_Read_r6.eq_1) (And.intro (@goOps Try.prog _ _ class_Read_r7.eq_1) (And.intro (@goOps Try.prog _ _ class_Read_r8.eq_1) (And.intro (@goDraw Try.prog _ _ class_Read_r9.eq_1) (And.intro (@goOps Try.prog _ _ class_Read_r10.eq_1) (And.intro (@goOps Try.prog _ _ class_Read_r11.eq_1) (And.intro (@goDraw Try.prog _ _ class_Read_r12.eq_1) (And.intro (@goOps Try.prog _ _ class_Read_r13.eq_1) (And.intro (@goOps Try.prog _ _ class_Read_r14.eq_1) (And.intro (@goOps Try.prog _ _ class_Read_r15.eq_1) (And.intro (@goDraw Try.prog _ _ class_Read_r16.eq_1) (And.intro (@goOps Try.prog _ _ class_Read_r17.eq_1) (And.intro (@goOps Try.prog _ _ class_Read_r18.eq_1) (And.intro (@goOps Try.prog _ _ class_Read_r19.eq_1) (And.intro (@goDraw Try.prog _ _ class_Read_r20.eq_1) (And.intro (@goOps Try.prog _ _ class_Read_r21.eq_1) (And.intro (@goOps Try.prog _ _ class_Read_r22.eq_1) (And.intro (@goOps Try.prog _ _ class_Read_r23.eq_1) (And.intro (@goDraw Try.prog _ _ class_Read_r24.eq_1) (And.intro (@goOps Try.prog _ _ class_Read_r25.eq_1) (And.intro (@goOps Try.prog _ _ class_Read_r26.eq_1) (And.intro (@goOps Try.prog _ _ class_Read_r27.eq_1) (And.intro (@goOps Try.prog _ _ class_Read_r28.eq_1) (And.intro (@goVc Try.prog _ _ class_Read_l0.eq_1) (And.intro (@goVc Try.prog _ _ class_Read_l1.eq_1) (@goVc Try.prog _ _ class_Read_l2.eq_1))))))))))))))))))))))))))))))))

/-! jvmcore/class.Read.1: function 57: slots [6] -/
def class_Read_1_r0 : List Sop := [
  sw 6 (.assign (.const (.bool false))) 4]
def class_Read_1_r1 : List Sop := [
  sw 6 (.assign (.const (.bool false))) 4]
def class_Read_1 : Cd := .seq (.region class_Read_1_r0) (.seq (.region class_Read_1_r1) (.ret))
theorem class_Read_1_calls {args : List Value} {h : Heap} {R : Value → Heap → Prop} (hl : args.length = 3) (hv : Cd.vc Try.prog class_Read_1 (retQ Try.prog [(6, none)] R) (initEnv args [6]) h) : HCalls Try.prog 57 args.toArray h R :=
  hcalls_of_vc (by kernel_rfl) Try.func57 (cd := class_Read_1) (L := [6]) (by kernel_rfl) (by kernel_rfl) ⟨by rw [hl, Try.ntmps57]; decide, by rw [Try.ntmps57]; decide⟩ hv
def class_Read_1_gos := And.intro (@goVc Try.prog _ _ class_Read_1.eq_1) (And.intro (@goOps Try.prog _ _ class_Read_1_r0.eq_1) (@goOps Try.prog _ _ class_Read_1_r1.eq_1))

end Go.Proofs.Ytohkbpnblkkdgaa.C
