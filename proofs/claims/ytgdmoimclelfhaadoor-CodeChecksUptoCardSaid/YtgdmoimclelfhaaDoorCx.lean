/- The stripped code of some functions of this seat's program, printed by a program; that it is that code is proved by the kernel. No condition. -/

import Derived.Test.YtgdmoimclelfhaaDoorProg

import Derived.Test.YtgdmoimclelfhaaDoorVcJ

set_option maxRecDepth 100000

set_option linter.defProp false

namespace Go.Proofs.YtgdmoimclelfhaaDoor.C

open Go.Vc

/-! jvmcore/code.form: function 14: slots [0, 2, 3, 6, 9, 12, 43, 58, 61, 76, 79, 82, 85, 88, 91, 94, 97] -/
def code_form_r0 : List Sop := [
  sw 2 (.assign (.const (.int .i64 0))) 3]
def code_form_r1 : List Sop := [
  sq 4 (.move (.tmp 0)) 5,
  sq 5 (.binOp .eql 5 (.tmp 4) (.const (.int .u8 16)) 5) 4,
  sw 3 (.assign (.tmp 5)) 4]
def code_form_r2 : List Sop := [
  sw 2 (.assign (.const (.int .i64 2))) 3]
def code_form_r3 : List Sop := [
  sq 7 (.move (.tmp 0)) 5,
  sq 8 (.binOp .eql 5 (.tmp 7) (.const (.int .u8 17)) 5) 4,
  sw 6 (.assign (.tmp 8)) 4]
def code_form_r4 : List Sop := [
  sw 2 (.assign (.const (.int .i64 3))) 3]
def code_form_r5 : List Sop := [
  sq 10 (.move (.tmp 0)) 5,
  sq 11 (.binOp .eql 5 (.tmp 10) (.const (.int .u8 18)) 5) 4,
  sw 9 (.assign (.tmp 11)) 4]
def code_form_r6 : List Sop := [
  sw 2 (.assign (.const (.int .i64 4))) 3]
def code_form_r7 : List Sop := [
  sq 13 (.move (.tmp 0)) 5,
  sq 14 (.binOp .eql 5 (.tmp 13) (.const (.int .u8 19)) 5) 4,
  sq 15 (.move (.tmp 14)) 4,
  ⟨some (16, false), .move (.tmp 0), 5, some (15, false), true⟩,
  ⟨some (17, false), .binOp .eql 5 (.tmp 16) (.const (.int .u8 20)) 5, 4, some (15, false), true⟩,
  sq 18 (.pick (.tmp 15) (.const (.bool true)) (.tmp 17)) 4,
  sq 19 (.move (.tmp 18)) 4,
  ⟨some (20, false), .move (.tmp 0), 5, some (19, false), true⟩,
  ⟨some (21, false), .binOp .geq 5 (.tmp 20) (.const (.int .u8 178)) 5, 4, some (19, false), true⟩,
  ⟨some (22, false), .move (.tmp 21), 4, some (19, false), true⟩,
  ⟨some (23, false), .move (.tmp 0), 5, some (22, true), true⟩,
  ⟨some (24, false), .binOp .leq 5 (.tmp 23) (.const (.int .u8 184)) 5, 4, some (22, true), true⟩,
  ⟨some (25, false), .pick (.tmp 22) (.tmp 24) (.const (.bool false)), 4, some (19, false), true⟩,
  sq 26 (.pick (.tmp 19) (.const (.bool true)) (.tmp 25)) 4,
  sq 27 (.move (.tmp 26)) 4,
  ⟨some (28, false), .move (.tmp 0), 5, some (27, false), true⟩,
  ⟨some (29, false), .binOp .eql 5 (.tmp 28) (.const (.int .u8 187)) 5, 4, some (27, false), true⟩,
  sq 30 (.pick (.tmp 27) (.const (.bool true)) (.tmp 29)) 4,
  sq 31 (.move (.tmp 30)) 4,
  ⟨some (32, false), .move (.tmp 0), 5, some (31, false), true⟩,
  ⟨some (33, false), .binOp .eql 5 (.tmp 32) (.const (.int .u8 189)) 5, 4, some (31, false), true⟩,
  sq 34 (.pick (.tmp 31) (.const (.bool true)) (.tmp 33)) 4,
  sq 35 (.move (.tmp 34)) 4,
  ⟨some (36, false), .move (.tmp 0), 5, some (35, false), true⟩,
  ⟨some (37, false), .binOp .eql 5 (.tmp 36) (.const (.int .u8 192)) 5, 4, some (35, false), true⟩,
  sq 38 (.pick (.tmp 35) (.const (.bool true)) (.tmp 37)) 4,
  sq 39 (.move (.tmp 38)) 4,
  ⟨some (40, false), .move (.tmp 0), 5, some (39, false), true⟩,
  ⟨some (41, false), .binOp .eql 5 (.tmp 40) (.const (.int .u8 193)) 5, 4, some (39, false), true⟩,
  sq 42 (.pick (.tmp 39) (.const (.bool true)) (.tmp 41)) 4,
  sw 12 (.assign (.tmp 42)) 4]
def code_form_r8 : List Sop := [
  sw 2 (.assign (.const (.int .i64 5))) 3]
def code_form_r9 : List Sop := [
  sq 44 (.move (.tmp 0)) 5,
  sq 45 (.binOp .geq 5 (.tmp 44) (.const (.int .u8 21)) 5) 4,
  sq 46 (.move (.tmp 45)) 4,
  ⟨some (47, false), .move (.tmp 0), 5, some (46, true), true⟩,
  ⟨some (48, false), .binOp .leq 5 (.tmp 47) (.const (.int .u8 25)) 5, 4, some (46, true), true⟩,
  sq 49 (.pick (.tmp 46) (.tmp 48) (.const (.bool false))) 4,
  sq 50 (.move (.tmp 49)) 4,
  ⟨some (51, false), .move (.tmp 0), 5, some (50, false), true⟩,
  ⟨some (52, false), .binOp .geq 5 (.tmp 51) (.const (.int .u8 54)) 5, 4, some (50, false), true⟩,
  ⟨some (53, false), .move (.tmp 52), 4, some (50, false), true⟩,
  ⟨some (54, false), .move (.tmp 0), 5, some (53, true), true⟩,
  ⟨some (55, false), .binOp .leq 5 (.tmp 54) (.const (.int .u8 58)) 5, 4, some (53, true), true⟩,
  ⟨some (56, false), .pick (.tmp 53) (.tmp 55) (.const (.bool false)), 4, some (50, false), true⟩,
  sq 57 (.pick (.tmp 50) (.const (.bool true)) (.tmp 56)) 4,
  sw 43 (.assign (.tmp 57)) 4]
def code_form_r10 : List Sop := [
  sw 2 (.assign (.const (.int .i64 6))) 3]
def code_form_r11 : List Sop := [
  sq 59 (.move (.tmp 0)) 5,
  sq 60 (.binOp .eql 5 (.tmp 59) (.const (.int .u8 132)) 5) 4,
  sw 58 (.assign (.tmp 60)) 4]
def code_form_r12 : List Sop := [
  sw 2 (.assign (.const (.int .i64 7))) 3]
def code_form_r13 : List Sop := [
  sq 62 (.move (.tmp 0)) 5,
  sq 63 (.binOp .geq 5 (.tmp 62) (.const (.int .u8 153)) 5) 4,
  sq 64 (.move (.tmp 63)) 4,
  ⟨some (65, false), .move (.tmp 0), 5, some (64, true), true⟩,
  ⟨some (66, false), .binOp .leq 5 (.tmp 65) (.const (.int .u8 167)) 5, 4, some (64, true), true⟩,
  sq 67 (.pick (.tmp 64) (.tmp 66) (.const (.bool false))) 4,
  sq 68 (.move (.tmp 67)) 4,
  ⟨some (69, false), .move (.tmp 0), 5, some (68, false), true⟩,
  ⟨some (70, false), .binOp .eql 5 (.tmp 69) (.const (.int .u8 198)) 5, 4, some (68, false), true⟩,
  sq 71 (.pick (.tmp 68) (.const (.bool true)) (.tmp 70)) 4,
  sq 72 (.move (.tmp 71)) 4,
  ⟨some (73, false), .move (.tmp 0), 5, some (72, false), true⟩,
  ⟨some (74, false), .binOp .eql 5 (.tmp 73) (.const (.int .u8 199)) 5, 4, some (72, false), true⟩,
  sq 75 (.pick (.tmp 72) (.const (.bool true)) (.tmp 74)) 4,
  sw 61 (.assign (.tmp 75)) 4]
def code_form_r14 : List Sop := [
  sw 2 (.assign (.const (.int .i64 8))) 3]
def code_form_r15 : List Sop := [
  sq 77 (.move (.tmp 0)) 5,
  sq 78 (.binOp .eql 5 (.tmp 77) (.const (.int .u8 200)) 5) 4,
  sw 76 (.assign (.tmp 78)) 4]
def code_form_r16 : List Sop := [
  sw 2 (.assign (.const (.int .i64 9))) 3]
def code_form_r17 : List Sop := [
  sq 80 (.move (.tmp 0)) 5,
  sq 81 (.binOp .eql 5 (.tmp 80) (.const (.int .u8 170)) 5) 4,
  sw 79 (.assign (.tmp 81)) 4]
def code_form_r18 : List Sop := [
  sw 2 (.assign (.const (.int .i64 10))) 3]
def code_form_r19 : List Sop := [
  sq 83 (.move (.tmp 0)) 5,
  sq 84 (.binOp .eql 5 (.tmp 83) (.const (.int .u8 171)) 5) 4,
  sw 82 (.assign (.tmp 84)) 4]
def code_form_r20 : List Sop := [
  sw 2 (.assign (.const (.int .i64 11))) 3]
def code_form_r21 : List Sop := [
  sq 86 (.move (.tmp 0)) 5,
  sq 87 (.binOp .eql 5 (.tmp 86) (.const (.int .u8 185)) 5) 4,
  sw 85 (.assign (.tmp 87)) 4]
def code_form_r22 : List Sop := [
  sw 2 (.assign (.const (.int .i64 12))) 3]
def code_form_r23 : List Sop := [
  sq 89 (.move (.tmp 0)) 5,
  sq 90 (.binOp .eql 5 (.tmp 89) (.const (.int .u8 188)) 5) 4,
  sw 88 (.assign (.tmp 90)) 4]
def code_form_r24 : List Sop := [
  sw 2 (.assign (.const (.int .i64 13))) 3]
def code_form_r25 : List Sop := [
  sq 92 (.move (.tmp 0)) 5,
  sq 93 (.binOp .eql 5 (.tmp 92) (.const (.int .u8 197)) 5) 4,
  sw 91 (.assign (.tmp 93)) 4]
def code_form_r26 : List Sop := [
  sw 2 (.assign (.const (.int .i64 14))) 3]
def code_form_r27 : List Sop := [
  sq 95 (.move (.tmp 0)) 5,
  sq 96 (.binOp .eql 5 (.tmp 95) (.const (.int .u8 196)) 5) 4,
  sw 94 (.assign (.tmp 96)) 4]
def code_form_r28 : List Sop := [
  sw 2 (.assign (.const (.int .i64 15))) 3]
def code_form_r29 : List Sop := [
  sq 98 (.move (.tmp 0)) 5,
  sq 99 (.binOp .eql 5 (.tmp 98) (.const (.int .u8 168)) 5) 4,
  sq 100 (.move (.tmp 99)) 4,
  ⟨some (101, false), .move (.tmp 0), 5, some (100, false), true⟩,
  ⟨some (102, false), .binOp .eql 5 (.tmp 101) (.const (.int .u8 169)) 5, 4, some (100, false), true⟩,
  sq 103 (.pick (.tmp 100) (.const (.bool true)) (.tmp 102)) 4,
  sq 104 (.move (.tmp 103)) 4,
  ⟨some (105, false), .move (.tmp 0), 5, some (104, false), true⟩,
  ⟨some (106, false), .binOp .eql 5 (.tmp 105) (.const (.int .u8 186)) 5, 4, some (104, false), true⟩,
  sq 107 (.pick (.tmp 104) (.const (.bool true)) (.tmp 106)) 4,
  sq 108 (.move (.tmp 107)) 4,
  ⟨some (109, false), .move (.tmp 0), 5, some (108, false), true⟩,
  ⟨some (110, false), .binOp .gtr 5 (.tmp 109) (.const (.int .u8 200)) 5, 4, some (108, false), true⟩,
  sq 111 (.pick (.tmp 108) (.const (.bool true)) (.tmp 110)) 4,
  sw 97 (.assign (.tmp 111)) 4]
def code_form_r30 : List Sop := [
  sw 2 (.assign (.const (.int .i64 1))) 3]
def code_form_r31 : List Sop := [
  sw 2 (.assign (.const (.int .i64 0))) 3]
def code_form : Cd := .seq (.region code_form_r0) (.seq (.block 0 (.seq (.region code_form_r1) (.cond (.tmp 3) (.seq (.region code_form_r2) (.ret)) (.seq (.region code_form_r3) (.cond (.tmp 6) (.seq (.region code_form_r4) (.ret)) (.seq (.region code_form_r5) (.cond (.tmp 9) (.seq (.region code_form_r6) (.ret)) (.seq (.region code_form_r7) (.cond (.tmp 12) (.seq (.region code_form_r8) (.ret)) (.seq (.region code_form_r9) (.cond (.tmp 43) (.seq (.region code_form_r10) (.ret)) (.seq (.region code_form_r11) (.cond (.tmp 58) (.seq (.region code_form_r12) (.ret)) (.seq (.region code_form_r13) (.cond (.tmp 61) (.seq (.region code_form_r14) (.ret)) (.seq (.region code_form_r15) (.cond (.tmp 76) (.seq (.region code_form_r16) (.ret)) (.seq (.region code_form_r17) (.cond (.tmp 79) (.seq (.region code_form_r18) (.ret)) (.seq (.region code_form_r19) (.cond (.tmp 82) (.seq (.region code_form_r20) (.ret)) (.seq (.region code_form_r21) (.cond (.tmp 85) (.seq (.region code_form_r22) (.ret)) (.seq (.region code_form_r23) (.cond (.tmp 88) (.seq (.region code_form_r24) (.ret)) (.seq (.region code_form_r25) (.cond (.tmp 91) (.seq (.region code_form_r26) (.ret)) (.seq (.region code_form_r27) (.cond (.tmp 94) (.seq (.region code_form_r28) (.ret)) (.seq (.region code_form_r29) (.cond (.tmp 97) (.seq (.region code_form_r30) (.ret)) (.skip)))))))))))))))))))))))))))))))) (.seq (.region code_form_r31) (.ret)))
theorem code_form_calls {args : List Value} {h : Heap} {R : Value → Heap → Prop} (hl : args.length = 1) (hv : Cd.vc Tryd.prog code_form (retQ Tryd.prog [(2, none)] R) (initEnv args [0, 2, 3, 6, 9, 12, 43, 58, 61, 76, 79, 82, 85, 88, 91, 94, 97]) h) : HCalls Tryd.prog 14 args.toArray h R :=
  hcalls_of_vc (by kernel_rfl) Tryd.func14 (cd := code_form) (L := [0, 2, 3, 6, 9, 12, 43, 58, 61, 76, 79, 82, 85, 88, 91, 94, 97]) (by kernel_rfl) (by kernel_rfl) ⟨by rw [hl, Tryd.ntmps14]; decide, by rw [Tryd.ntmps14]; decide⟩ hv
def code_form_gos := And.intro (@goVc Tryd.prog _ _ code_form.eq_1) (And.intro (@goOps Tryd.prog _ _ code_form_r0.eq_1) (And.intro (@goOps Tryd.prog _ _ code_form_r1.eq_1) (And.intro (@goOps Tryd.prog _ _ code_form_r2.eq_1) (And.intro (@goOps Tryd.prog _ _ code_form_r3.eq_1) (And.intro (@goOps Tryd.prog _ _ code_form_r4.eq_1) (And.intro (@goOps Tryd.prog _ _ code_form_r5.eq_1) (And.intro (@goOps Tryd.prog _ _ code_form_r6.eq_1) (And.intro (@goOps Tryd.prog _ _ code_form_r7.eq_1) (And.intro (@goOps Tryd.prog _ _ code_form_r8.eq_1) (And.intro (@goOps Tryd.prog _ _ code_form_r9.eq_1) (And.intro (@goOps Tryd.prog _ _ code_form_r10.eq_1) (And.intro (@goOps Tryd.prog _ _ code_form_r11.eq_1) (And.intro (@goOps Tryd.prog _ _ code_form_r12.eq_1) (And.intro (@goOps Tryd.prog _ _ code_form_r13.eq_1) (And.intro (@goOps Tryd.prog _ _ code_form_r14.eq_1) (And.intro (@goOps Tryd.prog _ _ code_form_r15.eq_1) (And.intro (@goOps Tryd.prog _ _ code_form_r16.eq_1) (And.intro (@goOps Tryd.prog _ _ code_form_r17.eq_1) (And.intro (@goOps Tryd.prog _ _ code_form_r18.eq_1) (And.intro (@goOps Tryd.prog _ _ code_form_r19.eq_1) (And.intro (@goOps Tryd.prog _ _ code_form_r20.eq_1) (And.intro (@goOps Tryd.prog _ _ code_form_r21.eq_1) (And.intro (@goOps Tryd.prog _ _ code_form_r22.eq_1) (And.intro (@goOps Tryd.prog _ _ code_form_r23.eq_1) (And.intro (@goOps Tryd.prog _ _ code_form_r24.eq_1) (And.intro (@goOps Tryd.prog _ _ code_form_r25.eq_1) (And.intro (@goOps Tryd.prog _ _ code_form_r26.eq_1) (And.intro (@goOps Tryd.prog _ _ code_form_r27.eq_1) (And.intro (@goOps Tryd.prog _ _ code_form_r28.eq_1) (And.intro (@goOps Tryd.prog _ _ code_form_r29.eq_1) (And.intro (@goOps Tryd.prog _ _ code_form_r30.eq_1) (@goOps Tryd.prog _ _ code_form_r31.eq_1))))))))))))))))))))))))))))))))

/-! jvmcore/jvmcoreref2.form: function 23: slots [0, 2, 4] -/
def ref2_form_r0 : List Sop := [
  sw 2 (.assign (.const (.string { data := #[] }))) 9]
def ref2_form_r1 : List Sop := [
  sq 3 (.move (.tmp 0)) 3,
  sw 4 (.binOp .geq 3 (.tmp 3) (.const (.int .i64 201)) 3) 4]
def ref2_form_r2 : List Sop := [
  sw 2 (.assign (.const (.string { data := #[120] }))) 9]
def ref2_form_r3 : List Sop := [
  sq 5 (.move (.tmp 0)) 3,
  sq 6 (.move (.tmp 0)) 3,
  sq 7 (.binOp .add 3 (.tmp 6) (.const (.int .i64 1)) 3) 3,
  sq 8 (.slice 9 (.const (.string { data := List.toArray (List.append (List.append [46, 46, 46, 46, 46, 46, 46, 46, 46, 46, 46, 46, 46, 46, 46, 46, 98, 115, 99, 105, 105, 108, 108, 108, 108, 108, 46, 46, 46, 46, 46, 46, 46, 46, 46, 46, 46, 46, 46, 46, 46, 46, 46, 46, 46, 46, 46, 46, 46, 46] [46, 46, 46, 46, 108, 108, 108, 108, 108, 46, 46, 46, 46, 46, 46, 46, 46, 46, 46, 46, 46, 46, 46, 46, 46, 46, 46, 46, 46, 46, 46, 46, 46, 46, 46, 46, 46, 46, 46, 46, 46, 46, 46, 46, 46, 46, 46, 46, 46, 46]) (List.append [46, 46, 46, 46, 46, 46, 46, 46, 46, 46, 46, 46, 46, 46, 46, 46, 46, 46, 46, 46, 46, 46, 46, 46, 46, 46, 46, 46, 46, 46, 46, 46, 110, 46, 46, 46, 46, 46, 46, 46, 46, 46, 46, 46, 46, 46, 46, 46, 46, 46] [46, 46, 46, 106, 106, 106, 106, 106, 106, 106, 106, 106, 106, 106, 106, 106, 106, 106, 120, 120, 116, 107, 46, 46, 46, 46, 46, 46, 105, 105, 105, 105, 105, 105, 105, 102, 120, 105, 97, 105, 46, 46, 105, 105, 46, 46, 119, 109, 106, 106, 74])) })) (some (.tmp 5)) (some (.tmp 7)) none) 9,
  sw 2 (.assign (.tmp 8)) 9]
def ref2_form : Cd := .seq (.region ref2_form_r0) (.seq (.seq (.region ref2_form_r1) (.cond (.tmp 4) (.seq (.region ref2_form_r2) (.ret)) (.skip))) (.seq (.region ref2_form_r3) (.ret)))
theorem ref2_form_calls {args : List Value} {h : Heap} {R : Value → Heap → Prop} (hl : args.length = 1) (hv : Cd.vc Tryd.prog ref2_form (retQ Tryd.prog [(2, none)] R) (initEnv args [0, 2, 4]) h) : HCalls Tryd.prog 23 args.toArray h R :=
  hcalls_of_vc (by kernel_rfl) Tryd.func23 (cd := ref2_form) (L := [0, 2, 4]) (by kernel_rfl) (by kernel_rfl) ⟨by rw [hl, Tryd.ntmps23]; decide, by rw [Tryd.ntmps23]; decide⟩ hv
def ref2_form_gos := And.intro (@goVc Tryd.prog _ _ ref2_form.eq_1) (And.intro (@goOps Tryd.prog _ _ ref2_form_r0.eq_1) (And.intro (@goOps Tryd.prog _ _ ref2_form_r1.eq_1) (And.intro (@goOps Tryd.prog _ _ ref2_form_r2.eq_1) (@goOps Tryd.prog _ _ ref2_form_r3.eq_1))))

end Go.Proofs.YtgdmoimclelfhaaDoor.C
