/- The stripped code of some functions of this seat's program, printed by a program; that it is that code is proved by the kernel. No condition. -/

import Derived.Test.YtohkbpnblkkdgaaProg

import Derived.Test.YtohkbpnblkkdgaaVcJ

set_option maxRecDepth 100000

set_option linter.defProp false

namespace Go.Proofs.Ytohkbpnblkkdgaa.C

open Go.Vc

/-! jvmcore/pool.Units: function 73: slots [0, 1, 2, 3, 4, 5, 6, 7, 8, 9, 10, 11, 12, 13, 14, 15, 20, 24, 38, 64, 71, 107] -/
def pool_Units_r0 : List Sop := [
  sa 1 (.box 9 (.tmp 0)) 0,
  sw 2 (.assign (.const (.slice none 0 0))) 39,
  sw 3 (.assign (.const (.bool false))) 4]
def pool_Units_r1 : List Sop := [
  sw 4 (.assign (.const (.slice none 0 0))) 39]
def pool_Units_r2 : List Sop := [
  sq 16 (.makeFunc (.func 90) #[] #[.tmp 1]) 145,
  sw 5 (.assign (.tmp 16)) 145]
def pool_Units_r3 : List Sop := [
  sw 6 (.assign (.const (.int .i64 0))) 3]
def pool_Units_r4 : List Sop := [
  sq 17 (.move (.tmp 6)) 3,
  sq 18 (.load 9 (.tmp 1)) 9,
  sq 19 (.call { callee := .builtin .len, args := #[.tmp 18], argTypes := #[9] }) 3,
  sw 20 (.binOp .lss 3 (.tmp 17) (.tmp 19) 3) 4]
def pool_Units_r5 : List Sop := [
  sq 21 (.load 9 (.tmp 1)) 9,
  sq 22 (.move (.tmp 6)) 3,
  sq 23 (.index 9 (.tmp 21) (.tmp 22)) 5,
  sw 7 (.assign (.tmp 23)) 5]
def pool_Units_r6 : List Sop := [
  sq 25 (.move (.tmp 7)) 5,
  sq 26 (.binOp .gtr 5 (.tmp 25) (.const (.int .u8 0)) 5) 4,
  sq 27 (.move (.tmp 26)) 4,
  ⟨some (28, false), .move (.tmp 7), 5, some (27, true), true⟩,
  ⟨some (29, false), .binOp .lss 5 (.tmp 28) (.const (.int .u8 128)) 5, 4, some (27, true), true⟩,
  sq 30 (.pick (.tmp 27) (.tmp 29) (.const (.bool false))) 4,
  sw 24 (.assign (.tmp 30)) 4]
def pool_Units_r7 : List Sop := [
  sq 31 (.move (.tmp 4)) 39,
  sq 32 (.move (.tmp 7)) 5,
  sq 33 (.convert 5 38 (.tmp 32)) 38,
  sc 34 (.buildSlice 39 1 #[(0, .tmp 33)]) 39,
  sc 35 (.call { callee := .builtin .append, args := #[.tmp 31, .tmp 34], argTypes := #[39, 39] }) 39,
  sw 4 (.assign (.tmp 35)) 39]
def pool_Units_r8 : List Sop := [
  sq 36 (.move (.tmp 6)) 3,
  sq 37 (.binOp .add 3 (.tmp 36) (.const (.int .i64 1)) 3) 3,
  sw 6 (.assign (.tmp 37)) 3]
def pool_Units_r9 : List Sop := [
  sq 39 (.move (.tmp 7)) 5,
  sq 40 (.binOp .and 5 (.tmp 39) (.const (.int .u8 224)) 5) 5,
  sq 41 (.binOp .eql 5 (.tmp 40) (.const (.int .u8 192)) 5) 4,
  sw 38 (.assign (.tmp 41)) 4]
def pool_Units_r10 : List Sop := [
  sq 43 (.move (.tmp 5)) 145,
  sq 44 (.move (.tmp 6)) 3,
  sq 45 (.binOp .add 3 (.tmp 44) (.const (.int .i64 1)) 3) 3,
  sc 46 (.call { callee := .value (.tmp 43), args := #[.tmp 45], argTypes := #[3] }) 146,
  sq 42 (.move (.tmp 46)) 146,
  sq 47 (.extract (.tmp 42) 0) 38,
  sq 48 (.extract (.tmp 42) 1) 4,
  sw 8 (.assign (.tmp 47)) 38,
  sw 9 (.assign (.tmp 48)) 4]
def pool_Units_r11 : List Sop := [
  sq 49 (.move (.tmp 7)) 5,
  sq 50 (.binOp .and 5 (.tmp 49) (.const (.int .u8 31)) 5) 5,
  sq 51 (.convert 5 38 (.tmp 50)) 38,
  sq 52 (.binOp .shl 38 (.tmp 51) (.const (.int .u64 6)) 121) 38,
  sq 53 (.move (.tmp 8)) 38,
  sq 54 (.binOp .or 38 (.tmp 52) (.tmp 53) 38) 38,
  sw 10 (.assign (.tmp 54)) 38]
def pool_Units_r12 : List Sop := [
  sq 55 (.move (.tmp 9)) 4,
  sq 56 (.unOp .not 4 (.tmp 55)) 4,
  sq 57 (.move (.tmp 56)) 4,
  ⟨some (58, false), .move (.tmp 10), 38, some (57, false), true⟩,
  ⟨some (59, false), .binOp .lss 38 (.tmp 58) (.const (.int .u16 128)) 38, 4, some (57, false), true⟩,
  ⟨some (60, false), .move (.tmp 59), 4, some (57, false), true⟩,
  ⟨some (61, false), .move (.tmp 10), 38, some (60, true), true⟩,
  ⟨some (62, false), .binOp .neq 38 (.tmp 61) (.const (.int .u16 0)) 38, 4, some (60, true), true⟩,
  ⟨some (63, false), .pick (.tmp 60) (.tmp 62) (.const (.bool false)), 4, some (57, false), true⟩,
  sw 64 (.pick (.tmp 57) (.const (.bool true)) (.tmp 63)) 4]
def pool_Units_r13 : List Sop := [
  sw 2 (.assign (.const (.slice none 0 0))) 39,
  sw 3 (.assign (.const (.bool false))) 4]
def pool_Units_r14 : List Sop := [
  sq 65 (.move (.tmp 4)) 39,
  sq 66 (.move (.tmp 10)) 38,
  sc 67 (.buildSlice 39 1 #[(0, .tmp 66)]) 39,
  sc 68 (.call { callee := .builtin .append, args := #[.tmp 65, .tmp 67], argTypes := #[39, 39] }) 39,
  sw 4 (.assign (.tmp 68)) 39]
def pool_Units_r15 : List Sop := [
  sq 69 (.move (.tmp 6)) 3,
  sq 70 (.binOp .add 3 (.tmp 69) (.const (.int .i64 2)) 3) 3,
  sw 6 (.assign (.tmp 70)) 3]
def pool_Units_r16 : List Sop := [
  sq 72 (.move (.tmp 7)) 5,
  sq 73 (.binOp .and 5 (.tmp 72) (.const (.int .u8 240)) 5) 5,
  sq 74 (.binOp .eql 5 (.tmp 73) (.const (.int .u8 224)) 5) 4,
  sw 71 (.assign (.tmp 74)) 4]
def pool_Units_r17 : List Sop := [
  sq 76 (.move (.tmp 5)) 145,
  sq 77 (.move (.tmp 6)) 3,
  sq 78 (.binOp .add 3 (.tmp 77) (.const (.int .i64 1)) 3) 3,
  sc 79 (.call { callee := .value (.tmp 76), args := #[.tmp 78], argTypes := #[3] }) 146,
  sq 75 (.move (.tmp 79)) 146,
  sq 80 (.extract (.tmp 75) 0) 38,
  sq 81 (.extract (.tmp 75) 1) 4,
  sw 11 (.assign (.tmp 80)) 38,
  sw 12 (.assign (.tmp 81)) 4]
def pool_Units_r18 : List Sop := [
  sq 83 (.move (.tmp 5)) 145,
  sq 84 (.move (.tmp 6)) 3,
  sq 85 (.binOp .add 3 (.tmp 84) (.const (.int .i64 2)) 3) 3,
  sc 86 (.call { callee := .value (.tmp 83), args := #[.tmp 85], argTypes := #[3] }) 146,
  sq 82 (.move (.tmp 86)) 146,
  sq 87 (.extract (.tmp 82) 0) 38,
  sq 88 (.extract (.tmp 82) 1) 4,
  sw 13 (.assign (.tmp 87)) 38,
  sw 14 (.assign (.tmp 88)) 4]
def pool_Units_r19 : List Sop := [
  sq 89 (.move (.tmp 7)) 5,
  sq 90 (.binOp .and 5 (.tmp 89) (.const (.int .u8 15)) 5) 5,
  sq 91 (.convert 5 38 (.tmp 90)) 38,
  sq 92 (.binOp .shl 38 (.tmp 91) (.const (.int .u64 12)) 121) 38,
  sq 93 (.move (.tmp 11)) 38,
  sq 94 (.binOp .shl 38 (.tmp 93) (.const (.int .u64 6)) 121) 38,
  sq 95 (.binOp .or 38 (.tmp 92) (.tmp 94) 38) 38,
  sq 96 (.move (.tmp 13)) 38,
  sq 97 (.binOp .or 38 (.tmp 95) (.tmp 96) 38) 38,
  sw 15 (.assign (.tmp 97)) 38]
def pool_Units_r20 : List Sop := [
  sq 98 (.move (.tmp 12)) 4,
  sq 99 (.unOp .not 4 (.tmp 98)) 4,
  sq 100 (.move (.tmp 99)) 4,
  ⟨some (101, false), .move (.tmp 14), 4, some (100, false), true⟩,
  ⟨some (102, false), .unOp .not 4 (.tmp 101), 4, some (100, false), true⟩,
  sq 103 (.pick (.tmp 100) (.const (.bool true)) (.tmp 102)) 4,
  sq 104 (.move (.tmp 103)) 4,
  ⟨some (105, false), .move (.tmp 15), 38, some (104, false), true⟩,
  ⟨some (106, false), .binOp .lss 38 (.tmp 105) (.const (.int .u16 2048)) 38, 4, some (104, false), true⟩,
  sw 107 (.pick (.tmp 104) (.const (.bool true)) (.tmp 106)) 4]
def pool_Units_r21 : List Sop := [
  sw 2 (.assign (.const (.slice none 0 0))) 39,
  sw 3 (.assign (.const (.bool false))) 4]
def pool_Units_r22 : List Sop := [
  sq 108 (.move (.tmp 4)) 39,
  sq 109 (.move (.tmp 15)) 38,
  sc 110 (.buildSlice 39 1 #[(0, .tmp 109)]) 39,
  sc 111 (.call { callee := .builtin .append, args := #[.tmp 108, .tmp 110], argTypes := #[39, 39] }) 39,
  sw 4 (.assign (.tmp 111)) 39]
def pool_Units_r23 : List Sop := [
  sq 112 (.move (.tmp 6)) 3,
  sq 113 (.binOp .add 3 (.tmp 112) (.const (.int .i64 3)) 3) 3,
  sw 6 (.assign (.tmp 113)) 3]
def pool_Units_r24 : List Sop := [
  sw 2 (.assign (.const (.slice none 0 0))) 39,
  sw 3 (.assign (.const (.bool false))) 4]
def pool_Units_r25 : List Sop := [
  sq 114 (.move (.tmp 4)) 39,
  sw 2 (.assign (.tmp 114)) 39,
  sw 3 (.assign (.const (.bool true))) 4]
def pool_Units_l0 : Cd := .seq (.seq (.region pool_Units_r4) (.cond (.tmp 20) (.skip) (.exit 0))) (.block 1 (.seq (.region pool_Units_r5) (.block 2 (.seq (.region pool_Units_r6) (.cond (.tmp 24) (.seq (.region pool_Units_r7) (.region pool_Units_r8)) (.seq (.region pool_Units_r9) (.cond (.tmp 38) (.seq (.region pool_Units_r10) (.seq (.region pool_Units_r11) (.seq (.seq (.region pool_Units_r12) (.cond (.tmp 64) (.seq (.region pool_Units_r13) (.ret)) (.skip))) (.seq (.region pool_Units_r14) (.region pool_Units_r15))))) (.seq (.region pool_Units_r16) (.cond (.tmp 71) (.seq (.region pool_Units_r17) (.seq (.region pool_Units_r18) (.seq (.region pool_Units_r19) (.seq (.seq (.region pool_Units_r20) (.cond (.tmp 107) (.seq (.region pool_Units_r21) (.ret)) (.skip))) (.seq (.region pool_Units_r22) (.region pool_Units_r23)))))) (.seq (.region pool_Units_r24) (.ret)))))))))))
def pool_Units : Cd := .seq (.region pool_Units_r0) (.seq (.region pool_Units_r1) (.seq (.region pool_Units_r2) (.seq (.seq (.region pool_Units_r3) (.block 0 (.loop pool_Units_l0))) (.seq (.region pool_Units_r25) (.ret)))))
theorem pool_Units_calls {args : List Value} {h : Heap} {R : Value → Heap → Prop} (hl : args.length = 1) (hv : Cd.vc Try.prog pool_Units (retQ Try.prog [(2, none), (3, none)] R) (initEnv args [0, 1, 2, 3, 4, 5, 6, 7, 8, 9, 10, 11, 12, 13, 14, 15, 20, 24, 38, 64, 71, 107]) h) : HCalls Try.prog 73 args.toArray h R :=
  hcalls_of_vc (by kernel_rfl) Try.func73 (cd := pool_Units) (L := [0, 1, 2, 3, 4, 5, 6, 7, 8, 9, 10, 11, 12, 13, 14, 15, 20, 24, 38, 64, 71, 107]) (by kernel_rfl) (by kernel_rfl) ⟨by rw [hl, Try.ntmps73]; decide, by rw [Try.ntmps73]; decide⟩ hv
def pool_Units_gos := And.intro (@goVc Try.prog _ _ pool_Units.eq_1) (And.intro (@goOps Try.prog _ _ pool_Units_r0.eq_1) (And.intro (@goOps Try.prog _ _ pool_Units_r1.eq_1) (And.intro (@goOps Try.prog _ _ pool_Units_r2.eq_1) (And.intro (@goOps Try.prog _ _ pool_Units_r3.eq_1) (And.intro (@goOps Try.prog _ _ pool_Units_r4.eq_1) (And.intro (@goOps Try.prog _ _ pool_Units_r5.eq_1) (And.intro (@goOps Try.prog _ _ pool_Units_r6.eq_1) (And.intro (@goOps Try.prog _ _ pool_Units_r7.eq_1) (And.intro (@goOps Try.prog _ _ pool_Units_r8.eq_1) (And.intro (@goOps Try.prog _ _ pool_Units_r9.eq_1) (And.intro (@goOps Try.prog _ _ pool_Units_r10.eq_1) (And.intro (@goOps Try.prog _ _ pool_Units_r11.eq_1) (And.intro (@goOps Try.prog _ _ pool_Units_r12.eq_1) (And.intro (@goOps Try.prog _ _ pool_Units_r13.eq_1) (And.intro (@goOps Try.prog _ _ pool_Units_r14.eq_1) (And.intro (@goOps Try.prog _ _ pool_Units_r15.eq_1) (And.intro (@goOps Try.prog _ _ pool_Units_r16.eq_1) (And.intro (@goOps Try.prog _ _ pool_Units_r17.eq_1) (And.intro (@goOps Try.prog _ _ pool_Units_r18.eq_1) (And.intro (@goOps Try.prog _ _ pool_Units_r19.eq_1) (And.intro (@goOps Try.prog _ _ pool_Units_r20.eq_1) (And.intro (@goOps Try.prog _ _ pool_Units_r21.eq_1) (And.intro (@goOps Try.prog _ _ pool_Units_r22.eq_1) (And.intro (@goOps Try.prog _ _ pool_Units_r23.eq_1) (And.intro (@goOps Try.prog _ _ pool_Units_r24.eq_1) (And.intro (@goOps Try.prog _ _ pool_Units_r25.eq_1) (@goVc Try.prog _ _ pool_Units_l0.eq_1)))))))))))))))))))))))))))

/-! jvmcore/pool.Units.1: function 90: slots [0, 1, 3, 4, 15] -/
def pool_Units_1_r0 : List Sop := [
  sw 3 (.assign (.const (.int .u16 0))) 38,
  sw 4 (.assign (.const (.bool false))) 4]
def pool_Units_1_r1 : List Sop := [
  sq 5 (.move (.tmp 0)) 3,
  sq 6 (.load 9 (.tmp 1)) 9,
  sq 7 (.call { callee := .builtin .len, args := #[.tmp 6], argTypes := #[9] }) 3,
  sq 8 (.binOp .geq 3 (.tmp 5) (.tmp 7) 3) 4,
  sq 9 (.move (.tmp 8)) 4,
  ⟨some (10, false), .load 9 (.tmp 1), 9, some (9, false), true⟩,
  ⟨some (11, false), .move (.tmp 0), 3, some (9, false), true⟩,
  ⟨some (12, false), .index 9 (.tmp 10) (.tmp 11), 5, some (9, false), true⟩,
  ⟨some (13, false), .binOp .and 5 (.tmp 12) (.const (.int .u8 192)) 5, 5, some (9, false), true⟩,
  ⟨some (14, false), .binOp .neq 5 (.tmp 13) (.const (.int .u8 128)) 5, 4, some (9, false), true⟩,
  sw 15 (.pick (.tmp 9) (.const (.bool true)) (.tmp 14)) 4]
def pool_Units_1_r2 : List Sop := [
  sw 3 (.assign (.const (.int .u16 0))) 38,
  sw 4 (.assign (.const (.bool false))) 4]
def pool_Units_1_r3 : List Sop := [
  sq 16 (.load 9 (.tmp 1)) 9,
  sq 17 (.move (.tmp 0)) 3,
  sq 18 (.index 9 (.tmp 16) (.tmp 17)) 5,
  sq 19 (.binOp .and 5 (.tmp 18) (.const (.int .u8 63)) 5) 5,
  sq 20 (.convert 5 38 (.tmp 19)) 38,
  sw 3 (.assign (.tmp 20)) 38,
  sw 4 (.assign (.const (.bool true))) 4]
def pool_Units_1 : Cd := .seq (.region pool_Units_1_r0) (.seq (.seq (.region pool_Units_1_r1) (.cond (.tmp 15) (.seq (.region pool_Units_1_r2) (.ret)) (.skip))) (.seq (.region pool_Units_1_r3) (.ret)))
theorem pool_Units_1_calls {args : List Value} {h : Heap} {R : Value → Heap → Prop} (hl : args.length = 2) (hv : Cd.vc Try.prog pool_Units_1 (retQ Try.prog [(3, none), (4, none)] R) (initEnv args [0, 1, 3, 4, 15]) h) : HCalls Try.prog 90 args.toArray h R :=
  hcalls_of_vc (by kernel_rfl) Try.func90 (cd := pool_Units_1) (L := [0, 1, 3, 4, 15]) (by kernel_rfl) (by kernel_rfl) ⟨by rw [hl, Try.ntmps90]; decide, by rw [Try.ntmps90]; decide⟩ hv
def pool_Units_1_gos := And.intro (@goVc Try.prog _ _ pool_Units_1.eq_1) (And.intro (@goOps Try.prog _ _ pool_Units_1_r0.eq_1) (And.intro (@goOps Try.prog _ _ pool_Units_1_r1.eq_1) (And.intro (@goOps Try.prog _ _ pool_Units_1_r2.eq_1) (@goOps Try.prog _ _ pool_Units_1_r3.eq_1))))

/-! jvmcore/jvmcoreref1.unit: function 91: slots [0, 2, 8, 14] -/
def ref1_unit_r0 : List Sop := [
  sw 2 (.assign (.const (.string { data := #[] }))) 9]
def ref1_unit_r1 : List Sop := [
  sq 3 (.move (.tmp 0)) 3,
  sq 4 (.binOp .gtr 3 (.tmp 3) (.const (.int .i64 0)) 3) 4,
  sq 5 (.move (.tmp 4)) 4,
  ⟨some (6, false), .move (.tmp 0), 3, some (5, true), true⟩,
  ⟨some (7, false), .binOp .lss 3 (.tmp 6) (.const (.int .i64 128)) 3, 4, some (5, true), true⟩,
  sw 8 (.pick (.tmp 5) (.tmp 7) (.const (.bool false))) 4]
def ref1_unit_r2 : List Sop := [
  sq 9 (.move (.tmp 0)) 3,
  sq 10 (.convert 3 5 (.tmp 9)) 5,
  sc 11 (.buildSlice 69 1 #[(0, .tmp 10)]) 69,
  sq 12 (.convert 69 9 (.tmp 11)) 9,
  sw 2 (.assign (.tmp 12)) 9]
def ref1_unit_r3 : List Sop := [
  sq 13 (.move (.tmp 0)) 3,
  sw 14 (.binOp .lss 3 (.tmp 13) (.const (.int .i64 2048)) 3) 4]
def ref1_unit_r4 : List Sop := [
  sq 15 (.move (.tmp 0)) 3,
  sq 16 (.binOp .quo 3 (.tmp 15) (.const (.int .i64 64)) 3) 3,
  sq 17 (.binOp .add 3 (.const (.int .i64 192)) (.tmp 16) 3) 3,
  sq 18 (.convert 3 5 (.tmp 17)) 5,
  sq 19 (.move (.tmp 0)) 3,
  sq 20 (.binOp .rem 3 (.tmp 19) (.const (.int .i64 64)) 3) 3,
  sq 21 (.binOp .add 3 (.const (.int .i64 128)) (.tmp 20) 3) 3,
  sq 22 (.convert 3 5 (.tmp 21)) 5,
  sc 23 (.buildSlice 69 2 #[(0, .tmp 18), (1, .tmp 22)]) 69,
  sq 24 (.convert 69 9 (.tmp 23)) 9,
  sw 2 (.assign (.tmp 24)) 9]
def ref1_unit_r5 : List Sop := [
  sq 25 (.move (.tmp 0)) 3,
  sq 26 (.binOp .quo 3 (.tmp 25) (.const (.int .i64 4096)) 3) 3,
  sq 27 (.binOp .add 3 (.const (.int .i64 224)) (.tmp 26) 3) 3,
  sq 28 (.convert 3 5 (.tmp 27)) 5,
  sq 29 (.move (.tmp 0)) 3,
  sq 30 (.binOp .quo 3 (.tmp 29) (.const (.int .i64 64)) 3) 3,
  sq 31 (.binOp .rem 3 (.tmp 30) (.const (.int .i64 64)) 3) 3,
  sq 32 (.binOp .add 3 (.const (.int .i64 128)) (.tmp 31) 3) 3,
  sq 33 (.convert 3 5 (.tmp 32)) 5,
  sq 34 (.move (.tmp 0)) 3,
  sq 35 (.binOp .rem 3 (.tmp 34) (.const (.int .i64 64)) 3) 3,
  sq 36 (.binOp .add 3 (.const (.int .i64 128)) (.tmp 35) 3) 3,
  sq 37 (.convert 3 5 (.tmp 36)) 5,
  sc 38 (.buildSlice 69 3 #[(0, .tmp 28), (1, .tmp 33), (2, .tmp 37)]) 69,
  sq 39 (.convert 69 9 (.tmp 38)) 9,
  sw 2 (.assign (.tmp 39)) 9]
def ref1_unit : Cd := .seq (.region ref1_unit_r0) (.seq (.seq (.region ref1_unit_r1) (.cond (.tmp 8) (.seq (.region ref1_unit_r2) (.ret)) (.skip))) (.seq (.seq (.region ref1_unit_r3) (.cond (.tmp 14) (.seq (.region ref1_unit_r4) (.ret)) (.skip))) (.seq (.region ref1_unit_r5) (.ret))))
theorem ref1_unit_calls {args : List Value} {h : Heap} {R : Value → Heap → Prop} (hl : args.length = 1) (hv : Cd.vc Try.prog ref1_unit (retQ Try.prog [(2, none)] R) (initEnv args [0, 2, 8, 14]) h) : HCalls Try.prog 91 args.toArray h R :=
  hcalls_of_vc (by kernel_rfl) Try.func91 (cd := ref1_unit) (L := [0, 2, 8, 14]) (by kernel_rfl) (by kernel_rfl) ⟨by rw [hl, Try.ntmps91]; decide, by rw [Try.ntmps91]; decide⟩ hv
def ref1_unit_gos := And.intro (@goVc Try.prog _ _ ref1_unit.eq_1) (And.intro (@goOps Try.prog _ _ ref1_unit_r0.eq_1) (And.intro (@goOps Try.prog _ _ ref1_unit_r1.eq_1) (And.intro (@goOps Try.prog _ _ ref1_unit_r2.eq_1) (And.intro (@goOps Try.prog _ _ ref1_unit_r3.eq_1) (And.intro (@goOps Try.prog _ _ ref1_unit_r4.eq_1) (@goOps Try.prog _ _ ref1_unit_r5.eq_1))))))

/-! jvmcore/jvmcoreref1.Units: function 77: slots [0, 2, 3, 4, 5, 6, 7, 9, 19, 40, 55] -/
def ref1_Units_r0 : List Sop := [
  sw 2 (.assign (.const (.slice none 0 0))) 134,
  sw 3 (.assign (.const (.bool false))) 4]
def ref1_Units_r1 : List Sop := [
  sw 4 (.assign (.const (.slice none 0 0))) 134]
def ref1_Units_r2 : List Sop := [
  sq 8 (.move (.tmp 0)) 9,
  sw 9 (.binOp .neq 9 (.tmp 8) (.const (.string { data := #[] })) 9) 4]
def ref1_Units_r3 : List Sop := [
  sw 5 (.assign (.const (.int .i64 0))) 3]
def ref1_Units_r4 : List Sop := [
  sw 6 (.assign (.const (.int .i64 1))) 3]
def ref1_Units_r5 : List Sop := [
  sq 10 (.move (.tmp 0)) 9,
  sq 11 (.index 9 (.tmp 10) (.const (.int .i64 0))) 5,
  sq 12 (.convert 5 3 (.tmp 11)) 3,
  sw 7 (.assign (.tmp 12)) 3]
def ref1_Units_r6 : List Sop := [
  sq 13 (.move (.tmp 7)) 3,
  sq 14 (.binOp .geq 3 (.tmp 13) (.const (.int .i64 224)) 3) 4,
  sq 15 (.move (.tmp 14)) 4,
  ⟨some (16, false), .move (.tmp 0), 9, some (15, true), true⟩,
  ⟨some (17, false), .call { callee := .builtin .len, args := #[.tmp 16], argTypes := #[9] }, 3, some (15, true), true⟩,
  ⟨some (18, false), .binOp .geq 3 (.tmp 17) (.const (.int .i64 3)) 3, 4, some (15, true), true⟩,
  sw 19 (.pick (.tmp 15) (.tmp 18) (.const (.bool false))) 4]
def ref1_Units_r7 : List (Sop × List Sop) := [
  (sq 20 (.move (.tmp 7)) 3, []),
  (sq 21 (.binOp .rem 3 (.tmp 20) (.const (.int .i64 16)) 3) 3, []),
  (sq 22 (.binOp .mul 3 (.tmp 21) (.const (.int .i64 4096)) 3) 3, []),
  (sq 23 (.move (.tmp 0)) 9, []),
  (sq 24 (.index 9 (.tmp 23) (.const (.int .i64 1))) 5, []),
  (sq 25 (.convert 5 3 (.tmp 24)) 3, []),
  (sq 26 (.binOp .rem 3 (.tmp 25) (.const (.int .i64 64)) 3) 3, []),
  (sq 27 (.binOp .mul 3 (.tmp 26) (.const (.int .i64 64)) 3) 3, []),
  (sq 28 (.binOp .add 3 (.tmp 22) (.tmp 27) 3) 3, []),
  (sq 29 (.move (.tmp 0)) 9, []),
  (sq 30 (.index 9 (.tmp 29) (.const (.int .i64 2))) 5, []),
  (sq 31 (.convert 5 3 (.tmp 30)) 3, []),
  (sq 32 (.binOp .rem 3 (.tmp 31) (.const (.int .i64 64)) 3) 3, []),
  (sq 33 (.binOp .add 3 (.tmp 28) (.tmp 32) 3) 3, []),
  (sw 5 (.assign (.tmp 33)) 3, [])]
def ref1_Units_r8 : List Sop := [
  sw 6 (.assign (.const (.int .i64 3))) 3]
def ref1_Units_r9 : List Sop := [
  sq 34 (.move (.tmp 7)) 3,
  sq 35 (.binOp .geq 3 (.tmp 34) (.const (.int .i64 192)) 3) 4,
  sq 36 (.move (.tmp 35)) 4,
  ⟨some (37, false), .move (.tmp 0), 9, some (36, true), true⟩,
  ⟨some (38, false), .call { callee := .builtin .len, args := #[.tmp 37], argTypes := #[9] }, 3, some (36, true), true⟩,
  ⟨some (39, false), .binOp .geq 3 (.tmp 38) (.const (.int .i64 2)) 3, 4, some (36, true), true⟩,
  sw 40 (.pick (.tmp 36) (.tmp 39) (.const (.bool false))) 4]
def ref1_Units_r10 : List Sop := [
  sq 41 (.move (.tmp 7)) 3,
  sq 42 (.binOp .rem 3 (.tmp 41) (.const (.int .i64 32)) 3) 3,
  sq 43 (.binOp .mul 3 (.tmp 42) (.const (.int .i64 64)) 3) 3,
  sq 44 (.move (.tmp 0)) 9,
  sq 45 (.index 9 (.tmp 44) (.const (.int .i64 1))) 5,
  sq 46 (.convert 5 3 (.tmp 45)) 3,
  sq 47 (.binOp .rem 3 (.tmp 46) (.const (.int .i64 64)) 3) 3,
  sq 48 (.binOp .add 3 (.tmp 43) (.tmp 47) 3) 3,
  sw 5 (.assign (.tmp 48)) 3]
def ref1_Units_r11 : List Sop := [
  sw 6 (.assign (.const (.int .i64 2))) 3]
def ref1_Units_r12 : List Sop := [
  sq 49 (.move (.tmp 7)) 3,
  sw 5 (.assign (.tmp 49)) 3]
def ref1_Units_r13 : List (Sop × List Sop) := [
  (sq 50 (.move (.tmp 5)) 3, []),
  (sq 52 (.move (.tmp 0)) 9, []),
  (sq 53 (.move (.tmp 6)) 3, []),
  (sq 54 (.slice 9 (.tmp 52) none (some (.tmp 53)) none) 9, []),
  (sc 51 (.call { callee := .value (.func 91), args := #[.tmp 50], argTypes := #[3] }) 9, [sq 54 (.slice 9 (.tmp 52) none (some (.tmp 53)) none) 9]),
  (sw 55 (.binOp .neq 9 (.tmp 51) (.tmp 54) 9) 4, [])]
def ref1_Units_r14 : List Sop := [
  sw 2 (.assign (.const (.slice none 0 0))) 134,
  sw 3 (.assign (.const (.bool false))) 4]
def ref1_Units_r15 : List Sop := [
  sq 56 (.move (.tmp 4)) 134,
  sq 57 (.move (.tmp 5)) 3,
  sc 58 (.buildSlice 134 1 #[(0, .tmp 57)]) 134,
  sc 59 (.call { callee := .builtin .append, args := #[.tmp 56, .tmp 58], argTypes := #[134, 134] }) 134,
  sw 4 (.assign (.tmp 59)) 134]
def ref1_Units_r16 : List Sop := [
  sq 60 (.move (.tmp 0)) 9,
  sq 61 (.move (.tmp 6)) 3,
  sq 62 (.slice 9 (.tmp 60) (some (.tmp 61)) none none) 9,
  sw 0 (.assign (.tmp 62)) 9]
def ref1_Units_r17 : List Sop := [
  sq 63 (.move (.tmp 4)) 134,
  sw 2 (.assign (.tmp 63)) 134,
  sw 3 (.assign (.const (.bool true))) 4]
def ref1_Units_l0 : Cd := .seq (.seq (.region ref1_Units_r2) (.cond (.tmp 9) (.skip) (.exit 0))) (.block 1 (.seq (.region ref1_Units_r3) (.seq (.region ref1_Units_r4) (.seq (.region ref1_Units_r5) (.seq (.seq (.region ref1_Units_r6) (.cond (.tmp 19) (.seq (.draw ref1_Units_r7) (.region ref1_Units_r8)) (.seq (.region ref1_Units_r9) (.cond (.tmp 40) (.seq (.region ref1_Units_r10) (.region ref1_Units_r11)) (.region ref1_Units_r12))))) (.seq (.seq (.draw ref1_Units_r13) (.cond (.tmp 55) (.seq (.region ref1_Units_r14) (.ret)) (.skip))) (.seq (.region ref1_Units_r15) (.region ref1_Units_r16))))))))
def ref1_Units : Cd := .seq (.region ref1_Units_r0) (.seq (.region ref1_Units_r1) (.seq (.block 0 (.loop ref1_Units_l0)) (.seq (.region ref1_Units_r17) (.ret))))
theorem ref1_Units_calls {args : List Value} {h : Heap} {R : Value → Heap → Prop} (hl : args.length = 1) (hv : Cd.vc Try.prog ref1_Units (retQ Try.prog [(2, none), (3, none)] R) (initEnv args [0, 2, 3, 4, 5, 6, 7, 9, 19, 40, 55]) h) : HCalls Try.prog 77 args.toArray h R :=
  hcalls_of_vc (by kernel_rfl) Try.func77 (cd := ref1_Units) (L := [0, 2, 3, 4, 5, 6, 7, 9, 19, 40, 55]) (by kernel_rfl) (by kernel_rfl) ⟨by rw [hl, Try.ntmps77]; decide, by rw [Try.ntmps77]; decide⟩ hv
def ref1_Units_gos := And.intro (@goVc Try.prog _ _ ref1_Units.eq_1) (And.intro (@goOps Try.prog _ _ ref1_Units_r0.eq_1) (And.intro (@goOps Try.prog _ _ ref1_Units_r1.eq_1) (And.intro (@goOps Try.prog _ _ ref1_Units_r2.eq_1) (And.intro (@goOps Try.prog _ _ ref1_Units_r3.eq_1) (And.intro (@goOps Try.prog _ _ ref1_Units_r4.eq_1) (And.intro (@goOps Try.prog _ _ ref1_Units_r5.eq_1) (And.intro (@goOps Try.prog _ _ ref1_Units_r6.eq_1) (And.intro (@goDraw Try.prog _ _ ref1_Units_r7.eq_1) (And.intro (@goOps Try.prog _ _ ref1_Units_r8.eq_1) (And.intro (@goOps Try.prog _ _ ref1_Units_r9.eq_1) (And.intro (@goOps Try.prog _ _ ref1_Units_r10.eq_1) (And.intro (@goOps Try.prog _ _ ref1_Units_r11.eq_1) (And.intro (@goOps Try.prog _ _ ref1_Units_r12.eq_1) (And.intro (@goDraw Try.prog _ _ ref1_Units_r13.eq_1) (And.intro (@goOps Try.prog _ _ ref1_Units_r14.eq_1) (And.intro (@goOps Try.prog _ _ ref1_Units_r15.eq_1) (And.intro (@goOps Try.prog _ _ ref1_Units_r16.eq_1) (And.intro (@goOps Try.prog _ _ ref1_Units_r17.eq_1) (@goVc Try.prog _ _ ref1_Units_l0.eq_1)))))))))))))))))))

/-! jvmcore/jvmcoreref1.sizes: function 76: slots [0, 2, 3, 4, 8, 15] -/
def ref1_sizes_r0 : List Sop := [
  sw 2 (.assign (.const (.int .i64 0))) 3]
def ref1_sizes_r1 : List Sop := [
  sw 3 (.move (.tmp 0)) 5]
def ref1_sizes_r2 : List Sop := [
  sq 5 (.binOp .eql 5 (.tmp 3) (.const (.int .u8 1)) 5) 4,
  sw 4 (.assign (.tmp 5)) 4]
def ref1_sizes_r3 : List Sop := [
  sq 6 (.binOp .eql 5 (.tmp 3) (.const (.int .u8 7)) 5) 4,
  sw 4 (.assign (.tmp 6)) 4]
def ref1_sizes_r4 : List Sop := [
  sq 7 (.binOp .eql 5 (.tmp 3) (.const (.int .u8 8)) 5) 4,
  sw 4 (.assign (.tmp 7)) 4]
def ref1_sizes_r5 : List Sop := [
  sw 2 (.assign (.const (.int .i64 2))) 3]
def ref1_sizes_r6 : List Sop := [
  sq 9 (.binOp .eql 5 (.tmp 3) (.const (.int .u8 3)) 5) 4,
  sw 8 (.assign (.tmp 9)) 4]
def ref1_sizes_r7 : List Sop := [
  sq 10 (.binOp .eql 5 (.tmp 3) (.const (.int .u8 4)) 5) 4,
  sw 8 (.assign (.tmp 10)) 4]
def ref1_sizes_r8 : List Sop := [
  sq 11 (.binOp .eql 5 (.tmp 3) (.const (.int .u8 9)) 5) 4,
  sw 8 (.assign (.tmp 11)) 4]
def ref1_sizes_r9 : List Sop := [
  sq 12 (.binOp .eql 5 (.tmp 3) (.const (.int .u8 10)) 5) 4,
  sw 8 (.assign (.tmp 12)) 4]
def ref1_sizes_r10 : List Sop := [
  sq 13 (.binOp .eql 5 (.tmp 3) (.const (.int .u8 11)) 5) 4,
  sw 8 (.assign (.tmp 13)) 4]
def ref1_sizes_r11 : List Sop := [
  sq 14 (.binOp .eql 5 (.tmp 3) (.const (.int .u8 12)) 5) 4,
  sw 8 (.assign (.tmp 14)) 4]
def ref1_sizes_r12 : List Sop := [
  sw 2 (.assign (.const (.int .i64 4))) 3]
def ref1_sizes_r13 : List Sop := [
  sq 16 (.binOp .eql 5 (.tmp 3) (.const (.int .u8 5)) 5) 4,
  sw 15 (.assign (.tmp 16)) 4]
def ref1_sizes_r14 : List Sop := [
  sq 17 (.binOp .eql 5 (.tmp 3) (.const (.int .u8 6)) 5) 4,
  sw 15 (.assign (.tmp 17)) 4]
def ref1_sizes_r15 : List Sop := [
  sw 2 (.assign (.const (.int .i64 8))) 3]
def ref1_sizes_r16 : List Sop := [
  sw 2 (.assign (.const (.int .i64 (-1)))) 3]
def ref1_sizes : Cd := .seq (.region ref1_sizes_r0) (.seq (.seq (.region ref1_sizes_r1) (.block 0 (.seq (.seq (.region ref1_sizes_r2) (.cond (.tmp 4) (.skip) (.seq (.region ref1_sizes_r3) (.cond (.tmp 4) (.skip) (.region ref1_sizes_r4))))) (.cond (.tmp 4) (.seq (.region ref1_sizes_r5) (.ret)) (.seq (.seq (.region ref1_sizes_r6) (.cond (.tmp 8) (.skip) (.seq (.region ref1_sizes_r7) (.cond (.tmp 8) (.skip) (.seq (.region ref1_sizes_r8) (.cond (.tmp 8) (.skip) (.seq (.region ref1_sizes_r9) (.cond (.tmp 8) (.skip) (.seq (.region ref1_sizes_r10) (.cond (.tmp 8) (.skip) (.region ref1_sizes_r11))))))))))) (.cond (.tmp 8) (.seq (.region ref1_sizes_r12) (.ret)) (.seq (.seq (.region ref1_sizes_r13) (.cond (.tmp 15) (.skip) (.region ref1_sizes_r14))) (.cond (.tmp 15) (.seq (.region ref1_sizes_r15) (.ret)) (.skip))))))))) (.seq (.region ref1_sizes_r16) (.ret)))
theorem ref1_sizes_calls {args : List Value} {h : Heap} {R : Value → Heap → Prop} (hl : args.length = 1) (hv : Cd.vc Try.prog ref1_sizes (retQ Try.prog [(2, none)] R) (initEnv args [0, 2, 3, 4, 8, 15]) h) : HCalls Try.prog 76 args.toArray h R :=
  hcalls_of_vc (by kernel_rfl) Try.func76 (cd := ref1_sizes) (L := [0, 2, 3, 4, 8, 15]) (by kernel_rfl) (by kernel_rfl) ⟨by rw [hl, Try.ntmps76]; decide, by rw [Try.ntmps76]; decide⟩ hv
def ref1_sizes_gos := And.intro (@goVc Try.prog _ _ ref1_sizes.eq_1) (And.intro (@goOps Try.prog _ _ ref1_sizes_r0.eq_1) (And.intro (@goOps Try.prog _ _ ref1_sizes_r1.eq_1) (And.intro (@goOps Try.prog _ _ ref1_sizes_r2.eq_1) (And.intro (@goOps Try.prog _ _ ref1_sizes_r3.eq_1) (And.intro (@goOps Try.prog _ _ ref1_sizes_r4.eq_1) (And.intro (@goOps Try.prog _ _ ref1_sizes_r5.eq_1) (And.intro (@goOps Try.prog _ _ ref1_sizes_r6.eq_1) (And.intro (@goOps Try.prog _ _ ref1_sizes_r7.eq_1) (And.intro (@goOps Try.prog _ _ ref1_sizes_r8.eq_1) (And.intro (@goOps Try.prog _ _ ref1_sizes_r9.eq_1) (And.intro (@goOps Try.prog _ _ ref1_sizes_r10.eq_1) (And.intro (@goOps Try.prog _ _ ref1_sizes_r11.eq_1) (And.intro (@goOps Try.prog _ _ ref1_sizes_r12.eq_1) (And.intro (@goOps Try.prog _ _ ref1_sizes_r13.eq_1) (And.intro (@goOps Try.prog _ _ ref1_sizes_r14.eq_1) (And.intro (@goOps Try.prog _ _ ref1_sizes_r15.eq_1) (@goOps Try.prog _ _ ref1_sizes_r16.eq_1)))))))))))))))))

end Go.Proofs.Ytohkbpnblkkdgaa.C
