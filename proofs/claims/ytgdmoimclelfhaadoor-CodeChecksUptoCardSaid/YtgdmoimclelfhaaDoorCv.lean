/- The stripped code of some functions of this seat's program, printed by a program; that it is that code is proved by the kernel. No condition. -/

import Derived.Test.YtgdmoimclelfhaaDoorProg

import Derived.Test.YtgdmoimclelfhaaDoorVcJ

set_option maxRecDepth 100000

set_option linter.defProp false

namespace Go.Proofs.YtgdmoimclelfhaaDoor.C

open Go.Vc

/-! jvmcore/code.wideLocal: function 16: slots [0, 2, 3, 4] -/
def code_wideLocal_r0 : List Sop := [
  sw 2 (.assign (.const (.bool false))) 4]
def code_wideLocal_r1 : List Sop := [
  sw 3 (.move (.tmp 0)) 5]
def code_wideLocal_r2 : List Sop := [
  sq 5 (.binOp .eql 5 (.tmp 3) (.const (.int .u8 22)) 5) 4,
  sw 4 (.assign (.tmp 5)) 4]
def code_wideLocal_r3 : List Sop := [
  sq 6 (.binOp .eql 5 (.tmp 3) (.const (.int .u8 24)) 5) 4,
  sw 4 (.assign (.tmp 6)) 4]
def code_wideLocal_r4 : List Sop := [
  sq 7 (.binOp .eql 5 (.tmp 3) (.const (.int .u8 55)) 5) 4,
  sw 4 (.assign (.tmp 7)) 4]
def code_wideLocal_r5 : List Sop := [
  sq 8 (.binOp .eql 5 (.tmp 3) (.const (.int .u8 57)) 5) 4,
  sw 4 (.assign (.tmp 8)) 4]
def code_wideLocal_r6 : List Sop := [
  sw 2 (.assign (.const (.bool true))) 4]
def code_wideLocal_r7 : List Sop := [
  sq 9 (.move (.tmp 0)) 5,
  sq 10 (.binOp .geq 5 (.tmp 9) (.const (.int .u8 30)) 5) 4,
  sq 11 (.move (.tmp 10)) 4,
  ⟨some (12, false), .move (.tmp 0), 5, some (11, true), true⟩,
  ⟨some (13, false), .binOp .leq 5 (.tmp 12) (.const (.int .u8 33)) 5, 4, some (11, true), true⟩,
  sq 14 (.pick (.tmp 11) (.tmp 13) (.const (.bool false))) 4,
  sq 15 (.move (.tmp 14)) 4,
  ⟨some (16, false), .move (.tmp 0), 5, some (15, false), true⟩,
  ⟨some (17, false), .binOp .geq 5 (.tmp 16) (.const (.int .u8 38)) 5, 4, some (15, false), true⟩,
  ⟨some (18, false), .move (.tmp 17), 4, some (15, false), true⟩,
  ⟨some (19, false), .move (.tmp 0), 5, some (18, true), true⟩,
  ⟨some (20, false), .binOp .leq 5 (.tmp 19) (.const (.int .u8 41)) 5, 4, some (18, true), true⟩,
  ⟨some (21, false), .pick (.tmp 18) (.tmp 20) (.const (.bool false)), 4, some (15, false), true⟩,
  sq 22 (.pick (.tmp 15) (.const (.bool true)) (.tmp 21)) 4,
  sq 23 (.move (.tmp 22)) 4,
  ⟨some (24, false), .move (.tmp 0), 5, some (23, false), true⟩,
  ⟨some (25, false), .binOp .geq 5 (.tmp 24) (.const (.int .u8 63)) 5, 4, some (23, false), true⟩,
  ⟨some (26, false), .move (.tmp 25), 4, some (23, false), true⟩,
  ⟨some (27, false), .move (.tmp 0), 5, some (26, true), true⟩,
  ⟨some (28, false), .binOp .leq 5 (.tmp 27) (.const (.int .u8 66)) 5, 4, some (26, true), true⟩,
  ⟨some (29, false), .pick (.tmp 26) (.tmp 28) (.const (.bool false)), 4, some (23, false), true⟩,
  sq 30 (.pick (.tmp 23) (.const (.bool true)) (.tmp 29)) 4,
  sq 31 (.move (.tmp 30)) 4,
  ⟨some (32, false), .move (.tmp 0), 5, some (31, false), true⟩,
  ⟨some (33, false), .binOp .geq 5 (.tmp 32) (.const (.int .u8 71)) 5, 4, some (31, false), true⟩,
  ⟨some (34, false), .move (.tmp 33), 4, some (31, false), true⟩,
  ⟨some (35, false), .move (.tmp 0), 5, some (34, true), true⟩,
  ⟨some (36, false), .binOp .leq 5 (.tmp 35) (.const (.int .u8 74)) 5, 4, some (34, true), true⟩,
  ⟨some (37, false), .pick (.tmp 34) (.tmp 36) (.const (.bool false)), 4, some (31, false), true⟩,
  sq 38 (.pick (.tmp 31) (.const (.bool true)) (.tmp 37)) 4,
  sw 2 (.assign (.tmp 38)) 4]
def code_wideLocal : Cd := .seq (.region code_wideLocal_r0) (.seq (.seq (.region code_wideLocal_r1) (.block 0 (.seq (.seq (.region code_wideLocal_r2) (.cond (.tmp 4) (.skip) (.seq (.region code_wideLocal_r3) (.cond (.tmp 4) (.skip) (.seq (.region code_wideLocal_r4) (.cond (.tmp 4) (.skip) (.region code_wideLocal_r5))))))) (.cond (.tmp 4) (.seq (.region code_wideLocal_r6) (.ret)) (.skip))))) (.seq (.region code_wideLocal_r7) (.ret)))
theorem code_wideLocal_calls {args : List Value} {h : Heap} {R : Value → Heap → Prop} (hl : args.length = 1) (hv : Cd.vc Tryd.prog code_wideLocal (retQ Tryd.prog [(2, none)] R) (initEnv args [0, 2, 3, 4]) h) : HCalls Tryd.prog 16 args.toArray h R :=
  hcalls_of_vc (by kernel_rfl) Tryd.func16 (cd := code_wideLocal) (L := [0, 2, 3, 4]) (by kernel_rfl) (by kernel_rfl) ⟨by rw [hl, Tryd.ntmps16]; decide, by rw [Tryd.ntmps16]; decide⟩ hv
def code_wideLocal_gos := And.intro (@goVc Tryd.prog _ _ code_wideLocal.eq_1) (And.intro (@goOps Tryd.prog _ _ code_wideLocal_r0.eq_1) (And.intro (@goOps Tryd.prog _ _ code_wideLocal_r1.eq_1) (And.intro (@goOps Tryd.prog _ _ code_wideLocal_r2.eq_1) (And.intro (@goOps Tryd.prog _ _ code_wideLocal_r3.eq_1) (And.intro (@goOps Tryd.prog _ _ code_wideLocal_r4.eq_1) (And.intro (@goOps Tryd.prog _ _ code_wideLocal_r5.eq_1) (And.intro (@goOps Tryd.prog _ _ code_wideLocal_r6.eq_1) (@goOps Tryd.prog _ _ code_wideLocal_r7.eq_1))))))))

/-! jvmcore/code.Local: function 15: slots [0, 1, 2, 3, 7, 16, 30] -/
def code_Local_r0 : List Sop := [
  sa 1 (.box 37 (.tmp 0)) 0,
  sw 2 (.assign (.const (.int .i64 0))) 3]
def code_Local_r1 : List Sop := [
  sq 4 (.fieldAddr 37 (.tmp 1) 1) 0,
  sq 5 (.load 5 (.tmp 4)) 5,
  sc 6 (.call { callee := .value (.func 14), args := #[.tmp 5], argTypes := #[5] }) 3,
  sw 3 (.assign (.tmp 6)) 3]
def code_Local_r2 : List Sop := [
  sq 8 (.move (.tmp 3)) 3,
  sq 9 (.binOp .eql 3 (.tmp 8) (.const (.int .i64 6)) 3) 4,
  sq 10 (.move (.tmp 9)) 4,
  ⟨some (11, false), .move (.tmp 3), 3, some (10, false), true⟩,
  ⟨some (12, false), .binOp .eql 3 (.tmp 11) (.const (.int .i64 7)) 3, 4, some (10, false), true⟩,
  sq 13 (.pick (.tmp 10) (.const (.bool true)) (.tmp 12)) 4,
  sw 7 (.assign (.tmp 13)) 4]
def code_Local_r3 : List Sop := [
  sq 14 (.fieldAddr 37 (.tmp 1) 3) 0,
  sq 15 (.load 3 (.tmp 14)) 3,
  sw 2 (.assign (.tmp 15)) 3]
def code_Local_r4 : List Sop := [
  sq 17 (.fieldAddr 37 (.tmp 1) 1) 0,
  sq 18 (.load 5 (.tmp 17)) 5,
  sq 19 (.binOp .geq 5 (.tmp 18) (.const (.int .u8 26)) 5) 4,
  sq 20 (.move (.tmp 19)) 4,
  ⟨some (21, false), .fieldAddr 37 (.tmp 1) 1, 0, some (20, true), true⟩,
  ⟨some (22, false), .load 5 (.tmp 21), 5, some (20, true), true⟩,
  ⟨some (23, false), .binOp .leq 5 (.tmp 22) (.const (.int .u8 45)) 5, 4, some (20, true), true⟩,
  sq 24 (.pick (.tmp 20) (.tmp 23) (.const (.bool false))) 4,
  sw 16 (.assign (.tmp 24)) 4]
def code_Local_r5 : List Sop := [
  sq 25 (.fieldAddr 37 (.tmp 1) 1) 0,
  sq 26 (.load 5 (.tmp 25)) 5,
  sq 27 (.binOp .sub 5 (.tmp 26) (.const (.int .u8 26)) 5) 5,
  sq 28 (.convert 5 3 (.tmp 27)) 3,
  sq 29 (.binOp .rem 3 (.tmp 28) (.const (.int .i64 4)) 3) 3,
  sw 2 (.assign (.tmp 29)) 3]
def code_Local_r6 : List Sop := [
  sq 31 (.fieldAddr 37 (.tmp 1) 1) 0,
  sq 32 (.load 5 (.tmp 31)) 5,
  sq 33 (.binOp .geq 5 (.tmp 32) (.const (.int .u8 59)) 5) 4,
  sq 34 (.move (.tmp 33)) 4,
  ⟨some (35, false), .fieldAddr 37 (.tmp 1) 1, 0, some (34, true), true⟩,
  ⟨some (36, false), .load 5 (.tmp 35), 5, some (34, true), true⟩,
  ⟨some (37, false), .binOp .leq 5 (.tmp 36) (.const (.int .u8 78)) 5, 4, some (34, true), true⟩,
  sq 38 (.pick (.tmp 34) (.tmp 37) (.const (.bool false))) 4,
  sw 30 (.assign (.tmp 38)) 4]
def code_Local_r7 : List Sop := [
  sq 39 (.fieldAddr 37 (.tmp 1) 1) 0,
  sq 40 (.load 5 (.tmp 39)) 5,
  sq 41 (.binOp .sub 5 (.tmp 40) (.const (.int .u8 59)) 5) 5,
  sq 42 (.convert 5 3 (.tmp 41)) 3,
  sq 43 (.binOp .rem 3 (.tmp 42) (.const (.int .i64 4)) 3) 3,
  sw 2 (.assign (.tmp 43)) 3]
def code_Local_r8 : List Sop := [
  sw 2 (.assign (.const (.int .i64 (-1)))) 3]
def code_Local : Cd := .seq (.region code_Local_r0) (.seq (.seq (.region code_Local_r1) (.block 0 (.seq (.region code_Local_r2) (.cond (.tmp 7) (.seq (.region code_Local_r3) (.ret)) (.seq (.region code_Local_r4) (.cond (.tmp 16) (.seq (.region code_Local_r5) (.ret)) (.seq (.region code_Local_r6) (.cond (.tmp 30) (.seq (.region code_Local_r7) (.ret)) (.skip))))))))) (.seq (.region code_Local_r8) (.ret)))
theorem code_Local_calls {args : List Value} {h : Heap} {R : Value → Heap → Prop} (hl : args.length = 1) (hv : Cd.vc Tryd.prog code_Local (retQ Tryd.prog [(2, none)] R) (initEnv args [0, 1, 2, 3, 7, 16, 30]) h) : HCalls Tryd.prog 15 args.toArray h R :=
  hcalls_of_vc (by kernel_rfl) Tryd.func15 (cd := code_Local) (L := [0, 1, 2, 3, 7, 16, 30]) (by kernel_rfl) (by kernel_rfl) ⟨by rw [hl, Tryd.ntmps15]; decide, by rw [Tryd.ntmps15]; decide⟩ hv
def code_Local_gos := And.intro (@goVc Tryd.prog _ _ code_Local.eq_1) (And.intro (@goOps Tryd.prog _ _ code_Local_r0.eq_1) (And.intro (@goOps Tryd.prog _ _ code_Local_r1.eq_1) (And.intro (@goOps Tryd.prog _ _ code_Local_r2.eq_1) (And.intro (@goOps Tryd.prog _ _ code_Local_r3.eq_1) (And.intro (@goOps Tryd.prog _ _ code_Local_r4.eq_1) (And.intro (@goOps Tryd.prog _ _ code_Local_r5.eq_1) (And.intro (@goOps Tryd.prog _ _ code_Local_r6.eq_1) (And.intro (@goOps Tryd.prog _ _ code_Local_r7.eq_1) (@goOps Tryd.prog _ _ code_Local_r8.eq_1)))))))))

/-! jvmcore/code.room: function 9: slots [0, 1, 2, 4, 5, 6, 35] -/
def code_room_r0 : List Sop := [
  sa 2 (.box 37 (.tmp 0)) 0,
  sw 4 (.assign (.const (.bool false))) 4]
def code_room_r1 : List Sop := [
  sq 7 (.fieldAddr 37 (.tmp 2) 1) 0,
  sq 8 (.load 5 (.tmp 7)) 5,
  sc 9 (.call { callee := .value (.func 14), args := #[.tmp 8], argTypes := #[5] }) 3,
  sw 5 (.assign (.tmp 9)) 3]
def code_room_r2 : List Sop := [
  sq 10 (.move (.tmp 5)) 3,
  sq 11 (.binOp .neq 3 (.tmp 10) (.const (.int .i64 6)) 3) 4,
  sq 12 (.move (.tmp 11)) 4,
  ⟨some (13, false), .move (.tmp 5), 3, some (12, true), true⟩,
  ⟨some (14, false), .binOp .neq 3 (.tmp 13) (.const (.int .i64 7)) 3, 4, some (12, true), true⟩,
  sq 15 (.pick (.tmp 12) (.tmp 14) (.const (.bool false))) 4,
  sq 16 (.move (.tmp 15)) 4,
  ⟨some (17, false), .fieldAddr 37 (.tmp 2) 1, 0, some (16, true), true⟩,
  ⟨some (18, false), .load 5 (.tmp 17), 5, some (16, true), true⟩,
  ⟨some (19, false), .binOp .lss 5 (.tmp 18) (.const (.int .u8 26)) 5, 4, some (16, true), true⟩,
  ⟨some (20, false), .move (.tmp 19), 4, some (16, true), true⟩,
  ⟨some (21, false), .fieldAddr 37 (.tmp 2) 1, 0, some (20, false), true⟩,
  ⟨some (22, false), .load 5 (.tmp 21), 5, some (20, false), true⟩,
  ⟨some (23, false), .binOp .gtr 5 (.tmp 22) (.const (.int .u8 45)) 5, 4, some (20, false), true⟩,
  ⟨some (24, false), .pick (.tmp 20) (.const (.bool true)) (.tmp 23), 4, some (16, true), true⟩,
  sq 25 (.pick (.tmp 16) (.tmp 24) (.const (.bool false))) 4,
  sq 26 (.move (.tmp 25)) 4,
  ⟨some (27, false), .fieldAddr 37 (.tmp 2) 1, 0, some (26, true), true⟩,
  ⟨some (28, false), .load 5 (.tmp 27), 5, some (26, true), true⟩,
  ⟨some (29, false), .binOp .lss 5 (.tmp 28) (.const (.int .u8 59)) 5, 4, some (26, true), true⟩,
  ⟨some (30, false), .move (.tmp 29), 4, some (26, true), true⟩,
  ⟨some (31, false), .fieldAddr 37 (.tmp 2) 1, 0, some (30, false), true⟩,
  ⟨some (32, false), .load 5 (.tmp 31), 5, some (30, false), true⟩,
  ⟨some (33, false), .binOp .gtr 5 (.tmp 32) (.const (.int .u8 78)) 5, 4, some (30, false), true⟩,
  ⟨some (34, false), .pick (.tmp 30) (.const (.bool true)) (.tmp 33), 4, some (26, true), true⟩,
  sw 35 (.pick (.tmp 26) (.tmp 34) (.const (.bool false))) 4]
def code_room_r3 : List Sop := [
  sw 4 (.assign (.const (.bool true))) 4]
def code_room_r4 : List Sop := [
  sq 36 (.load 37 (.tmp 2)) 37,
  sc 37 (.call { callee := .value (.func 15), args := #[.tmp 36], argTypes := #[37] }) 3,
  sw 6 (.assign (.tmp 37)) 3]
def code_room_r5 : List Sop := [
  sq 38 (.move (.tmp 6)) 3,
  sq 39 (.binOp .geq 3 (.tmp 38) (.const (.int .i64 0)) 3) 4,
  sq 40 (.move (.tmp 39)) 4,
  ⟨some (41, false), .move (.tmp 6), 3, some (40, true), true⟩,
  ⟨some (42, false), .move (.tmp 1), 3, some (40, true), true⟩,
  ⟨some (43, false), .binOp .lss 3 (.tmp 41) (.tmp 42) 3, 4, some (40, true), true⟩,
  sq 44 (.pick (.tmp 40) (.tmp 43) (.const (.bool false))) 4,
  sq 45 (.move (.tmp 44)) 4,
  ⟨some (46, false), .fieldAddr 37 (.tmp 2) 1, 0, some (45, true), true⟩,
  ⟨some (47, false), .load 5 (.tmp 46), 5, some (45, true), true⟩,
  ⟨some (48, false), .call { callee := .value (.func 16), args := #[.tmp 47], argTypes := #[5] }, 4, some (45, true), false⟩,
  ⟨some (49, false), .unOp .not 4 (.tmp 48), 4, some (45, true), true⟩,
  ⟨some (50, false), .move (.tmp 49), 4, some (45, true), true⟩,
  ⟨some (51, false), .move (.tmp 6), 3, some (50, false), true⟩,
  ⟨some (52, false), .move (.tmp 1), 3, some (50, false), true⟩,
  ⟨some (53, false), .binOp .sub 3 (.tmp 52) (.const (.int .i64 1)) 3, 3, some (50, false), true⟩,
  ⟨some (54, false), .binOp .lss 3 (.tmp 51) (.tmp 53) 3, 4, some (50, false), true⟩,
  ⟨some (55, false), .pick (.tmp 50) (.const (.bool true)) (.tmp 54), 4, some (45, true), true⟩,
  sq 56 (.pick (.tmp 45) (.tmp 55) (.const (.bool false))) 4,
  sw 4 (.assign (.tmp 56)) 4]
def code_room : Cd := .seq (.region code_room_r0) (.seq (.seq (.region code_room_r1) (.seq (.region code_room_r2) (.cond (.tmp 35) (.seq (.region code_room_r3) (.ret)) (.skip)))) (.seq (.region code_room_r4) (.seq (.region code_room_r5) (.ret))))
theorem code_room_calls {args : List Value} {h : Heap} {R : Value → Heap → Prop} (hl : args.length = 2) (hv : Cd.vc Tryd.prog code_room (retQ Tryd.prog [(4, none)] R) (initEnv args [0, 1, 2, 4, 5, 6, 35]) h) : HCalls Tryd.prog 9 args.toArray h R :=
  hcalls_of_vc (by kernel_rfl) Tryd.func9 (cd := code_room) (L := [0, 1, 2, 4, 5, 6, 35]) (by kernel_rfl) (by kernel_rfl) ⟨by rw [hl, Tryd.ntmps9]; decide, by rw [Tryd.ntmps9]; decide⟩ hv
def code_room_gos := And.intro (@goVc Tryd.prog _ _ code_room.eq_1) (And.intro (@goOps Tryd.prog _ _ code_room_r0.eq_1) (And.intro (@goOps Tryd.prog _ _ code_room_r1.eq_1) (And.intro (@goOps Tryd.prog _ _ code_room_r2.eq_1) (And.intro (@goOps Tryd.prog _ _ code_room_r3.eq_1) (And.intro (@goOps Tryd.prog _ _ code_room_r4.eq_1) (@goOps Tryd.prog _ _ code_room_r5.eq_1))))))

/-! jvmcore/code.dims: function 22: slots [0, 2, 3, 13] -/
def code_dims_r0 : List Sop := [
  sw 2 (.assign (.const (.int .i64 0))) 3]
def code_dims_r1 : List Sop := [
  sw 3 (.assign (.const (.int .i64 0))) 3]
def code_dims_r2 : List Sop := [
  sq 4 (.move (.tmp 3)) 3,
  sq 5 (.move (.tmp 0)) 9,
  sq 6 (.call { callee := .builtin .len, args := #[.tmp 5], argTypes := #[9] }) 3,
  sq 7 (.binOp .lss 3 (.tmp 4) (.tmp 6) 3) 4,
  sq 8 (.move (.tmp 7)) 4,
  ⟨some (9, false), .move (.tmp 0), 9, some (8, true), true⟩,
  ⟨some (10, false), .move (.tmp 3), 3, some (8, true), true⟩,
  ⟨some (11, false), .index 9 (.tmp 9) (.tmp 10), 5, some (8, true), true⟩,
  ⟨some (12, false), .binOp .eql 5 (.tmp 11) (.const (.int .u8 91)) 5, 4, some (8, true), true⟩,
  sw 13 (.pick (.tmp 8) (.tmp 12) (.const (.bool false))) 4]
def code_dims_r3 : List Sop := [
  sq 14 (.move (.tmp 3)) 3,
  sq 15 (.binOp .add 3 (.tmp 14) (.const (.int .i64 1)) 3) 3,
  sw 3 (.assign (.tmp 15)) 3]
def code_dims_r4 : List Sop := [
  sq 16 (.move (.tmp 3)) 3,
  sw 2 (.assign (.tmp 16)) 3]
def code_dims_l0 : Cd := .seq (.seq (.region code_dims_r2) (.cond (.tmp 13) (.skip) (.exit 0))) (.block 1 (.region code_dims_r3))
def code_dims : Cd := .seq (.region code_dims_r0) (.seq (.region code_dims_r1) (.seq (.block 0 (.loop code_dims_l0)) (.seq (.region code_dims_r4) (.ret))))
theorem code_dims_calls {args : List Value} {h : Heap} {R : Value → Heap → Prop} (hl : args.length = 1) (hv : Cd.vc Tryd.prog code_dims (retQ Tryd.prog [(2, none)] R) (initEnv args [0, 2, 3, 13]) h) : HCalls Tryd.prog 22 args.toArray h R :=
  hcalls_of_vc (by kernel_rfl) Tryd.func22 (cd := code_dims) (L := [0, 2, 3, 13]) (by kernel_rfl) (by kernel_rfl) ⟨by rw [hl, Tryd.ntmps22]; decide, by rw [Tryd.ntmps22]; decide⟩ hv
def code_dims_gos := And.intro (@goVc Tryd.prog _ _ code_dims.eq_1) (And.intro (@goOps Tryd.prog _ _ code_dims_r0.eq_1) (And.intro (@goOps Tryd.prog _ _ code_dims_r1.eq_1) (And.intro (@goOps Tryd.prog _ _ code_dims_r2.eq_1) (And.intro (@goOps Tryd.prog _ _ code_dims_r3.eq_1) (And.intro (@goOps Tryd.prog _ _ code_dims_r4.eq_1) (@goVc Tryd.prog _ _ code_dims_l0.eq_1))))))

/-! jvmcore/code.operand: function 10: slots [0, 1, 2, 3, 4, 5, 6, 7, 14, 15, 21, 26, 34, 50, 64, 75, 86, 92] -/
def code_operand_r0 : List Sop := [
  sa 2 (.box 37 (.tmp 0)) 0,
  sa 3 (.box 23 (.tmp 1)) 0,
  sw 4 (.assign (.const (.bool false))) 4]
def code_operand_r1 : List Sop := [
  sq 8 (.fieldAddr 37 (.tmp 2) 3) 0,
  sq 9 (.load 3 (.tmp 8)) 3,
  sq 10 (.convert 3 30 (.tmp 9)) 30,
  sa 5 (.alloc 30) 0,
  ss (.store 30 (.tmp 5) (.tmp 10))]
def code_operand_r2 : List Sop := [
  sq 11 (.makeFunc (.func 17) #[] #[.tmp 5, .tmp 2, .tmp 3]) 46,
  sw 6 (.assign (.tmp 11)) 46]
def code_operand_r3 : List Sop := [
  sq 12 (.makeFunc (.func 19) #[] #[.tmp 3, .tmp 5]) 48,
  sw 7 (.assign (.tmp 12)) 48]
def code_operand_r4 : List Sop := [
  sq 13 (.fieldAddr 37 (.tmp 2) 1) 0,
  sw 14 (.load 5 (.tmp 13)) 5]
def code_operand_r5 : List Sop := [
  sq 16 (.binOp .eql 5 (.tmp 14) (.const (.int .u8 18)) 5) 4,
  sw 15 (.assign (.tmp 16)) 4]
def code_operand_r6 : List Sop := [
  sq 17 (.binOp .eql 5 (.tmp 14) (.const (.int .u8 19)) 5) 4,
  sw 15 (.assign (.tmp 17)) 4]
def code_operand_r7 : List Sop := [
  sq 18 (.move (.tmp 6)) 46,
  sc 19 (.buildSlice 44 3 #[(0, .const (.int .u8 3)), (1, .const (.int .u8 4)), (2, .const (.int .u8 8))]) 44,
  sc 20 (.call { callee := .value (.tmp 18), args := #[.tmp 19], argTypes := #[44] }) 4,
  sw 4 (.assign (.tmp 20)) 4]
def code_operand_r8 : List Sop := [
  sq 22 (.binOp .eql 5 (.tmp 14) (.const (.int .u8 20)) 5) 4,
  sw 21 (.assign (.tmp 22)) 4]
def code_operand_r9 : List Sop := [
  sq 23 (.move (.tmp 6)) 46,
  sc 24 (.buildSlice 44 2 #[(0, .const (.int .u8 5)), (1, .const (.int .u8 6))]) 44,
  sc 25 (.call { callee := .value (.tmp 23), args := #[.tmp 24], argTypes := #[44] }) 4,
  sw 4 (.assign (.tmp 25)) 4]
def code_operand_r10 : List Sop := [
  sq 27 (.binOp .eql 5 (.tmp 14) (.const (.int .u8 178)) 5) 4,
  sw 26 (.assign (.tmp 27)) 4]
def code_operand_r11 : List Sop := [
  sq 28 (.binOp .eql 5 (.tmp 14) (.const (.int .u8 179)) 5) 4,
  sw 26 (.assign (.tmp 28)) 4]
def code_operand_r12 : List Sop := [
  sq 29 (.binOp .eql 5 (.tmp 14) (.const (.int .u8 180)) 5) 4,
  sw 26 (.assign (.tmp 29)) 4]
def code_operand_r13 : List Sop := [
  sq 30 (.binOp .eql 5 (.tmp 14) (.const (.int .u8 181)) 5) 4,
  sw 26 (.assign (.tmp 30)) 4]
def code_operand_r14 : List Sop := [
  sq 31 (.move (.tmp 6)) 46,
  sc 32 (.buildSlice 44 1 #[(0, .const (.int .u8 9))]) 44,
  sc 33 (.call { callee := .value (.tmp 31), args := #[.tmp 32], argTypes := #[44] }) 4,
  sw 4 (.assign (.tmp 33)) 4]
def code_operand_r15 : List Sop := [
  sq 35 (.binOp .eql 5 (.tmp 14) (.const (.int .u8 182)) 5) 4,
  sw 34 (.assign (.tmp 35)) 4]
def code_operand_r16 : List Sop := [
  sq 36 (.binOp .eql 5 (.tmp 14) (.const (.int .u8 183)) 5) 4,
  sw 34 (.assign (.tmp 36)) 4]
def code_operand_r17 : List Sop := [
  sq 37 (.binOp .eql 5 (.tmp 14) (.const (.int .u8 184)) 5) 4,
  sw 34 (.assign (.tmp 37)) 4]
def code_operand_r18 : List (Sop × List Sop) := [
  (sq 38 (.move (.tmp 6)) 46, []),
  (sc 39 (.buildSlice 44 1 #[(0, .const (.int .u8 10))]) 44, []),
  (sc 40 (.call { callee := .value (.tmp 38), args := #[.tmp 39], argTypes := #[44] }) 4, []),
  (sq 41 (.move (.tmp 40)) 4, []),
  (⟨some (42, false), .load 37 (.tmp 2), 37, some (41, true), true⟩, []),
  (⟨some (43, false), .load 23 (.tmp 3), 23, some (41, true), true⟩, []),
  (⟨some (44, false), .load 23 (.tmp 3), 23, some (41, true), true⟩, []),
  (⟨some (45, false), .load 30 (.tmp 5), 30, some (41, true), true⟩, []),
  (⟨some (46, false), .indexAddr 23 (.tmp 44) (.tmp 45), 0, some (41, true), true⟩, []),
  (⟨some (47, false), .load 32 (.tmp 46), 32, some (41, true), true⟩, []),
  (⟨some (48, false), .call { callee := .value (.func 21), args := #[.tmp 42, .tmp 43, .tmp 47], argTypes := #[37, 23, 32] }, 4, some (41, true), false⟩, []),
  (sq 49 (.pick (.tmp 41) (.tmp 48) (.const (.bool false))) 4, []),
  (sw 4 (.assign (.tmp 49)) 4, [])]
def code_operand_r19 : List Sop := [
  sq 51 (.binOp .eql 5 (.tmp 14) (.const (.int .u8 185)) 5) 4,
  sw 50 (.assign (.tmp 51)) 4]
def code_operand_r20 : List (Sop × List Sop) := [
  (sq 52 (.move (.tmp 6)) 46, []),
  (sc 53 (.buildSlice 44 1 #[(0, .const (.int .u8 11))]) 44, []),
  (sc 54 (.call { callee := .value (.tmp 52), args := #[.tmp 53], argTypes := #[44] }) 4, []),
  (sq 55 (.move (.tmp 54)) 4, []),
  (⟨some (56, false), .load 37 (.tmp 2), 37, some (55, true), true⟩, []),
  (⟨some (57, false), .load 23 (.tmp 3), 23, some (55, true), true⟩, []),
  (⟨some (58, false), .load 23 (.tmp 3), 23, some (55, true), true⟩, []),
  (⟨some (59, false), .load 30 (.tmp 5), 30, some (55, true), true⟩, []),
  (⟨some (60, false), .indexAddr 23 (.tmp 58) (.tmp 59), 0, some (55, true), true⟩, []),
  (⟨some (61, false), .load 32 (.tmp 60), 32, some (55, true), true⟩, []),
  (⟨some (62, false), .call { callee := .value (.func 21), args := #[.tmp 56, .tmp 57, .tmp 61], argTypes := #[37, 23, 32] }, 4, some (55, true), false⟩, []),
  (sq 63 (.pick (.tmp 55) (.tmp 62) (.const (.bool false))) 4, []),
  (sw 4 (.assign (.tmp 63)) 4, [])]
def code_operand_r21 : List Sop := [
  sq 65 (.binOp .eql 5 (.tmp 14) (.const (.int .u8 187)) 5) 4,
  sw 64 (.assign (.tmp 65)) 4]
def code_operand_r22 : List Sop := [
  sq 66 (.move (.tmp 6)) 46,
  sc 67 (.buildSlice 44 1 #[(0, .const (.int .u8 7))]) 44,
  sc 68 (.call { callee := .value (.tmp 66), args := #[.tmp 67], argTypes := #[44] }) 4,
  sq 69 (.move (.tmp 68)) 4,
  ⟨some (70, false), .move (.tmp 7), 48, some (69, true), true⟩,
  ⟨some (71, false), .call { callee := .value (.tmp 70), args := #[], argTypes := #[] }, 9, some (69, true), false⟩,
  ⟨some (72, false), .call { callee := .value (.func 22), args := #[.tmp 71], argTypes := #[9] }, 3, some (69, true), false⟩,
  ⟨some (73, false), .binOp .eql 3 (.tmp 72) (.const (.int .i64 0)) 3, 4, some (69, true), true⟩,
  sq 74 (.pick (.tmp 69) (.tmp 73) (.const (.bool false))) 4,
  sw 4 (.assign (.tmp 74)) 4]
def code_operand_r23 : List Sop := [
  sq 76 (.binOp .eql 5 (.tmp 14) (.const (.int .u8 189)) 5) 4,
  sw 75 (.assign (.tmp 76)) 4]
def code_operand_r24 : List Sop := [
  sq 77 (.move (.tmp 6)) 46,
  sc 78 (.buildSlice 44 1 #[(0, .const (.int .u8 7))]) 44,
  sc 79 (.call { callee := .value (.tmp 77), args := #[.tmp 78], argTypes := #[44] }) 4,
  sq 80 (.move (.tmp 79)) 4,
  ⟨some (81, false), .move (.tmp 7), 48, some (80, true), true⟩,
  ⟨some (82, false), .call { callee := .value (.tmp 81), args := #[], argTypes := #[] }, 9, some (80, true), false⟩,
  ⟨some (83, false), .call { callee := .value (.func 22), args := #[.tmp 82], argTypes := #[9] }, 3, some (80, true), false⟩,
  ⟨some (84, false), .binOp .lss 3 (.tmp 83) (.const (.int .i64 255)) 3, 4, some (80, true), true⟩,
  sq 85 (.pick (.tmp 80) (.tmp 84) (.const (.bool false))) 4,
  sw 4 (.assign (.tmp 85)) 4]
def code_operand_r25 : List Sop := [
  sq 87 (.binOp .eql 5 (.tmp 14) (.const (.int .u8 192)) 5) 4,
  sw 86 (.assign (.tmp 87)) 4]
def code_operand_r26 : List Sop := [
  sq 88 (.binOp .eql 5 (.tmp 14) (.const (.int .u8 193)) 5) 4,
  sw 86 (.assign (.tmp 88)) 4]
def code_operand_r27 : List Sop := [
  sq 89 (.move (.tmp 6)) 46,
  sc 90 (.buildSlice 44 1 #[(0, .const (.int .u8 7))]) 44,
  sc 91 (.call { callee := .value (.tmp 89), args := #[.tmp 90], argTypes := #[44] }) 4,
  sw 4 (.assign (.tmp 91)) 4]
def code_operand_r28 : List Sop := [
  sq 93 (.binOp .eql 5 (.tmp 14) (.const (.int .u8 197)) 5) 4,
  sw 92 (.assign (.tmp 93)) 4]
def code_operand_r29 : List (Sop × List Sop) := [
  (sq 94 (.move (.tmp 6)) 46, []),
  (sc 95 (.buildSlice 44 1 #[(0, .const (.int .u8 7))]) 44, []),
  (sc 96 (.call { callee := .value (.tmp 94), args := #[.tmp 95], argTypes := #[44] }) 4, []),
  (sq 97 (.move (.tmp 96)) 4, []),
  (⟨some (98, false), .move (.tmp 7), 48, some (97, true), true⟩, []),
  (⟨some (101, false), .fieldAddr 37 (.tmp 2) 4, 0, some (97, true), true⟩, []),
  (⟨some (102, false), .load 3 (.tmp 101), 3, some (97, true), true⟩, []),
  (⟨some (99, false), .call { callee := .value (.tmp 98), args := #[], argTypes := #[] }, 9, some (97, true), false⟩, [⟨some (101, false), .fieldAddr 37 (.tmp 2) 4, 0, some (97, true), true⟩, ⟨some (102, false), .load 3 (.tmp 101), 3, some (97, true), true⟩]),
  (⟨some (100, false), .call { callee := .value (.func 22), args := #[.tmp 99], argTypes := #[9] }, 3, some (97, true), false⟩, [⟨some (101, false), .fieldAddr 37 (.tmp 2) 4, 0, some (97, true), true⟩, ⟨some (102, false), .load 3 (.tmp 101), 3, some (97, true), true⟩]),
  (⟨some (103, false), .binOp .geq 3 (.tmp 100) (.tmp 102) 3, 4, some (97, true), true⟩, []),
  (sq 104 (.pick (.tmp 97) (.tmp 103) (.const (.bool false))) 4, []),
  (sw 4 (.assign (.tmp 104)) 4, [])]
def code_operand_r30 : List Sop := [
  sw 4 (.assign (.const (.bool true))) 4]
def code_operand : Cd := .seq (.region code_operand_r0) (.seq (.region code_operand_r1) (.seq (.region code_operand_r2) (.seq (.region code_operand_r3) (.seq (.seq (.region code_operand_r4) (.block 0 (.seq (.seq (.region code_operand_r5) (.cond (.tmp 15) (.skip) (.region code_operand_r6))) (.cond (.tmp 15) (.seq (.region code_operand_r7) (.ret)) (.seq (.region code_operand_r8) (.cond (.tmp 21) (.seq (.region code_operand_r9) (.ret)) (.seq (.seq (.region code_operand_r10) (.cond (.tmp 26) (.skip) (.seq (.region code_operand_r11) (.cond (.tmp 26) (.skip) (.seq (.region code_operand_r12) (.cond (.tmp 26) (.skip) (.region code_operand_r13))))))) (.cond (.tmp 26) (.seq (.region code_operand_r14) (.ret)) (.seq (.seq (.region code_operand_r15) (.cond (.tmp 34) (.skip) (.seq (.region code_operand_r16) (.cond (.tmp 34) (.skip) (.region code_operand_r17))))) (.cond (.tmp 34) (.seq (.draw code_operand_r18) (.ret)) (.seq (.region code_operand_r19) (.cond (.tmp 50) (.seq (.draw code_operand_r20) (.ret)) (.seq (.region code_operand_r21) (.cond (.tmp 64) (.seq (.region code_operand_r22) (.ret)) (.seq (.region code_operand_r23) (.cond (.tmp 75) (.seq (.region code_operand_r24) (.ret)) (.seq (.seq (.region code_operand_r25) (.cond (.tmp 86) (.skip) (.region code_operand_r26))) (.cond (.tmp 86) (.seq (.region code_operand_r27) (.ret)) (.seq (.region code_operand_r28) (.cond (.tmp 92) (.seq (.draw code_operand_r29) (.ret)) (.skip))))))))))))))))))))) (.seq (.region code_operand_r30) (.ret))))))
theorem code_operand_calls {args : List Value} {h : Heap} {R : Value → Heap → Prop} (hl : args.length = 2) (hv : Cd.vc Tryd.prog code_operand (retQ Tryd.prog [(4, none)] R) (initEnv args [0, 1, 2, 3, 4, 5, 6, 7, 14, 15, 21, 26, 34, 50, 64, 75, 86, 92]) h) : HCalls Tryd.prog 10 args.toArray h R :=
  hcalls_of_vc (by kernel_rfl) Tryd.func10 (cd := code_operand) (L := [0, 1, 2, 3, 4, 5, 6, 7, 14, 15, 21, 26, 34, 50, 64, 75, 86, 92]) (by kernel_rfl) (by kernel_rfl) ⟨by rw [hl, Tryd.ntmps10]; decide, by rw [Tryd.ntmps10]; decide⟩ hv
def code_operand_gos := And.intro (@goVc Tryd.prog _ _ code_operand.eq_1) (And.intro (@goOps Tryd.prog _ _ code_operand_r0.eq_1) (And.intro (@goOps Tryd.prog _ _ code_operand_r1.eq_1) (And.intro (@goOps Tryd.prog _ _ code_operand_r2.eq_1) (And.intro (@goOps Tryd.prog _ _ code_operand_r3.eq_1) (And.intro (@goOps Tryd.prog _ _ code_operand_r4.eq_1) (And.intro (@goOps Tryd.prog _ _ code_operand_r5.eq_1) (And.intro (@goOps Tryd.prog _ _ code_operand_r6.eq_1) (And.intro (@goOps Tryd.prog _ _ code_operand_r7.eq_1) (And.intro (@goOps Tryd.prog _ _ code_operand_r8.eq_1) (And.intro (@goOps Tryd.prog _ _ code_operand_r9.eq_1) (And.intro (@goOps Tryd.prog _ _ code_operand_r10.eq_1) (And.intro (@goOps Tryd.prog _ _ code_operand_r11.eq_1) (And.intro (@goOps Tryd.prog _ _ code_operand_r12.eq_1) (And.intro (@goOps Tryd.prog _ _ code_operand_r13.eq_1) (And.intro (@goOps Tryd.prog _ _ code_operand_r14.eq_1) (And.intro (@goOps Tryd.prog _ _ code_operand_r15.eq_1) (And.intro (@goOps Tryd.prog _ _ code_operand_r16.eq_1) (And.intro (@goOps Tryd.prog _ _ code_operand_r17.eq_1) (And.intro (@goDraw Tryd.prog _ _ code_operand_r18.eq_1) (And.intro (@goOps Tryd.prog _ _ code_operand_r19.eq_1) (And.intro (@goDraw Tryd.prog _ _ code_operand_r20.eq_1) (And.intro (@goOps Tryd.prog _ _ code_operand_r21.eq_1) (And.intro (@goOps Tryd.prog _ _ code_operand_r22.eq_1) (And.intro (@goOps Tryd.prog _ _ code_operand_r23.eq_1) (And.intro (@goOps Tryd.prog _ _ code_operand_r24.eq_1) (And.intro (@goOps Tryd.prog _ _ code_operand_r25.eq_1) (And.intro (@goOps Tryd.prog _ _ code_operand_r26.eq_1) (And.intro (@goOps Tryd.prog _ _ code_operand_r27.eq_1) (And.intro (@goOps Tryd.prog _ _ code_operand_r28.eq_1) (And.intro (@goDraw Tryd.prog _ _ code_operand_r29.eq_1) (@goOps Tryd.prog _ _ code_operand_r30.eq_1)))))))))))))))))))))))))))))))

/-! jvmcore/code.operand.1: function 17: slots [0, 1, 2, 3, 5, 7, 8, 9, 10, 11, 24] -/
def code_is_r0 : List Sop := [
  sw 5 (.assign (.const (.bool false))) 4]
def code_is_r1 : List Sop := [
  sw 8 (.move (.tmp 0)) 44,
  sw 9 (.call { callee := .builtin .len, args := #[.tmp 8], argTypes := #[44] }) 3,
  sw 10 (.move (.const (.int .i64 0))) 3]
def code_is_r2 : List Sop := [
  sw 11 (.binOp .lss 3 (.tmp 10) (.tmp 9) 3) 0]
def code_is_r3 : List Sop := [
  sq 12 (.indexAddr 44 (.tmp 8) (.tmp 10)) 0,
  sq 13 (.load 5 (.tmp 12)) 5,
  sw 7 (.assign (.tmp 13)) 5]
def code_is_r4 : List Sop := [
  sq 14 (.load 30 (.tmp 1)) 30,
  sq 15 (.convert 30 3 (.tmp 14)) 3,
  sq 16 (.fieldAddr 37 (.tmp 2) 3) 0,
  sq 17 (.load 3 (.tmp 16)) 3,
  sq 18 (.binOp .eql 3 (.tmp 15) (.tmp 17) 3) 4,
  sq 19 (.move (.tmp 18)) 4,
  ⟨some (20, false), .load 23 (.tmp 3), 23, some (19, true), true⟩,
  ⟨some (21, false), .load 30 (.tmp 1), 30, some (19, true), true⟩,
  ⟨some (22, false), .move (.tmp 7), 5, some (19, true), true⟩,
  ⟨some (23, false), .call { callee := .value (.func 18), args := #[.tmp 20, .tmp 21, .tmp 22], argTypes := #[23, 30, 5] }, 4, some (19, true), false⟩,
  sw 24 (.pick (.tmp 19) (.tmp 23) (.const (.bool false))) 4]
def code_is_r5 : List Sop := [
  sw 5 (.assign (.const (.bool true))) 4]
def code_is_r6 : List Sop := [
  sq 25 (.binOp .add 3 (.tmp 10) (.const (.int .i64 1)) 3) 3,
  sw 10 (.move (.tmp 25)) 3]
def code_is_r7 : List Sop := [
  sw 5 (.assign (.const (.bool false))) 4]
def code_is_l0 : Cd := .seq (.region code_is_r2) (.seq (.cond (.tmp 11) (.skip) (.exit 0)) (.seq (.block 1 (.seq (.region code_is_r3) (.seq (.region code_is_r4) (.cond (.tmp 24) (.seq (.region code_is_r5) (.ret)) (.skip))))) (.region code_is_r6)))
def code_is : Cd := .seq (.region code_is_r0) (.seq (.seq (.region code_is_r1) (.block 0 (.loop code_is_l0))) (.seq (.region code_is_r7) (.ret)))
theorem code_is_calls {args : List Value} {h : Heap} {R : Value → Heap → Prop} (hl : args.length = 4) (hv : Cd.vc Tryd.prog code_is (retQ Tryd.prog [(5, none)] R) (initEnv args [0, 1, 2, 3, 5, 7, 8, 9, 10, 11, 24]) h) : HCalls Tryd.prog 17 args.toArray h R :=
  hcalls_of_vc (by kernel_rfl) Tryd.func17 (cd := code_is) (L := [0, 1, 2, 3, 5, 7, 8, 9, 10, 11, 24]) (by kernel_rfl) (by kernel_rfl) ⟨by rw [hl, Tryd.ntmps17]; decide, by rw [Tryd.ntmps17]; decide⟩ hv
def code_is_gos := And.intro (@goVc Tryd.prog _ _ code_is.eq_1) (And.intro (@goOps Tryd.prog _ _ code_is_r0.eq_1) (And.intro (@goOps Tryd.prog _ _ code_is_r1.eq_1) (And.intro (@goOps Tryd.prog _ _ code_is_r2.eq_1) (And.intro (@goOps Tryd.prog _ _ code_is_r3.eq_1) (And.intro (@goOps Tryd.prog _ _ code_is_r4.eq_1) (And.intro (@goOps Tryd.prog _ _ code_is_r5.eq_1) (And.intro (@goOps Tryd.prog _ _ code_is_r6.eq_1) (And.intro (@goOps Tryd.prog _ _ code_is_r7.eq_1) (@goVc Tryd.prog _ _ code_is_l0.eq_1)))))))))

/-! jvmcore/code.operand.2: function 19: slots [0, 1, 2] -/
def code_class_r0 : List Sop := [
  sw 2 (.assign (.const (.string { data := #[] }))) 9]
def code_class_r1 : List (Sop × List Sop) := [
  (sq 3 (.load 23 (.tmp 0)) 23, []),
  (sq 4 (.load 23 (.tmp 0)) 23, []),
  (sq 5 (.load 30 (.tmp 1)) 30, []),
  (sq 6 (.indexAddr 23 (.tmp 4) (.tmp 5)) 0, []),
  (sq 7 (.fieldAddr 32 (.tmp 6) 3) 0, []),
  (sq 8 (.load 30 (.tmp 7)) 30, []),
  (sc 9 (.call { callee := .value (.func 20), args := #[.tmp 3, .tmp 8], argTypes := #[23, 30] }) 9, []),
  (sw 2 (.assign (.tmp 9)) 9, [])]
def code_class : Cd := .seq (.region code_class_r0) (.seq (.draw code_class_r1) (.ret))
theorem code_class_calls {args : List Value} {h : Heap} {R : Value → Heap → Prop} (hl : args.length = 2) (hv : Cd.vc Tryd.prog code_class (retQ Tryd.prog [(2, none)] R) (initEnv args [0, 1, 2]) h) : HCalls Tryd.prog 19 args.toArray h R :=
  hcalls_of_vc (by kernel_rfl) Tryd.func19 (cd := code_class) (L := [0, 1, 2]) (by kernel_rfl) (by kernel_rfl) ⟨by rw [hl, Tryd.ntmps19]; decide, by rw [Tryd.ntmps19]; decide⟩ hv
def code_class_gos := And.intro (@goVc Tryd.prog _ _ code_class.eq_1) (And.intro (@goOps Tryd.prog _ _ code_class_r0.eq_1) (@goDraw Tryd.prog _ _ code_class_r1.eq_1))

/-! jvmcore/code.called: function 21: slots [0, 1, 2, 3, 5, 6, 7, 8, 9, 10, 12, 13, 15, 20, 49, 58, 60, 61, 62, 63] -/
def code_called_r0 : List Sop := [
  sa 3 (.box 37 (.tmp 0)) 0,
  sa 5 (.box 32 (.tmp 2)) 0,
  sw 6 (.assign (.const (.bool false))) 4]
def code_called_r1 : List Sop := [
  sq 16 (.move (.tmp 1)) 23,
  sq 17 (.fieldAddr 32 (.tmp 5) 4) 0,
  sq 18 (.load 30 (.tmp 17)) 30,
  sc 19 (.call { callee := .value (.func 18), args := #[.tmp 16, .tmp 18, .const (.int .u8 12)], argTypes := #[23, 30, 5] }) 4,
  sw 20 (.unOp .not 4 (.tmp 19)) 4]
def code_called_r2 : List Sop := [
  sw 6 (.assign (.const (.bool false))) 4]
def code_called_r3 : List (Sop × List Sop) := [
  (sq 21 (.move (.tmp 1)) 23, []),
  (sq 22 (.move (.tmp 1)) 23, []),
  (sq 23 (.fieldAddr 32 (.tmp 5) 4) 0, []),
  (sq 24 (.load 30 (.tmp 23)) 30, []),
  (sq 25 (.indexAddr 23 (.tmp 22) (.tmp 24)) 0, []),
  (sq 26 (.fieldAddr 32 (.tmp 25) 3) 0, []),
  (sq 27 (.load 30 (.tmp 26)) 30, []),
  (sq 29 (.move (.tmp 1)) 23, []),
  (sq 30 (.move (.tmp 1)) 23, []),
  (sq 31 (.fieldAddr 32 (.tmp 5) 4) 0, []),
  (sq 32 (.load 30 (.tmp 31)) 30, []),
  (sq 33 (.indexAddr 23 (.tmp 30) (.tmp 32)) 0, []),
  (sq 34 (.fieldAddr 32 (.tmp 33) 4) 0, []),
  (sq 35 (.load 30 (.tmp 34)) 30, []),
  (sc 28 (.call { callee := .value (.func 20), args := #[.tmp 21, .tmp 27], argTypes := #[23, 30] }) 9, [sq 31 (.fieldAddr 32 (.tmp 5) 4) 0, sq 32 (.load 30 (.tmp 31)) 30, sq 33 (.indexAddr 23 (.tmp 30) (.tmp 32)) 0, sq 34 (.fieldAddr 32 (.tmp 33) 4) 0, sq 35 (.load 30 (.tmp 34)) 30]),
  (sc 36 (.call { callee := .value (.func 20), args := #[.tmp 29, .tmp 35], argTypes := #[23, 30] }) 9, []),
  (sw 7 (.assign (.tmp 28)) 9, []),
  (sw 8 (.assign (.tmp 36)) 9, [])]
def code_called_r4 : List Sop := [
  sq 37 (.move (.tmp 7)) 9,
  sc 38 (.call { callee := .value (.func 28), args := #[.tmp 37, .const (.bool true)], argTypes := #[9, 4] }) 3,
  sw 9 (.assign (.tmp 38)) 3]
def code_called_r5 : List Sop := [
  sq 39 (.move (.tmp 9)) 3,
  sq 40 (.binOp .eql 3 (.tmp 39) (.const (.int .i64 3)) 3) 4,
  sq 41 (.move (.tmp 40)) 4,
  ⟨some (42, false), .move (.tmp 9), 3, some (41, false), true⟩,
  ⟨some (43, false), .binOp .eql 3 (.tmp 42) (.const (.int .i64 2)) 3, 4, some (41, false), true⟩,
  ⟨some (44, false), .move (.tmp 43), 4, some (41, false), true⟩,
  ⟨some (45, false), .fieldAddr 37 (.tmp 3) 1, 0, some (44, true), true⟩,
  ⟨some (46, false), .load 5 (.tmp 45), 5, some (44, true), true⟩,
  ⟨some (47, false), .binOp .neq 5 (.tmp 46) (.const (.int .u8 183)) 5, 4, some (44, true), true⟩,
  ⟨some (48, false), .pick (.tmp 44) (.tmp 47) (.const (.bool false)), 4, some (41, false), true⟩,
  sw 49 (.pick (.tmp 41) (.const (.bool true)) (.tmp 48)) 4]
def code_called_r6 : List Sop := [
  sw 6 (.assign (.const (.bool false))) 4]
def code_called_r7 : List Sop := [
  sq 51 (.move (.tmp 8)) 9,
  sc 52 (.call { callee := .value (.func 29), args := #[.tmp 51], argTypes := #[9] }) 58,
  sq 50 (.move (.tmp 52)) 58,
  sq 53 (.extract (.tmp 50) 0) 57,
  sq 54 (.extract (.tmp 50) 1) 9,
  sq 55 (.extract (.tmp 50) 2) 4,
  sw 10 (.assign (.tmp 53)) 57,
  sq 11 (.assign (.tmp 54)) 9,
  sw 12 (.assign (.tmp 55)) 4]
def code_called_r8 : List Sop := [
  sq 56 (.fieldAddr 37 (.tmp 3) 1) 0,
  sq 57 (.load 5 (.tmp 56)) 5,
  sw 58 (.binOp .neq 5 (.tmp 57) (.const (.int .u8 185)) 5) 4]
def code_called_r9 : List Sop := [
  sq 59 (.move (.tmp 12)) 4,
  sw 6 (.assign (.tmp 59)) 4]
def code_called_r10 : List Sop := [
  sw 13 (.assign (.const (.int .i64 1))) 3]
def code_called_r11 : List Sop := [
  sw 60 (.move (.tmp 10)) 57,
  sw 61 (.call { callee := .builtin .len, args := #[.tmp 60], argTypes := #[57] }) 3,
  sw 62 (.move (.const (.int .i64 0))) 3]
def code_called_r12 : List Sop := [
  sw 63 (.binOp .lss 3 (.tmp 62) (.tmp 61) 3) 0]
def code_called_r13 : List Sop := [
  sq 64 (.indexAddr 57 (.tmp 60) (.tmp 62)) 0,
  sq 65 (.load 9 (.tmp 64)) 9,
  sw 15 (.assign (.tmp 65)) 9]
def code_called_r14 : List Sop := [
  sq 66 (.move (.tmp 13)) 3,
  sq 67 (.move (.tmp 15)) 9,
  sc 68 (.call { callee := .value (.func 30), args := #[.tmp 67], argTypes := #[9] }) 3,
  sq 69 (.binOp .add 3 (.tmp 66) (.tmp 68) 3) 3,
  sw 13 (.assign (.tmp 69)) 3]
def code_called_r15 : List Sop := [
  sq 70 (.binOp .add 3 (.tmp 62) (.const (.int .i64 1)) 3) 3,
  sw 62 (.move (.tmp 70)) 3]
def code_called_r16 : List Sop := [
  sq 71 (.move (.tmp 12)) 4,
  sq 72 (.move (.tmp 71)) 4,
  ⟨some (73, false), .move (.tmp 13), 3, some (72, true), true⟩,
  ⟨some (74, false), .fieldAddr 37 (.tmp 3) 4, 0, some (72, true), true⟩,
  ⟨some (75, false), .load 3 (.tmp 74), 3, some (72, true), true⟩,
  ⟨some (76, false), .binOp .eql 3 (.tmp 73) (.tmp 75) 3, 4, some (72, true), true⟩,
  sq 77 (.pick (.tmp 72) (.tmp 76) (.const (.bool false))) 4,
  sw 6 (.assign (.tmp 77)) 4]
def code_called_l0 : Cd := .seq (.region code_called_r12) (.seq (.cond (.tmp 63) (.skip) (.exit 0)) (.seq (.block 1 (.seq (.region code_called_r13) (.region code_called_r14))) (.region code_called_r15)))
def code_called : Cd := .seq (.region code_called_r0) (.seq (.seq (.region code_called_r1) (.cond (.tmp 20) (.seq (.region code_called_r2) (.ret)) (.skip))) (.seq (.draw code_called_r3) (.seq (.region code_called_r4) (.seq (.seq (.region code_called_r5) (.cond (.tmp 49) (.seq (.region code_called_r6) (.ret)) (.skip))) (.seq (.region code_called_r7) (.seq (.seq (.region code_called_r8) (.cond (.tmp 58) (.seq (.region code_called_r9) (.ret)) (.skip))) (.seq (.region code_called_r10) (.seq (.seq (.region code_called_r11) (.block 0 (.loop code_called_l0))) (.seq (.region code_called_r16) (.ret))))))))))
theorem code_called_calls {args : List Value} {h : Heap} {R : Value → Heap → Prop} (hl : args.length = 3) (hv : Cd.vc Tryd.prog code_called (retQ Tryd.prog [(6, none)] R) (initEnv args [0, 1, 2, 3, 5, 6, 7, 8, 9, 10, 12, 13, 15, 20, 49, 58, 60, 61, 62, 63]) h) : HCalls Tryd.prog 21 args.toArray h R :=
  hcalls_of_vc (by kernel_rfl) Tryd.func21 (cd := code_called) (L := [0, 1, 2, 3, 5, 6, 7, 8, 9, 10, 12, 13, 15, 20, 49, 58, 60, 61, 62, 63]) (by kernel_rfl) (by kernel_rfl) ⟨by rw [hl, Tryd.ntmps21]; decide, by rw [Tryd.ntmps21]; decide⟩ hv
def code_called_gos := And.intro (@goVc Tryd.prog _ _ code_called.eq_1) (And.intro (@goOps Tryd.prog _ _ code_called_r0.eq_1) (And.intro (@goOps Tryd.prog _ _ code_called_r1.eq_1) (And.intro (@goOps Tryd.prog _ _ code_called_r2.eq_1) (And.intro (@goDraw Tryd.prog _ _ code_called_r3.eq_1) (And.intro (@goOps Tryd.prog _ _ code_called_r4.eq_1) (And.intro (@goOps Tryd.prog _ _ code_called_r5.eq_1) (And.intro (@goOps Tryd.prog _ _ code_called_r6.eq_1) (And.intro (@goOps Tryd.prog _ _ code_called_r7.eq_1) (And.intro (@goOps Tryd.prog _ _ code_called_r8.eq_1) (And.intro (@goOps Tryd.prog _ _ code_called_r9.eq_1) (And.intro (@goOps Tryd.prog _ _ code_called_r10.eq_1) (And.intro (@goOps Tryd.prog _ _ code_called_r11.eq_1) (And.intro (@goOps Tryd.prog _ _ code_called_r12.eq_1) (And.intro (@goOps Tryd.prog _ _ code_called_r13.eq_1) (And.intro (@goOps Tryd.prog _ _ code_called_r14.eq_1) (And.intro (@goOps Tryd.prog _ _ code_called_r15.eq_1) (And.intro (@goOps Tryd.prog _ _ code_called_r16.eq_1) (@goVc Tryd.prog _ _ code_called_l0.eq_1))))))))))))))))))

/-! jvmcore/code.Check: function 6: slots [0, 1, 2, 6, 7, 9, 10, 11, 12, 13, 25] -/
def code_Check_r0 : List Sop := [
  sw 6 (.assign (.const (.int .i64 0))) 26,
  sw 7 (.assign (.const (.int .i64 0))) 3]
def code_Check_r1 : List Sop := [
  sw 10 (.move (.tmp 0)) 22,
  sw 11 (.call { callee := .builtin .len, args := #[.tmp 10], argTypes := #[22] }) 3,
  sw 12 (.move (.const (.int .i64 0))) 3]
def code_Check_r2 : List Sop := [
  sw 13 (.binOp .lss 3 (.tmp 12) (.tmp 11) 3) 0]
def code_Check_r3 : List Sop := [
  sq 14 (.indexAddr 22 (.tmp 10) (.tmp 12)) 0,
  sq 15 (.load 37 (.tmp 14)) 37,
  sa 9 (.alloc 37) 0,
  ss (.store 37 (.tmp 9) (.tmp 15))]
def code_Check_r4 : List Sop := [
  sq 16 (.load 37 (.tmp 9)) 37,
  sq 17 (.move (.tmp 2)) 3,
  sc 18 (.call { callee := .value (.func 9), args := #[.tmp 16, .tmp 17], argTypes := #[37, 3] }) 4,
  sq 19 (.unOp .not 4 (.tmp 18)) 4,
  sq 20 (.move (.tmp 19)) 4,
  ⟨some (21, false), .load 37 (.tmp 9), 37, some (20, false), true⟩,
  ⟨some (22, false), .move (.tmp 1), 23, some (20, false), true⟩,
  ⟨some (23, false), .call { callee := .value (.func 10), args := #[.tmp 21, .tmp 22], argTypes := #[37, 23] }, 4, some (20, false), false⟩,
  ⟨some (24, false), .unOp .not 4 (.tmp 23), 4, some (20, false), true⟩,
  sw 25 (.pick (.tmp 20) (.const (.bool true)) (.tmp 24)) 4]
def code_Check_r5 : List (Sop × List Sop) := [
  (sq 26 (.fieldAddr 37 (.tmp 9) 0) 0, []),
  (sq 27 (.load 3 (.tmp 26)) 3, []),
  (sw 6 (.assign (.const (.int .i64 15))) 26, []),
  (sw 7 (.assign (.tmp 27)) 3, [])]
def code_Check_r6 : List Sop := [
  sq 28 (.binOp .add 3 (.tmp 12) (.const (.int .i64 1)) 3) 3,
  sw 12 (.move (.tmp 28)) 3]
def code_Check_r7 : List Sop := [
  sw 6 (.assign (.const (.int .i64 0))) 26,
  sw 7 (.assign (.const (.int .i64 0))) 3]
def code_Check_l0 : Cd := .seq (.region code_Check_r2) (.seq (.cond (.tmp 13) (.skip) (.exit 0)) (.seq (.block 1 (.seq (.region code_Check_r3) (.seq (.region code_Check_r4) (.cond (.tmp 25) (.seq (.draw code_Check_r5) (.ret)) (.skip))))) (.region code_Check_r6)))
def code_Check : Cd := .seq (.region code_Check_r0) (.seq (.seq (.region code_Check_r1) (.block 0 (.loop code_Check_l0))) (.seq (.region code_Check_r7) (.ret)))
theorem code_Check_calls {args : List Value} {h : Heap} {R : Value → Heap → Prop} (hl : args.length = 3) (hv : Cd.vc Tryd.prog code_Check (retQ Tryd.prog [(6, none), (7, none)] R) (initEnv args [0, 1, 2, 6, 7, 9, 10, 11, 12, 13, 25]) h) : HCalls Tryd.prog 6 args.toArray h R :=
  hcalls_of_vc (by kernel_rfl) Tryd.func6 (cd := code_Check) (L := [0, 1, 2, 6, 7, 9, 10, 11, 12, 13, 25]) (by kernel_rfl) (by kernel_rfl) ⟨by rw [hl, Tryd.ntmps6]; decide, by rw [Tryd.ntmps6]; decide⟩ hv
def code_Check_gos := And.intro (@goVc Tryd.prog _ _ code_Check.eq_1) (And.intro (@goOps Tryd.prog _ _ code_Check_r0.eq_1) (And.intro (@goOps Tryd.prog _ _ code_Check_r1.eq_1) (And.intro (@goOps Tryd.prog _ _ code_Check_r2.eq_1) (And.intro (@goOps Tryd.prog _ _ code_Check_r3.eq_1) (And.intro (@goOps Tryd.prog _ _ code_Check_r4.eq_1) (And.intro (@goDraw Tryd.prog _ _ code_Check_r5.eq_1) (And.intro (@goOps Tryd.prog _ _ code_Check_r6.eq_1) (And.intro (@goOps Tryd.prog _ _ code_Check_r7.eq_1) (@goVc Tryd.prog _ _ code_Check_l0.eq_1)))))))))

/-! jvmcore/jvmcoreref2.Local: function 24: slots [0, 1, 2, 3, 4, 8, 23, 38, 43, 63] -/
def ref2_Local_r0 : List Sop := [
  sa 1 (.box 37 (.tmp 0)) 0,
  sw 2 (.assign (.const (.int .i64 0))) 3,
  sw 3 (.assign (.const (.bool false))) 4]
def ref2_Local_r1 : List Sop := [
  sq 5 (.fieldAddr 37 (.tmp 1) 1) 0,
  sq 6 (.load 5 (.tmp 5)) 5,
  sq 7 (.convert 5 3 (.tmp 6)) 3,
  sw 4 (.assign (.tmp 7)) 3]
def ref2_Local_r2 : List Sop := [
  sq 9 (.move (.tmp 4)) 3,
  sq 10 (.binOp .geq 3 (.tmp 9) (.const (.int .i64 21)) 3) 4,
  sq 11 (.move (.tmp 10)) 4,
  ⟨some (12, false), .move (.tmp 4), 3, some (11, true), true⟩,
  ⟨some (13, false), .binOp .leq 3 (.tmp 12) (.const (.int .i64 25)) 3, 4, some (11, true), true⟩,
  sq 14 (.pick (.tmp 11) (.tmp 13) (.const (.bool false))) 4,
  sw 8 (.assign (.tmp 14)) 4]
def ref2_Local_r3 : List Sop := [
  sq 15 (.fieldAddr 37 (.tmp 1) 3) 0,
  sq 16 (.load 3 (.tmp 15)) 3,
  sq 17 (.move (.tmp 4)) 3,
  sq 18 (.binOp .eql 3 (.tmp 17) (.const (.int .i64 22)) 3) 4,
  sq 19 (.move (.tmp 18)) 4,
  ⟨some (20, false), .move (.tmp 4), 3, some (19, false), true⟩,
  ⟨some (21, false), .binOp .eql 3 (.tmp 20) (.const (.int .i64 24)) 3, 4, some (19, false), true⟩,
  sq 22 (.pick (.tmp 19) (.const (.bool true)) (.tmp 21)) 4,
  sw 2 (.assign (.tmp 16)) 3,
  sw 3 (.assign (.tmp 22)) 4]
def ref2_Local_r4 : List Sop := [
  sq 24 (.move (.tmp 4)) 3,
  sq 25 (.binOp .geq 3 (.tmp 24) (.const (.int .i64 54)) 3) 4,
  sq 26 (.move (.tmp 25)) 4,
  ⟨some (27, false), .move (.tmp 4), 3, some (26, true), true⟩,
  ⟨some (28, false), .binOp .leq 3 (.tmp 27) (.const (.int .i64 58)) 3, 4, some (26, true), true⟩,
  sq 29 (.pick (.tmp 26) (.tmp 28) (.const (.bool false))) 4,
  sw 23 (.assign (.tmp 29)) 4]
def ref2_Local_r5 : List Sop := [
  sq 30 (.fieldAddr 37 (.tmp 1) 3) 0,
  sq 31 (.load 3 (.tmp 30)) 3,
  sq 32 (.move (.tmp 4)) 3,
  sq 33 (.binOp .eql 3 (.tmp 32) (.const (.int .i64 55)) 3) 4,
  sq 34 (.move (.tmp 33)) 4,
  ⟨some (35, false), .move (.tmp 4), 3, some (34, false), true⟩,
  ⟨some (36, false), .binOp .eql 3 (.tmp 35) (.const (.int .i64 57)) 3, 4, some (34, false), true⟩,
  sq 37 (.pick (.tmp 34) (.const (.bool true)) (.tmp 36)) 4,
  sw 2 (.assign (.tmp 31)) 3,
  sw 3 (.assign (.tmp 37)) 4]
def ref2_Local_r6 : List Sop := [
  sq 39 (.move (.tmp 4)) 3,
  sq 40 (.binOp .eql 3 (.tmp 39) (.const (.int .i64 132)) 3) 4,
  sw 38 (.assign (.tmp 40)) 4]
def ref2_Local_r7 : List Sop := [
  sq 41 (.fieldAddr 37 (.tmp 1) 3) 0,
  sq 42 (.load 3 (.tmp 41)) 3,
  sw 2 (.assign (.tmp 42)) 3,
  sw 3 (.assign (.const (.bool false))) 4]
def ref2_Local_r8 : List Sop := [
  sq 44 (.move (.tmp 4)) 3,
  sq 45 (.binOp .geq 3 (.tmp 44) (.const (.int .i64 26)) 3) 4,
  sq 46 (.move (.tmp 45)) 4,
  ⟨some (47, false), .move (.tmp 4), 3, some (46, true), true⟩,
  ⟨some (48, false), .binOp .leq 3 (.tmp 47) (.const (.int .i64 45)) 3, 4, some (46, true), true⟩,
  sq 49 (.pick (.tmp 46) (.tmp 48) (.const (.bool false))) 4,
  sw 43 (.assign (.tmp 49)) 4]
def ref2_Local_r9 : List Sop := [
  sq 50 (.move (.tmp 4)) 3,
  sq 51 (.binOp .sub 3 (.tmp 50) (.const (.int .i64 26)) 3) 3,
  sq 52 (.binOp .rem 3 (.tmp 51) (.const (.int .i64 4)) 3) 3,
  sq 53 (.move (.tmp 4)) 3,
  sq 54 (.binOp .sub 3 (.tmp 53) (.const (.int .i64 26)) 3) 3,
  sq 55 (.binOp .quo 3 (.tmp 54) (.const (.int .i64 4)) 3) 3,
  sq 56 (.binOp .eql 3 (.tmp 55) (.const (.int .i64 1)) 3) 4,
  sq 57 (.move (.tmp 56)) 4,
  ⟨some (58, false), .move (.tmp 4), 3, some (57, false), true⟩,
  ⟨some (59, false), .binOp .sub 3 (.tmp 58) (.const (.int .i64 26)) 3, 3, some (57, false), true⟩,
  ⟨some (60, false), .binOp .quo 3 (.tmp 59) (.const (.int .i64 4)) 3, 3, some (57, false), true⟩,
  ⟨some (61, false), .binOp .eql 3 (.tmp 60) (.const (.int .i64 3)) 3, 4, some (57, false), true⟩,
  sq 62 (.pick (.tmp 57) (.const (.bool true)) (.tmp 61)) 4,
  sw 2 (.assign (.tmp 52)) 3,
  sw 3 (.assign (.tmp 62)) 4]
def ref2_Local_r10 : List Sop := [
  sq 64 (.move (.tmp 4)) 3,
  sq 65 (.binOp .geq 3 (.tmp 64) (.const (.int .i64 59)) 3) 4,
  sq 66 (.move (.tmp 65)) 4,
  ⟨some (67, false), .move (.tmp 4), 3, some (66, true), true⟩,
  ⟨some (68, false), .binOp .leq 3 (.tmp 67) (.const (.int .i64 78)) 3, 4, some (66, true), true⟩,
  sq 69 (.pick (.tmp 66) (.tmp 68) (.const (.bool false))) 4,
  sw 63 (.assign (.tmp 69)) 4]
def ref2_Local_r11 : List Sop := [
  sq 70 (.move (.tmp 4)) 3,
  sq 71 (.binOp .sub 3 (.tmp 70) (.const (.int .i64 59)) 3) 3,
  sq 72 (.binOp .rem 3 (.tmp 71) (.const (.int .i64 4)) 3) 3,
  sq 73 (.move (.tmp 4)) 3,
  sq 74 (.binOp .sub 3 (.tmp 73) (.const (.int .i64 59)) 3) 3,
  sq 75 (.binOp .quo 3 (.tmp 74) (.const (.int .i64 4)) 3) 3,
  sq 76 (.binOp .eql 3 (.tmp 75) (.const (.int .i64 1)) 3) 4,
  sq 77 (.move (.tmp 76)) 4,
  ⟨some (78, false), .move (.tmp 4), 3, some (77, false), true⟩,
  ⟨some (79, false), .binOp .sub 3 (.tmp 78) (.const (.int .i64 59)) 3, 3, some (77, false), true⟩,
  ⟨some (80, false), .binOp .quo 3 (.tmp 79) (.const (.int .i64 4)) 3, 3, some (77, false), true⟩,
  ⟨some (81, false), .binOp .eql 3 (.tmp 80) (.const (.int .i64 3)) 3, 4, some (77, false), true⟩,
  sq 82 (.pick (.tmp 77) (.const (.bool true)) (.tmp 81)) 4,
  sw 2 (.assign (.tmp 72)) 3,
  sw 3 (.assign (.tmp 82)) 4]
def ref2_Local_r12 : List Sop := [
  sw 2 (.assign (.const (.int .i64 (-1)))) 3,
  sw 3 (.assign (.const (.bool false))) 4]
def ref2_Local : Cd := .seq (.region ref2_Local_r0) (.seq (.region ref2_Local_r1) (.seq (.block 0 (.seq (.region ref2_Local_r2) (.cond (.tmp 8) (.seq (.region ref2_Local_r3) (.ret)) (.seq (.region ref2_Local_r4) (.cond (.tmp 23) (.seq (.region ref2_Local_r5) (.ret)) (.seq (.region ref2_Local_r6) (.cond (.tmp 38) (.seq (.region ref2_Local_r7) (.ret)) (.seq (.region ref2_Local_r8) (.cond (.tmp 43) (.seq (.region ref2_Local_r9) (.ret)) (.seq (.region ref2_Local_r10) (.cond (.tmp 63) (.seq (.region ref2_Local_r11) (.ret)) (.skip)))))))))))) (.seq (.region ref2_Local_r12) (.ret))))
theorem ref2_Local_calls {args : List Value} {h : Heap} {R : Value → Heap → Prop} (hl : args.length = 1) (hv : Cd.vc Tryd.prog ref2_Local (retQ Tryd.prog [(2, none), (3, none)] R) (initEnv args [0, 1, 2, 3, 4, 8, 23, 38, 43, 63]) h) : HCalls Tryd.prog 24 args.toArray h R :=
  hcalls_of_vc (by kernel_rfl) Tryd.func24 (cd := ref2_Local) (L := [0, 1, 2, 3, 4, 8, 23, 38, 43, 63]) (by kernel_rfl) (by kernel_rfl) ⟨by rw [hl, Tryd.ntmps24]; decide, by rw [Tryd.ntmps24]; decide⟩ hv
def ref2_Local_gos := And.intro (@goVc Tryd.prog _ _ ref2_Local.eq_1) (And.intro (@goOps Tryd.prog _ _ ref2_Local_r0.eq_1) (And.intro (@goOps Tryd.prog _ _ ref2_Local_r1.eq_1) (And.intro (@goOps Tryd.prog _ _ ref2_Local_r2.eq_1) (And.intro (@goOps Tryd.prog _ _ ref2_Local_r3.eq_1) (And.intro (@goOps Tryd.prog _ _ ref2_Local_r4.eq_1) (And.intro (@goOps Tryd.prog _ _ ref2_Local_r5.eq_1) (And.intro (@goOps Tryd.prog _ _ ref2_Local_r6.eq_1) (And.intro (@goOps Tryd.prog _ _ ref2_Local_r7.eq_1) (And.intro (@goOps Tryd.prog _ _ ref2_Local_r8.eq_1) (And.intro (@goOps Tryd.prog _ _ ref2_Local_r9.eq_1) (And.intro (@goOps Tryd.prog _ _ ref2_Local_r10.eq_1) (And.intro (@goOps Tryd.prog _ _ ref2_Local_r11.eq_1) (@goOps Tryd.prog _ _ ref2_Local_r12.eq_1)))))))))))))

/-! jvmcore/jvmcoreref2.room: function 11: slots [0, 1, 2, 4, 5, 6, 7, 36, 48] -/
def ref2_room_r0 : List Sop := [
  sa 2 (.box 37 (.tmp 0)) 0,
  sw 4 (.assign (.const (.bool false))) 4]
def ref2_room_r1 : List Sop := [
  sq 8 (.fieldAddr 37 (.tmp 2) 1) 0,
  sq 9 (.load 5 (.tmp 8)) 5,
  sq 10 (.convert 5 3 (.tmp 9)) 3,
  sw 5 (.assign (.tmp 10)) 3]
def ref2_room_r2 : List Sop := [
  sq 11 (.move (.tmp 5)) 3,
  sc 12 (.call { callee := .value (.func 23), args := #[.tmp 11], argTypes := #[3] }) 9,
  sq 13 (.binOp .neq 9 (.tmp 12) (.const (.string { data := #[108] })) 9) 4,
  sq 14 (.move (.tmp 13)) 4,
  ⟨some (15, false), .move (.tmp 5), 3, some (14, true), true⟩,
  ⟨some (16, false), .call { callee := .value (.func 23), args := #[.tmp 15], argTypes := #[3] }, 9, some (14, true), false⟩,
  ⟨some (17, false), .binOp .neq 9 (.tmp 16) (.const (.string { data := #[110] })) 9, 4, some (14, true), true⟩,
  sq 18 (.pick (.tmp 14) (.tmp 17) (.const (.bool false))) 4,
  sq 19 (.move (.tmp 18)) 4,
  ⟨some (20, false), .move (.tmp 5), 3, some (19, true), true⟩,
  ⟨some (21, false), .binOp .geq 3 (.tmp 20) (.const (.int .i64 26)) 3, 4, some (19, true), true⟩,
  ⟨some (22, false), .move (.tmp 21), 4, some (19, true), true⟩,
  ⟨some (23, false), .move (.tmp 5), 3, some (22, true), true⟩,
  ⟨some (24, false), .binOp .leq 3 (.tmp 23) (.const (.int .i64 45)) 3, 4, some (22, true), true⟩,
  ⟨some (25, false), .pick (.tmp 22) (.tmp 24) (.const (.bool false)), 4, some (19, true), true⟩,
  ⟨some (26, false), .unOp .not 4 (.tmp 25), 4, some (19, true), true⟩,
  sq 27 (.pick (.tmp 19) (.tmp 26) (.const (.bool false))) 4,
  sq 28 (.move (.tmp 27)) 4,
  ⟨some (29, false), .move (.tmp 5), 3, some (28, true), true⟩,
  ⟨some (30, false), .binOp .geq 3 (.tmp 29) (.const (.int .i64 59)) 3, 4, some (28, true), true⟩,
  ⟨some (31, false), .move (.tmp 30), 4, some (28, true), true⟩,
  ⟨some (32, false), .move (.tmp 5), 3, some (31, true), true⟩,
  ⟨some (33, false), .binOp .leq 3 (.tmp 32) (.const (.int .i64 78)) 3, 4, some (31, true), true⟩,
  ⟨some (34, false), .pick (.tmp 31) (.tmp 33) (.const (.bool false)), 4, some (28, true), true⟩,
  ⟨some (35, false), .unOp .not 4 (.tmp 34), 4, some (28, true), true⟩,
  sw 36 (.pick (.tmp 28) (.tmp 35) (.const (.bool false))) 4]
def ref2_room_r3 : List Sop := [
  sw 4 (.assign (.const (.bool true))) 4]
def ref2_room_r4 : List Sop := [
  sq 38 (.load 37 (.tmp 2)) 37,
  sc 39 (.call { callee := .value (.func 24), args := #[.tmp 38], argTypes := #[37] }) 52,
  sq 37 (.move (.tmp 39)) 52,
  sq 40 (.extract (.tmp 37) 0) 3,
  sq 41 (.extract (.tmp 37) 1) 4,
  sw 6 (.assign (.tmp 40)) 3,
  sw 7 (.assign (.tmp 41)) 4]
def ref2_room_r5 : List Sop := [
  sq 42 (.move (.tmp 6)) 3,
  sq 43 (.binOp .lss 3 (.tmp 42) (.const (.int .i64 0)) 3) 4,
  sq 44 (.move (.tmp 43)) 4,
  ⟨some (45, false), .move (.tmp 6), 3, some (44, false), true⟩,
  ⟨some (46, false), .move (.tmp 1), 3, some (44, false), true⟩,
  ⟨some (47, false), .binOp .geq 3 (.tmp 45) (.tmp 46) 3, 4, some (44, false), true⟩,
  sw 48 (.pick (.tmp 44) (.const (.bool true)) (.tmp 47)) 4]
def ref2_room_r6 : List Sop := [
  sw 4 (.assign (.const (.bool false))) 4]
def ref2_room_r7 : List Sop := [
  sq 49 (.move (.tmp 7)) 4,
  sq 50 (.unOp .not 4 (.tmp 49)) 4,
  sq 51 (.move (.tmp 50)) 4,
  ⟨some (52, false), .move (.tmp 1), 3, some (51, false), true⟩,
  ⟨some (53, false), .move (.tmp 6), 3, some (51, false), true⟩,
  ⟨some (54, false), .binOp .sub 3 (.tmp 52) (.tmp 53) 3, 3, some (51, false), true⟩,
  ⟨some (55, false), .binOp .gtr 3 (.tmp 54) (.const (.int .i64 1)) 3, 4, some (51, false), true⟩,
  sq 56 (.pick (.tmp 51) (.const (.bool true)) (.tmp 55)) 4,
  sw 4 (.assign (.tmp 56)) 4]
def ref2_room : Cd := .seq (.region ref2_room_r0) (.seq (.region ref2_room_r1) (.seq (.seq (.region ref2_room_r2) (.cond (.tmp 36) (.seq (.region ref2_room_r3) (.ret)) (.skip))) (.seq (.region ref2_room_r4) (.seq (.seq (.region ref2_room_r5) (.cond (.tmp 48) (.seq (.region ref2_room_r6) (.ret)) (.skip))) (.seq (.region ref2_room_r7) (.ret))))))
theorem ref2_room_calls {args : List Value} {h : Heap} {R : Value → Heap → Prop} (hl : args.length = 2) (hv : Cd.vc Tryd.prog ref2_room (retQ Tryd.prog [(4, none)] R) (initEnv args [0, 1, 2, 4, 5, 6, 7, 36, 48]) h) : HCalls Tryd.prog 11 args.toArray h R :=
  hcalls_of_vc (by kernel_rfl) Tryd.func11 (cd := ref2_room) (L := [0, 1, 2, 4, 5, 6, 7, 36, 48]) (by kernel_rfl) (by kernel_rfl) ⟨by rw [hl, Tryd.ntmps11]; decide, by rw [Tryd.ntmps11]; decide⟩ hv
def ref2_room_gos := And.intro (@goVc Tryd.prog _ _ ref2_room.eq_1) (And.intro (@goOps Tryd.prog _ _ ref2_room_r0.eq_1) (And.intro (@goOps Tryd.prog _ _ ref2_room_r1.eq_1) (And.intro (@goOps Tryd.prog _ _ ref2_room_r2.eq_1) (And.intro (@goOps Tryd.prog _ _ ref2_room_r3.eq_1) (And.intro (@goOps Tryd.prog _ _ ref2_room_r4.eq_1) (And.intro (@goOps Tryd.prog _ _ ref2_room_r5.eq_1) (And.intro (@goOps Tryd.prog _ _ ref2_room_r6.eq_1) (@goOps Tryd.prog _ _ ref2_room_r7.eq_1))))))))

/-! jvmcore/jvmcoreref2.dims: function 27: slots [0, 2, 3, 13] -/
def ref2_dims_r0 : List Sop := [
  sw 2 (.assign (.const (.int .i64 0))) 3]
def ref2_dims_r1 : List Sop := [
  sw 3 (.assign (.const (.int .i64 0))) 3]
def ref2_dims_r2 : List Sop := [
  sq 4 (.move (.tmp 3)) 3,
  sq 5 (.move (.tmp 0)) 9,
  sq 6 (.call { callee := .builtin .len, args := #[.tmp 5], argTypes := #[9] }) 3,
  sq 7 (.binOp .lss 3 (.tmp 4) (.tmp 6) 3) 4,
  sq 8 (.move (.tmp 7)) 4,
  ⟨some (9, false), .move (.tmp 0), 9, some (8, true), true⟩,
  ⟨some (10, false), .move (.tmp 3), 3, some (8, true), true⟩,
  ⟨some (11, false), .index 9 (.tmp 9) (.tmp 10), 5, some (8, true), true⟩,
  ⟨some (12, false), .binOp .eql 5 (.tmp 11) (.const (.int .u8 91)) 5, 4, some (8, true), true⟩,
  sw 13 (.pick (.tmp 8) (.tmp 12) (.const (.bool false))) 4]
def ref2_dims_r3 : List Sop := [
  sq 14 (.move (.tmp 3)) 3,
  sq 15 (.binOp .add 3 (.tmp 14) (.const (.int .i64 1)) 3) 3,
  sw 3 (.assign (.tmp 15)) 3]
def ref2_dims_r4 : List Sop := [
  sq 16 (.move (.tmp 3)) 3,
  sw 2 (.assign (.tmp 16)) 3]
def ref2_dims_l0 : Cd := .seq (.seq (.region ref2_dims_r2) (.cond (.tmp 13) (.skip) (.exit 0))) (.block 1 (.region ref2_dims_r3))
def ref2_dims : Cd := .seq (.region ref2_dims_r0) (.seq (.region ref2_dims_r1) (.seq (.block 0 (.loop ref2_dims_l0)) (.seq (.region ref2_dims_r4) (.ret))))
theorem ref2_dims_calls {args : List Value} {h : Heap} {R : Value → Heap → Prop} (hl : args.length = 1) (hv : Cd.vc Tryd.prog ref2_dims (retQ Tryd.prog [(2, none)] R) (initEnv args [0, 2, 3, 13]) h) : HCalls Tryd.prog 27 args.toArray h R :=
  hcalls_of_vc (by kernel_rfl) Tryd.func27 (cd := ref2_dims) (L := [0, 2, 3, 13]) (by kernel_rfl) (by kernel_rfl) ⟨by rw [hl, Tryd.ntmps27]; decide, by rw [Tryd.ntmps27]; decide⟩ hv
def ref2_dims_gos := And.intro (@goVc Tryd.prog _ _ ref2_dims.eq_1) (And.intro (@goOps Tryd.prog _ _ ref2_dims_r0.eq_1) (And.intro (@goOps Tryd.prog _ _ ref2_dims_r1.eq_1) (And.intro (@goOps Tryd.prog _ _ ref2_dims_r2.eq_1) (And.intro (@goOps Tryd.prog _ _ ref2_dims_r3.eq_1) (And.intro (@goOps Tryd.prog _ _ ref2_dims_r4.eq_1) (@goVc Tryd.prog _ _ ref2_dims_l0.eq_1))))))

/-! jvmcore/jvmcoreref2.operand: function 12: slots [0, 1, 2, 4, 5, 6, 17, 32, 33, 46, 54, 61, 72, 81, 90, 99, 104] -/
def ref2_operand_r0 : List Sop := [
  sa 2 (.box 37 (.tmp 0)) 0,
  sw 4 (.assign (.const (.bool false))) 4]
def ref2_operand_r1 : List Sop := [
  sw 5 (.assign (.const (.int .u8 0))) 5]
def ref2_operand_r2 : List Sop := [
  sq 8 (.fieldAddr 37 (.tmp 2) 3) 0,
  sq 9 (.load 3 (.tmp 8)) 3,
  sq 10 (.binOp .gtr 3 (.tmp 9) (.const (.int .i64 0)) 3) 4,
  sq 11 (.move (.tmp 10)) 4,
  ⟨some (12, false), .fieldAddr 37 (.tmp 2) 3, 0, some (11, true), true⟩,
  ⟨some (13, false), .load 3 (.tmp 12), 3, some (11, true), true⟩,
  ⟨some (14, false), .move (.tmp 1), 23, some (11, true), true⟩,
  ⟨some (15, false), .call { callee := .builtin .len, args := #[.tmp 14], argTypes := #[23] }, 3, some (11, true), true⟩,
  ⟨some (16, false), .binOp .lss 3 (.tmp 13) (.tmp 15) 3, 4, some (11, true), true⟩,
  sw 17 (.pick (.tmp 11) (.tmp 16) (.const (.bool false))) 4]
def ref2_operand_r3 : List Sop := [
  sq 18 (.move (.tmp 1)) 23,
  sq 19 (.fieldAddr 37 (.tmp 2) 3) 0,
  sq 20 (.load 3 (.tmp 19)) 3,
  sq 21 (.indexAddr 23 (.tmp 18) (.tmp 20)) 0,
  sq 22 (.fieldAddr 32 (.tmp 21) 0) 0,
  sq 23 (.load 5 (.tmp 22)) 5,
  sw 5 (.assign (.tmp 23)) 5]
def ref2_operand_r4 : List Sop := [
  sq 25 (.move (.tmp 1)) 23,
  sq 26 (.fieldAddr 37 (.tmp 2) 3) 0,
  sq 27 (.load 3 (.tmp 26)) 3,
  sc 28 (.call { callee := .value (.func 25), args := #[.tmp 25, .tmp 27], argTypes := #[23, 3] }) 54,
  sq 24 (.move (.tmp 28)) 54,
  sq 29 (.extract (.tmp 24) 0) 9,
  sq 30 (.extract (.tmp 24) 1) 4,
  sw 6 (.assign (.tmp 29)) 9,
  sq 7 (.assign (.tmp 30)) 4]
def ref2_operand_r5 : List Sop := [
  sq 31 (.fieldAddr 37 (.tmp 2) 1) 0,
  sw 32 (.load 5 (.tmp 31)) 5]
def ref2_operand_r6 : List Sop := [
  sq 34 (.binOp .eql 5 (.tmp 32) (.const (.int .u8 18)) 5) 4,
  sw 33 (.assign (.tmp 34)) 4]
def ref2_operand_r7 : List Sop := [
  sq 35 (.binOp .eql 5 (.tmp 32) (.const (.int .u8 19)) 5) 4,
  sw 33 (.assign (.tmp 35)) 4]
def ref2_operand_r8 : List Sop := [
  sq 36 (.move (.tmp 5)) 5,
  sq 37 (.binOp .eql 5 (.tmp 36) (.const (.int .u8 3)) 5) 4,
  sq 38 (.move (.tmp 37)) 4,
  ⟨some (39, false), .move (.tmp 5), 5, some (38, false), true⟩,
  ⟨some (40, false), .binOp .eql 5 (.tmp 39) (.const (.int .u8 4)) 5, 4, some (38, false), true⟩,
  sq 41 (.pick (.tmp 38) (.const (.bool true)) (.tmp 40)) 4,
  sq 42 (.move (.tmp 41)) 4,
  ⟨some (43, false), .move (.tmp 5), 5, some (42, false), true⟩,
  ⟨some (44, false), .binOp .eql 5 (.tmp 43) (.const (.int .u8 8)) 5, 4, some (42, false), true⟩,
  sq 45 (.pick (.tmp 42) (.const (.bool true)) (.tmp 44)) 4,
  sw 4 (.assign (.tmp 45)) 4]
def ref2_operand_r9 : List Sop := [
  sq 47 (.binOp .eql 5 (.tmp 32) (.const (.int .u8 20)) 5) 4,
  sw 46 (.assign (.tmp 47)) 4]
def ref2_operand_r10 : List Sop := [
  sq 48 (.move (.tmp 5)) 5,
  sq 49 (.binOp .eql 5 (.tmp 48) (.const (.int .u8 5)) 5) 4,
  sq 50 (.move (.tmp 49)) 4,
  ⟨some (51, false), .move (.tmp 5), 5, some (50, false), true⟩,
  ⟨some (52, false), .binOp .eql 5 (.tmp 51) (.const (.int .u8 6)) 5, 4, some (50, false), true⟩,
  sq 53 (.pick (.tmp 50) (.const (.bool true)) (.tmp 52)) 4,
  sw 4 (.assign (.tmp 53)) 4]
def ref2_operand_r11 : List Sop := [
  sq 55 (.binOp .eql 5 (.tmp 32) (.const (.int .u8 178)) 5) 4,
  sw 54 (.assign (.tmp 55)) 4]
def ref2_operand_r12 : List Sop := [
  sq 56 (.binOp .eql 5 (.tmp 32) (.const (.int .u8 179)) 5) 4,
  sw 54 (.assign (.tmp 56)) 4]
def ref2_operand_r13 : List Sop := [
  sq 57 (.binOp .eql 5 (.tmp 32) (.const (.int .u8 180)) 5) 4,
  sw 54 (.assign (.tmp 57)) 4]
def ref2_operand_r14 : List Sop := [
  sq 58 (.binOp .eql 5 (.tmp 32) (.const (.int .u8 181)) 5) 4,
  sw 54 (.assign (.tmp 58)) 4]
def ref2_operand_r15 : List Sop := [
  sq 59 (.move (.tmp 5)) 5,
  sq 60 (.binOp .eql 5 (.tmp 59) (.const (.int .u8 9)) 5) 4,
  sw 4 (.assign (.tmp 60)) 4]
def ref2_operand_r16 : List Sop := [
  sq 62 (.binOp .eql 5 (.tmp 32) (.const (.int .u8 182)) 5) 4,
  sw 61 (.assign (.tmp 62)) 4]
def ref2_operand_r17 : List Sop := [
  sq 63 (.binOp .eql 5 (.tmp 32) (.const (.int .u8 183)) 5) 4,
  sw 61 (.assign (.tmp 63)) 4]
def ref2_operand_r18 : List Sop := [
  sq 64 (.binOp .eql 5 (.tmp 32) (.const (.int .u8 184)) 5) 4,
  sw 61 (.assign (.tmp 64)) 4]
def ref2_operand_r19 : List Sop := [
  sq 65 (.move (.tmp 5)) 5,
  sq 66 (.binOp .eql 5 (.tmp 65) (.const (.int .u8 10)) 5) 4,
  sq 67 (.move (.tmp 66)) 4,
  ⟨some (68, false), .load 37 (.tmp 2), 37, some (67, true), true⟩,
  ⟨some (69, false), .move (.tmp 1), 23, some (67, true), true⟩,
  ⟨some (70, false), .call { callee := .value (.func 26), args := #[.tmp 68, .tmp 69], argTypes := #[37, 23] }, 4, some (67, true), false⟩,
  sq 71 (.pick (.tmp 67) (.tmp 70) (.const (.bool false))) 4,
  sw 4 (.assign (.tmp 71)) 4]
def ref2_operand_r20 : List Sop := [
  sq 73 (.binOp .eql 5 (.tmp 32) (.const (.int .u8 185)) 5) 4,
  sw 72 (.assign (.tmp 73)) 4]
def ref2_operand_r21 : List Sop := [
  sq 74 (.move (.tmp 5)) 5,
  sq 75 (.binOp .eql 5 (.tmp 74) (.const (.int .u8 11)) 5) 4,
  sq 76 (.move (.tmp 75)) 4,
  ⟨some (77, false), .load 37 (.tmp 2), 37, some (76, true), true⟩,
  ⟨some (78, false), .move (.tmp 1), 23, some (76, true), true⟩,
  ⟨some (79, false), .call { callee := .value (.func 26), args := #[.tmp 77, .tmp 78], argTypes := #[37, 23] }, 4, some (76, true), false⟩,
  sq 80 (.pick (.tmp 76) (.tmp 79) (.const (.bool false))) 4,
  sw 4 (.assign (.tmp 80)) 4]
def ref2_operand_r22 : List Sop := [
  sq 82 (.binOp .eql 5 (.tmp 32) (.const (.int .u8 187)) 5) 4,
  sw 81 (.assign (.tmp 82)) 4]
def ref2_operand_r23 : List Sop := [
  sq 83 (.move (.tmp 5)) 5,
  sq 84 (.binOp .eql 5 (.tmp 83) (.const (.int .u8 7)) 5) 4,
  sq 85 (.move (.tmp 84)) 4,
  ⟨some (86, false), .move (.tmp 6), 9, some (85, true), true⟩,
  ⟨some (87, false), .call { callee := .value (.func 27), args := #[.tmp 86], argTypes := #[9] }, 3, some (85, true), false⟩,
  ⟨some (88, false), .binOp .eql 3 (.tmp 87) (.const (.int .i64 0)) 3, 4, some (85, true), true⟩,
  sq 89 (.pick (.tmp 85) (.tmp 88) (.const (.bool false))) 4,
  sw 4 (.assign (.tmp 89)) 4]
def ref2_operand_r24 : List Sop := [
  sq 91 (.binOp .eql 5 (.tmp 32) (.const (.int .u8 189)) 5) 4,
  sw 90 (.assign (.tmp 91)) 4]
def ref2_operand_r25 : List Sop := [
  sq 92 (.move (.tmp 5)) 5,
  sq 93 (.binOp .eql 5 (.tmp 92) (.const (.int .u8 7)) 5) 4,
  sq 94 (.move (.tmp 93)) 4,
  ⟨some (95, false), .move (.tmp 6), 9, some (94, true), true⟩,
  ⟨some (96, false), .call { callee := .value (.func 27), args := #[.tmp 95], argTypes := #[9] }, 3, some (94, true), false⟩,
  ⟨some (97, false), .binOp .lss 3 (.tmp 96) (.const (.int .i64 255)) 3, 4, some (94, true), true⟩,
  sq 98 (.pick (.tmp 94) (.tmp 97) (.const (.bool false))) 4,
  sw 4 (.assign (.tmp 98)) 4]
def ref2_operand_r26 : List Sop := [
  sq 100 (.binOp .eql 5 (.tmp 32) (.const (.int .u8 192)) 5) 4,
  sw 99 (.assign (.tmp 100)) 4]
def ref2_operand_r27 : List Sop := [
  sq 101 (.binOp .eql 5 (.tmp 32) (.const (.int .u8 193)) 5) 4,
  sw 99 (.assign (.tmp 101)) 4]
def ref2_operand_r28 : List Sop := [
  sq 102 (.move (.tmp 5)) 5,
  sq 103 (.binOp .eql 5 (.tmp 102) (.const (.int .u8 7)) 5) 4,
  sw 4 (.assign (.tmp 103)) 4]
def ref2_operand_r29 : List Sop := [
  sq 105 (.binOp .eql 5 (.tmp 32) (.const (.int .u8 197)) 5) 4,
  sw 104 (.assign (.tmp 105)) 4]
def ref2_operand_r30 : List (Sop × List Sop) := [
  (sq 106 (.move (.tmp 5)) 5, []),
  (sq 107 (.binOp .eql 5 (.tmp 106) (.const (.int .u8 7)) 5) 4, []),
  (sq 108 (.move (.tmp 107)) 4, []),
  (⟨some (109, false), .move (.tmp 6), 9, some (108, true), true⟩, []),
  (⟨some (111, false), .fieldAddr 37 (.tmp 2) 4, 0, some (108, true), true⟩, []),
  (⟨some (112, false), .load 3 (.tmp 111), 3, some (108, true), true⟩, []),
  (⟨some (110, false), .call { callee := .value (.func 27), args := #[.tmp 109], argTypes := #[9] }, 3, some (108, true), false⟩, [⟨some (111, false), .fieldAddr 37 (.tmp 2) 4, 0, some (108, true), true⟩, ⟨some (112, false), .load 3 (.tmp 111), 3, some (108, true), true⟩]),
  (⟨some (113, false), .binOp .geq 3 (.tmp 110) (.tmp 112) 3, 4, some (108, true), true⟩, []),
  (sq 114 (.pick (.tmp 108) (.tmp 113) (.const (.bool false))) 4, []),
  (sw 4 (.assign (.tmp 114)) 4, [])]
def ref2_operand_r31 : List Sop := [
  sw 4 (.assign (.const (.bool true))) 4]
def ref2_operand_t0 : Cd := .seq (.region ref2_operand_r4) (.seq (.seq (.region ref2_operand_r5) (.block 0 (.seq (.seq (.region ref2_operand_r6) (.cond (.tmp 33) (.skip) (.region ref2_operand_r7))) (.cond (.tmp 33) (.seq (.region ref2_operand_r8) (.ret)) (.seq (.region ref2_operand_r9) (.cond (.tmp 46) (.seq (.region ref2_operand_r10) (.ret)) (.seq (.seq (.region ref2_operand_r11) (.cond (.tmp 54) (.skip) (.seq (.region ref2_operand_r12) (.cond (.tmp 54) (.skip) (.seq (.region ref2_operand_r13) (.cond (.tmp 54) (.skip) (.region ref2_operand_r14))))))) (.cond (.tmp 54) (.seq (.region ref2_operand_r15) (.ret)) (.seq (.seq (.region ref2_operand_r16) (.cond (.tmp 61) (.skip) (.seq (.region ref2_operand_r17) (.cond (.tmp 61) (.skip) (.region ref2_operand_r18))))) (.cond (.tmp 61) (.seq (.region ref2_operand_r19) (.ret)) (.seq (.region ref2_operand_r20) (.cond (.tmp 72) (.seq (.region ref2_operand_r21) (.ret)) (.seq (.region ref2_operand_r22) (.cond (.tmp 81) (.seq (.region ref2_operand_r23) (.ret)) (.seq (.region ref2_operand_r24) (.cond (.tmp 90) (.seq (.region ref2_operand_r25) (.ret)) (.seq (.seq (.region ref2_operand_r26) (.cond (.tmp 99) (.skip) (.region ref2_operand_r27))) (.cond (.tmp 99) (.seq (.region ref2_operand_r28) (.ret)) (.seq (.region ref2_operand_r29) (.cond (.tmp 104) (.seq (.draw ref2_operand_r30) (.ret)) (.skip))))))))))))))))))))) (.seq (.region ref2_operand_r31) (.ret)))
def ref2_operand_t0_go := @goVc Tryd.prog _ _ ref2_operand_t0.eq_1
def ref2_operand : Cd := .seq (.region ref2_operand_r0) (.seq (.region ref2_operand_r1) (.seq (.seq (.region ref2_operand_r2) (.cond (.tmp 17) (.region ref2_operand_r3) (.skip))) (ref2_operand_t0)))
theorem ref2_operand_calls {args : List Value} {h : Heap} {R : Value → Heap → Prop} (hl : args.length = 2) (hv : Cd.vc Tryd.prog ref2_operand (retQ Tryd.prog [(4, none)] R) (initEnv args [0, 1, 2, 4, 5, 6, 17, 32, 33, 46, 54, 61, 72, 81, 90, 99, 104]) h) : HCalls Tryd.prog 12 args.toArray h R :=
  hcalls_of_vc (by kernel_rfl) Tryd.func12 (cd := ref2_operand) (L := [0, 1, 2, 4, 5, 6, 17, 32, 33, 46, 54, 61, 72, 81, 90, 99, 104]) (by kernel_rfl) (by kernel_rfl) ⟨by rw [hl, Tryd.ntmps12]; decide, by rw [Tryd.ntmps12]; decide⟩ hv
def ref2_operand_gos := And.intro (@goVc Tryd.prog _ _ ref2_operand.eq_1) (And.intro (@goOps Tryd.prog _ _ ref2_operand_r0.eq_1) (And.intro (@goOps Tryd.prog _ _ ref2_operand_r1.eq_1) (And.intro (@goOps Tryd.prog _ _ ref2_operand_r2.eq_1) (And.intro (@goOps Tryd.prog _ _ ref2_operand_r3.eq_1) (And.intro (@goOps Tryd.prog _ _ ref2_operand_r4.eq_1) (And.intro (@goOps Tryd.prog _ _ ref2_operand_r5.eq_1) (And.intro (@goOps Tryd.prog _ _ ref2_operand_r6.eq_1) (And.intro (@goOps Tryd.prog _ _ ref2_operand_r7.eq_1) (And.intro (@goOps Tryd.prog _ _ ref2_operand_r8.eq_1) (And.intro (@goOps Tryd.prog _ _ ref2_operand_r9.eq_1) (And.intro (@goOps Tryd.prog _ _ ref2_operand_r10.eq_1) (And.intro (@goOps Tryd.prog _ _ ref2_operand_r11.eq_1) (And.intro (@goOps Tryd.prog _ _ ref2_operand_r12.eq_1) (And.intro (@goOps Tryd.prog _ _ ref2_operand_r13.eq_1) (And.intro (@goOps Tryd.prog _ _ ref2_operand_r14.eq_1) (And.intro (@goOps Tryd.prog _ _ ref2_operand_r15.eq_1) (And.intro (@goOps Tryd.prog _ _ ref2_operand_r16.eq_1) (And.intro (@goOps Tryd.prog _ _ ref2_operand_r17.eq_1) (And.intro (@goOps Tryd.prog _ _ ref2_operand_r18.eq_1) (And.intro (@goOps Tryd.prog _ _ ref2_operand_r19.eq_1) (And.intro (@goOps Tryd.prog _ _ ref2_operand_r20.eq_1) (And.intro (@goOps Tryd.prog _ _ ref2_operand_r21.eq_1) (And.intro (@goOps Tryd.prog _ _ ref2_operand_r22.eq_1) (And.intro (@goOps Tryd.prog _ _ ref2_operand_r23.eq_1) (And.intro (@goOps Tryd.prog _ _ ref2_operand_r24.eq_1) (And.intro (@goOps Tryd.prog _ _ ref2_operand_r25.eq_1) (And.intro (@goOps Tryd.prog _ _ ref2_operand_r26.eq_1) (And.intro (@goOps Tryd.prog _ _ ref2_operand_r27.eq_1) (And.intro (@goOps Tryd.prog _ _ ref2_operand_r28.eq_1) (And.intro (@goOps Tryd.prog _ _ ref2_operand_r29.eq_1) (And.intro (@goDraw Tryd.prog _ _ ref2_operand_r30.eq_1) (@goOps Tryd.prog _ _ ref2_operand_r31.eq_1))))))))))))))))))))))))))))))))

/-! jvmcore/jvmcoreref2.called: function 26: slots [0, 1, 2, 4, 5, 6, 8, 10, 12, 13, 15, 26, 55, 56, 57, 58, 76] -/
def ref2_called_r0 : List Sop := [
  sa 2 (.box 37 (.tmp 0)) 0,
  sw 4 (.assign (.const (.bool false))) 4]
def ref2_called_r1 : List Sop := [
  sq 16 (.move (.tmp 1)) 23,
  sq 17 (.fieldAddr 37 (.tmp 2) 3) 0,
  sq 18 (.load 3 (.tmp 17)) 3,
  sq 19 (.indexAddr 23 (.tmp 16) (.tmp 18)) 0,
  sq 20 (.fieldAddr 32 (.tmp 19) 4) 0,
  sq 21 (.load 30 (.tmp 20)) 30,
  sq 22 (.convert 30 3 (.tmp 21)) 3,
  sw 5 (.assign (.tmp 22)) 3]
def ref2_called_r2 : List Sop := [
  sq 23 (.move (.tmp 1)) 23,
  sq 24 (.move (.tmp 5)) 3,
  sc 25 (.call { callee := .value (.func 31), args := #[.tmp 23, .tmp 24, .const (.int .u8 12)], argTypes := #[23, 3, 5] }) 4,
  sw 26 (.unOp .not 4 (.tmp 25)) 4]
def ref2_called_r3 : List Sop := [
  sw 4 (.assign (.const (.bool false))) 4]
def ref2_called_r4 : List Sop := [
  sq 28 (.move (.tmp 1)) 23,
  sq 29 (.move (.tmp 1)) 23,
  sq 30 (.move (.tmp 5)) 3,
  sq 31 (.indexAddr 23 (.tmp 29) (.tmp 30)) 0,
  sq 32 (.fieldAddr 32 (.tmp 31) 3) 0,
  sq 33 (.load 30 (.tmp 32)) 30,
  sq 34 (.convert 30 3 (.tmp 33)) 3,
  sc 35 (.call { callee := .value (.func 32), args := #[.tmp 28, .tmp 34], argTypes := #[23, 3] }) 54,
  sq 27 (.move (.tmp 35)) 54,
  sq 36 (.extract (.tmp 27) 0) 9,
  sq 37 (.extract (.tmp 27) 1) 4,
  sw 6 (.assign (.tmp 36)) 9,
  sq 7 (.assign (.tmp 37)) 4]
def ref2_called_r5 : List Sop := [
  sq 39 (.move (.tmp 1)) 23,
  sq 40 (.move (.tmp 1)) 23,
  sq 41 (.move (.tmp 5)) 3,
  sq 42 (.indexAddr 23 (.tmp 40) (.tmp 41)) 0,
  sq 43 (.fieldAddr 32 (.tmp 42) 4) 0,
  sq 44 (.load 30 (.tmp 43)) 30,
  sq 45 (.convert 30 3 (.tmp 44)) 3,
  sc 46 (.call { callee := .value (.func 32), args := #[.tmp 39, .tmp 45], argTypes := #[23, 3] }) 54,
  sq 38 (.move (.tmp 46)) 54,
  sq 47 (.extract (.tmp 38) 0) 9,
  sq 48 (.extract (.tmp 38) 1) 4,
  sw 8 (.assign (.tmp 47)) 9,
  sq 9 (.assign (.tmp 48)) 4]
def ref2_called_r6 : List Sop := [
  sq 50 (.move (.tmp 8)) 9,
  sc 51 (.call { callee := .value (.func 33), args := #[.tmp 50], argTypes := #[9] }) 58,
  sq 49 (.move (.tmp 51)) 58,
  sq 52 (.extract (.tmp 49) 0) 57,
  sq 53 (.extract (.tmp 49) 1) 9,
  sq 54 (.extract (.tmp 49) 2) 4,
  sw 10 (.assign (.tmp 52)) 57,
  sq 11 (.assign (.tmp 53)) 9,
  sw 12 (.assign (.tmp 54)) 4]
def ref2_called_r7 : List Sop := [
  sw 13 (.assign (.const (.int .i64 1))) 3]
def ref2_called_r8 : List Sop := [
  sw 55 (.move (.tmp 10)) 57,
  sw 56 (.call { callee := .builtin .len, args := #[.tmp 55], argTypes := #[57] }) 3,
  sw 57 (.move (.const (.int .i64 0))) 3]
def ref2_called_r9 : List Sop := [
  sw 58 (.binOp .lss 3 (.tmp 57) (.tmp 56) 3) 0]
def ref2_called_r10 : List Sop := [
  sq 59 (.indexAddr 57 (.tmp 55) (.tmp 57)) 0,
  sq 60 (.load 9 (.tmp 59)) 9,
  sw 15 (.assign (.tmp 60)) 9]
def ref2_called_r11 : List Sop := [
  sq 61 (.move (.tmp 13)) 3,
  sq 62 (.move (.tmp 15)) 9,
  sc 63 (.call { callee := .value (.func 34), args := #[.tmp 62], argTypes := #[9] }) 3,
  sq 64 (.binOp .add 3 (.tmp 61) (.tmp 63) 3) 3,
  sw 13 (.assign (.tmp 64)) 3]
def ref2_called_r12 : List Sop := [
  sq 65 (.binOp .add 3 (.tmp 57) (.const (.int .i64 1)) 3) 3,
  sw 57 (.move (.tmp 65)) 3]
def ref2_called_r13 : List Sop := [
  sq 66 (.move (.tmp 6)) 9,
  sq 67 (.binOp .eql 9 (.tmp 66) (.const (.string { data := #[60, 99, 108, 105, 110, 105, 116, 62] })) 9) 4,
  sq 68 (.move (.tmp 67)) 4,
  ⟨some (69, false), .move (.tmp 6), 9, some (68, false), true⟩,
  ⟨some (70, false), .binOp .eql 9 (.tmp 69) (.const (.string { data := #[60, 105, 110, 105, 116, 62] })) 9, 4, some (68, false), true⟩,
  ⟨some (71, false), .move (.tmp 70), 4, some (68, false), true⟩,
  ⟨some (72, false), .fieldAddr 37 (.tmp 2) 1, 0, some (71, true), true⟩,
  ⟨some (73, false), .load 5 (.tmp 72), 5, some (71, true), true⟩,
  ⟨some (74, false), .binOp .neq 5 (.tmp 73) (.const (.int .u8 183)) 5, 4, some (71, true), true⟩,
  ⟨some (75, false), .pick (.tmp 71) (.tmp 74) (.const (.bool false)), 4, some (68, false), true⟩,
  sw 76 (.pick (.tmp 68) (.const (.bool true)) (.tmp 75)) 4]
def ref2_called_r14 : List Sop := [
  sw 4 (.assign (.const (.bool false))) 4]
def ref2_called_r15 : List Sop := [
  sq 77 (.move (.tmp 12)) 4,
  sq 78 (.move (.tmp 77)) 4,
  ⟨some (79, false), .fieldAddr 37 (.tmp 2) 1, 0, some (78, true), true⟩,
  ⟨some (80, false), .load 5 (.tmp 79), 5, some (78, true), true⟩,
  ⟨some (81, false), .binOp .neq 5 (.tmp 80) (.const (.int .u8 185)) 5, 4, some (78, true), true⟩,
  ⟨some (82, false), .move (.tmp 81), 4, some (78, true), true⟩,
  ⟨some (83, false), .move (.tmp 13), 3, some (82, false), true⟩,
  ⟨some (84, false), .fieldAddr 37 (.tmp 2) 4, 0, some (82, false), true⟩,
  ⟨some (85, false), .load 3 (.tmp 84), 3, some (82, false), true⟩,
  ⟨some (86, false), .binOp .eql 3 (.tmp 83) (.tmp 85) 3, 4, some (82, false), true⟩,
  ⟨some (87, false), .pick (.tmp 82) (.const (.bool true)) (.tmp 86), 4, some (78, true), true⟩,
  sq 88 (.pick (.tmp 78) (.tmp 87) (.const (.bool false))) 4,
  sw 4 (.assign (.tmp 88)) 4]
def ref2_called_l0 : Cd := .seq (.region ref2_called_r9) (.seq (.cond (.tmp 58) (.skip) (.exit 0)) (.seq (.block 1 (.seq (.region ref2_called_r10) (.region ref2_called_r11))) (.region ref2_called_r12)))
def ref2_called : Cd := .seq (.region ref2_called_r0) (.seq (.region ref2_called_r1) (.seq (.seq (.region ref2_called_r2) (.cond (.tmp 26) (.seq (.region ref2_called_r3) (.ret)) (.skip))) (.seq (.region ref2_called_r4) (.seq (.region ref2_called_r5) (.seq (.region ref2_called_r6) (.seq (.region ref2_called_r7) (.seq (.seq (.region ref2_called_r8) (.block 0 (.loop ref2_called_l0))) (.seq (.seq (.region ref2_called_r13) (.cond (.tmp 76) (.seq (.region ref2_called_r14) (.ret)) (.skip))) (.seq (.region ref2_called_r15) (.ret))))))))))
theorem ref2_called_calls {args : List Value} {h : Heap} {R : Value → Heap → Prop} (hl : args.length = 2) (hv : Cd.vc Tryd.prog ref2_called (retQ Tryd.prog [(4, none)] R) (initEnv args [0, 1, 2, 4, 5, 6, 8, 10, 12, 13, 15, 26, 55, 56, 57, 58, 76]) h) : HCalls Tryd.prog 26 args.toArray h R :=
  hcalls_of_vc (by kernel_rfl) Tryd.func26 (cd := ref2_called) (L := [0, 1, 2, 4, 5, 6, 8, 10, 12, 13, 15, 26, 55, 56, 57, 58, 76]) (by kernel_rfl) (by kernel_rfl) ⟨by rw [hl, Tryd.ntmps26]; decide, by rw [Tryd.ntmps26]; decide⟩ hv
def ref2_called_gos := And.intro (@goVc Tryd.prog _ _ ref2_called.eq_1) (And.intro (@goOps Tryd.prog _ _ ref2_called_r0.eq_1) (And.intro (@goOps Tryd.prog _ _ ref2_called_r1.eq_1) (And.intro (@goOps Tryd.prog _ _ ref2_called_r2.eq_1) (And.intro (@goOps Tryd.prog _ _ ref2_called_r3.eq_1) (And.intro (@goOps Tryd.prog _ _ ref2_called_r4.eq_1) (And.intro (@goOps Tryd.prog _ _ ref2_called_r5.eq_1) (And.intro (@goOps Tryd.prog _ _ ref2_called_r6.eq_1) (And.intro (@goOps Tryd.prog _ _ ref2_called_r7.eq_1) (And.intro (@goOps Tryd.prog _ _ ref2_called_r8.eq_1) (And.intro (@goOps Tryd.prog _ _ ref2_called_r9.eq_1) (And.intro (@goOps Tryd.prog _ _ ref2_called_r10.eq_1) (And.intro (@goOps Tryd.prog _ _ ref2_called_r11.eq_1) (And.intro (@goOps Tryd.prog _ _ ref2_called_r12.eq_1) (And.intro (@goOps Tryd.prog _ _ ref2_called_r13.eq_1) (And.intro (@goOps Tryd.prog _ _ ref2_called_r14.eq_1) (And.intro (@goOps Tryd.prog _ _ ref2_called_r15.eq_1) (@goVc Tryd.prog _ _ ref2_called_l0.eq_1)))))))))))))))))

/-! jvmcore/jvmcoreref2.Check: function 7: slots [0, 1, 2, 6, 7, 9, 10, 11, 12, 13, 25] -/
def ref2_Check_r0 : List Sop := [
  sw 6 (.assign (.const (.int .i64 0))) 26,
  sw 7 (.assign (.const (.int .i64 0))) 3]
def ref2_Check_r1 : List Sop := [
  sw 10 (.move (.tmp 0)) 22,
  sw 11 (.call { callee := .builtin .len, args := #[.tmp 10], argTypes := #[22] }) 3,
  sw 12 (.move (.const (.int .i64 0))) 3]
def ref2_Check_r2 : List Sop := [
  sw 13 (.binOp .lss 3 (.tmp 12) (.tmp 11) 3) 0]
def ref2_Check_r3 : List Sop := [
  sq 14 (.indexAddr 22 (.tmp 10) (.tmp 12)) 0,
  sq 15 (.load 37 (.tmp 14)) 37,
  sa 9 (.alloc 37) 0,
  ss (.store 37 (.tmp 9) (.tmp 15))]
def ref2_Check_r4 : List Sop := [
  sq 16 (.load 37 (.tmp 9)) 37,
  sq 17 (.move (.tmp 2)) 3,
  sc 18 (.call { callee := .value (.func 11), args := #[.tmp 16, .tmp 17], argTypes := #[37, 3] }) 4,
  sq 19 (.unOp .not 4 (.tmp 18)) 4,
  sq 20 (.move (.tmp 19)) 4,
  ⟨some (21, false), .load 37 (.tmp 9), 37, some (20, false), true⟩,
  ⟨some (22, false), .move (.tmp 1), 23, some (20, false), true⟩,
  ⟨some (23, false), .call { callee := .value (.func 12), args := #[.tmp 21, .tmp 22], argTypes := #[37, 23] }, 4, some (20, false), false⟩,
  ⟨some (24, false), .unOp .not 4 (.tmp 23), 4, some (20, false), true⟩,
  sw 25 (.pick (.tmp 20) (.const (.bool true)) (.tmp 24)) 4]
def ref2_Check_r5 : List (Sop × List Sop) := [
  (sq 26 (.fieldAddr 37 (.tmp 9) 0) 0, []),
  (sq 27 (.load 3 (.tmp 26)) 3, []),
  (sw 6 (.assign (.const (.int .i64 15))) 26, []),
  (sw 7 (.assign (.tmp 27)) 3, [])]
def ref2_Check_r6 : List Sop := [
  sq 28 (.binOp .add 3 (.tmp 12) (.const (.int .i64 1)) 3) 3,
  sw 12 (.move (.tmp 28)) 3]
def ref2_Check_r7 : List Sop := [
  sw 6 (.assign (.const (.int .i64 0))) 26,
  sw 7 (.assign (.const (.int .i64 0))) 3]
def ref2_Check_l0 : Cd := .seq (.region ref2_Check_r2) (.seq (.cond (.tmp 13) (.skip) (.exit 0)) (.seq (.block 1 (.seq (.region ref2_Check_r3) (.seq (.region ref2_Check_r4) (.cond (.tmp 25) (.seq (.draw ref2_Check_r5) (.ret)) (.skip))))) (.region ref2_Check_r6)))
def ref2_Check : Cd := .seq (.region ref2_Check_r0) (.seq (.seq (.region ref2_Check_r1) (.block 0 (.loop ref2_Check_l0))) (.seq (.region ref2_Check_r7) (.ret)))
theorem ref2_Check_calls {args : List Value} {h : Heap} {R : Value → Heap → Prop} (hl : args.length = 3) (hv : Cd.vc Tryd.prog ref2_Check (retQ Tryd.prog [(6, none), (7, none)] R) (initEnv args [0, 1, 2, 6, 7, 9, 10, 11, 12, 13, 25]) h) : HCalls Tryd.prog 7 args.toArray h R :=
  hcalls_of_vc (by kernel_rfl) Tryd.func7 (cd := ref2_Check) (L := [0, 1, 2, 6, 7, 9, 10, 11, 12, 13, 25]) (by kernel_rfl) (by kernel_rfl) ⟨by rw [hl, Tryd.ntmps7]; decide, by rw [Tryd.ntmps7]; decide⟩ hv
def ref2_Check_gos := And.intro (@goVc Tryd.prog _ _ ref2_Check.eq_1) (And.intro (@goOps Tryd.prog _ _ ref2_Check_r0.eq_1) (And.intro (@goOps Tryd.prog _ _ ref2_Check_r1.eq_1) (And.intro (@goOps Tryd.prog _ _ ref2_Check_r2.eq_1) (And.intro (@goOps Tryd.prog _ _ ref2_Check_r3.eq_1) (And.intro (@goOps Tryd.prog _ _ ref2_Check_r4.eq_1) (And.intro (@goDraw Tryd.prog _ _ ref2_Check_r5.eq_1) (And.intro (@goOps Tryd.prog _ _ ref2_Check_r6.eq_1) (And.intro (@goOps Tryd.prog _ _ ref2_Check_r7.eq_1) (@goVc Tryd.prog _ _ ref2_Check_l0.eq_1)))))))))

end Go.Proofs.YtgdmoimclelfhaaDoor.C
