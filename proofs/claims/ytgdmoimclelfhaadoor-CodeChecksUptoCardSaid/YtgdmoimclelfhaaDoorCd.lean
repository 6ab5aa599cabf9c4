/- The stripped code of some functions of this seat's program, printed by a program; that it is that code is proved by the kernel. No condition. -/

import Derived.Test.YtgdmoimclelfhaaDoorProg

import Derived.Test.YtgdmoimclelfhaaDoorVcJ

set_option maxRecDepth 100000

set_option linter.defProp false

namespace Go.Proofs.YtgdmoimclelfhaaDoor.C

open Go.Vc

/-! jvmcore/jvmcoreref1.Method: function 33: slots [0, 2, 3, 4, 5, 6, 7, 8, 9, 16, 25, 33, 58] -/
def ref1_Method_r0 : List Sop := [
  sw 2 (.assign (.const (.slice none 0 0))) 57,
  sw 3 (.assign (.const (.string { data := #[] }))) 9,
  sw 4 (.assign (.const (.bool false))) 4]
def ref1_Method_r1 : List Sop := [
  sq 10 (.move (.tmp 0)) 9,
  sq 11 (.binOp .eql 9 (.tmp 10) (.const (.string { data := #[] })) 9) 4,
  sq 12 (.move (.tmp 11)) 4,
  ⟨some (13, false), .move (.tmp 0), 9, some (12, false), true⟩,
  ⟨some (14, false), .index 9 (.tmp 13) (.const (.int .i64 0)), 5, some (12, false), true⟩,
  ⟨some (15, false), .binOp .neq 5 (.tmp 14) (.const (.int .u8 40)) 5, 4, some (12, false), true⟩,
  sw 16 (.pick (.tmp 12) (.const (.bool true)) (.tmp 15)) 4]
def ref1_Method_r2 : List Sop := [
  sw 2 (.assign (.const (.slice none 0 0))) 57,
  sw 3 (.assign (.const (.string { data := #[] }))) 9,
  sw 4 (.assign (.const (.bool false))) 4]
def ref1_Method_r3 : List Sop := [
  sq 17 (.move (.tmp 0)) 9,
  sq 18 (.slice 9 (.tmp 17) (some (.const (.int .i64 1))) none none) 9,
  sw 0 (.assign (.tmp 18)) 9]
def ref1_Method_r4 : List Sop := [
  sw 5 (.assign (.const (.slice none 0 0))) 57]
def ref1_Method_r5 : List Sop := [
  sw 6 (.assign (.const (.int .i64 0))) 3]
def ref1_Method_r6 : List Sop := [
  sq 19 (.move (.tmp 0)) 9,
  sq 20 (.binOp .neq 9 (.tmp 19) (.const (.string { data := #[] })) 9) 4,
  sq 21 (.move (.tmp 20)) 4,
  ⟨some (22, false), .move (.tmp 0), 9, some (21, true), true⟩,
  ⟨some (23, false), .index 9 (.tmp 22) (.const (.int .i64 0)), 5, some (21, true), true⟩,
  ⟨some (24, false), .binOp .neq 5 (.tmp 23) (.const (.int .u8 41)) 5, 4, some (21, true), true⟩,
  sw 25 (.pick (.tmp 21) (.tmp 24) (.const (.bool false))) 4]
def ref1_Method_r7 : List Sop := [
  sq 27 (.move (.tmp 0)) 9,
  sc 28 (.call { callee := .value (.func 40), args := #[.tmp 27, .const (.int .i64 0)], argTypes := #[9, 3] }) 63,
  sq 26 (.move (.tmp 28)) 63,
  sq 29 (.extract (.tmp 26) 0) 9,
  sq 30 (.extract (.tmp 26) 1) 9,
  sq 31 (.extract (.tmp 26) 2) 4,
  sw 7 (.assign (.tmp 29)) 9,
  sw 8 (.assign (.tmp 30)) 9,
  sw 9 (.assign (.tmp 31)) 4]
def ref1_Method_r8 : List Sop := [
  sq 32 (.move (.tmp 9)) 4,
  sw 33 (.unOp .not 4 (.tmp 32)) 4]
def ref1_Method_r9 : List Sop := [
  sw 2 (.assign (.const (.slice none 0 0))) 57,
  sw 3 (.assign (.const (.string { data := #[] }))) 9,
  sw 4 (.assign (.const (.bool false))) 4]
def ref1_Method_r10 : List Sop := [
  sq 34 (.move (.tmp 5)) 57,
  sq 35 (.move (.tmp 7)) 9,
  sc 36 (.buildSlice 57 1 #[(0, .tmp 35)]) 57,
  sc 37 (.call { callee := .builtin .append, args := #[.tmp 34, .tmp 36], argTypes := #[57, 57] }) 57,
  sw 5 (.assign (.tmp 37)) 57]
def ref1_Method_r11 : List Sop := [
  sq 38 (.move (.tmp 6)) 3,
  sq 39 (.move (.tmp 7)) 9,
  sc 40 (.call { callee := .value (.func 34), args := #[.tmp 39], argTypes := #[9] }) 3,
  sq 41 (.binOp .add 3 (.tmp 38) (.tmp 40) 3) 3,
  sw 6 (.assign (.tmp 41)) 3]
def ref1_Method_r12 : List Sop := [
  sq 42 (.move (.tmp 8)) 9,
  sw 0 (.assign (.tmp 42)) 9]
def ref1_Method_r13 : List Sop := [
  sq 43 (.move (.tmp 0)) 9,
  sq 44 (.binOp .eql 9 (.tmp 43) (.const (.string { data := #[] })) 9) 4,
  sq 45 (.move (.tmp 44)) 4,
  ⟨some (46, false), .move (.tmp 6), 3, some (45, false), true⟩,
  ⟨some (47, false), .binOp .gtr 3 (.tmp 46) (.const (.int .i64 254)) 3, 4, some (45, false), true⟩,
  sq 48 (.pick (.tmp 45) (.const (.bool true)) (.tmp 47)) 4,
  sq 49 (.move (.tmp 48)) 4,
  ⟨some (50, false), .move (.tmp 0), 9, some (49, false), true⟩,
  ⟨some (51, false), .binOp .neq 9 (.tmp 50) (.const (.string { data := #[41, 86] })) 9, 4, some (49, false), true⟩,
  ⟨some (52, false), .move (.tmp 51), 4, some (49, false), true⟩,
  ⟨some (53, false), .move (.tmp 0), 9, some (52, true), true⟩,
  ⟨some (54, false), .slice 9 (.tmp 53) (some (.const (.int .i64 1))) none none, 9, some (52, true), true⟩,
  ⟨some (55, false), .call { callee := .value (.func 41), args := #[.tmp 54], argTypes := #[9] }, 4, some (52, true), false⟩,
  ⟨some (56, false), .unOp .not 4 (.tmp 55), 4, some (52, true), true⟩,
  ⟨some (57, false), .pick (.tmp 52) (.tmp 56) (.const (.bool false)), 4, some (49, false), true⟩,
  sw 58 (.pick (.tmp 49) (.const (.bool true)) (.tmp 57)) 4]
def ref1_Method_r14 : List Sop := [
  sw 2 (.assign (.const (.slice none 0 0))) 57,
  sw 3 (.assign (.const (.string { data := #[] }))) 9,
  sw 4 (.assign (.const (.bool false))) 4]
def ref1_Method_r15 : List (Sop × List Sop) := [
  (sq 59 (.move (.tmp 5)) 57, []),
  (sq 60 (.move (.tmp 0)) 9, []),
  (sq 61 (.slice 9 (.tmp 60) (some (.const (.int .i64 1))) none none) 9, []),
  (sw 2 (.assign (.tmp 59)) 57, []),
  (sw 3 (.assign (.tmp 61)) 9, []),
  (sw 4 (.assign (.const (.bool true))) 4, [])]
def ref1_Method_l0 : Cd := .seq (.seq (.region ref1_Method_r6) (.cond (.tmp 25) (.skip) (.exit 0))) (.block 1 (.seq (.region ref1_Method_r7) (.seq (.seq (.region ref1_Method_r8) (.cond (.tmp 33) (.seq (.region ref1_Method_r9) (.ret)) (.skip))) (.seq (.region ref1_Method_r10) (.seq (.region ref1_Method_r11) (.region ref1_Method_r12))))))
def ref1_Method : Cd := .seq (.region ref1_Method_r0) (.seq (.seq (.region ref1_Method_r1) (.cond (.tmp 16) (.seq (.region ref1_Method_r2) (.ret)) (.skip))) (.seq (.region ref1_Method_r3) (.seq (.region ref1_Method_r4) (.seq (.region ref1_Method_r5) (.seq (.block 0 (.loop ref1_Method_l0)) (.seq (.seq (.region ref1_Method_r13) (.cond (.tmp 58) (.seq (.region ref1_Method_r14) (.ret)) (.skip))) (.seq (.draw ref1_Method_r15) (.ret))))))))
theorem ref1_Method_calls {args : List Value} {h : Heap} {R : Value → Heap → Prop} (hl : args.length = 1) (hv : Cd.vc Tryd.prog ref1_Method (retQ Tryd.prog [(2, none), (3, none), (4, none)] R) (initEnv args [0, 2, 3, 4, 5, 6, 7, 8, 9, 16, 25, 33, 58]) h) : HCalls Tryd.prog 33 args.toArray h R :=
  hcalls_of_vc (by kernel_rfl) Tryd.func33 (cd := ref1_Method) (L := [0, 2, 3, 4, 5, 6, 7, 8, 9, 16, 25, 33, 58]) (by kernel_rfl) (by kernel_rfl) ⟨by rw [hl, Tryd.ntmps33]; decide, by rw [Tryd.ntmps33]; decide⟩ hv
def ref1_Method_gos := And.intro (@goVc Tryd.prog _ _ ref1_Method.eq_1) (And.intro (@goOps Tryd.prog _ _ ref1_Method_r0.eq_1) (And.intro (@goOps Tryd.prog _ _ ref1_Method_r1.eq_1) (And.intro (@goOps Tryd.prog _ _ ref1_Method_r2.eq_1) (And.intro (@goOps Tryd.prog _ _ ref1_Method_r3.eq_1) (And.intro (@goOps Tryd.prog _ _ ref1_Method_r4.eq_1) (And.intro (@goOps Tryd.prog _ _ ref1_Method_r5.eq_1) (And.intro (@goOps Tryd.prog _ _ ref1_Method_r6.eq_1) (And.intro (@goOps Tryd.prog _ _ ref1_Method_r7.eq_1) (And.intro (@goOps Tryd.prog _ _ ref1_Method_r8.eq_1) (And.intro (@goOps Tryd.prog _ _ ref1_Method_r9.eq_1) (And.intro (@goOps Tryd.prog _ _ ref1_Method_r10.eq_1) (And.intro (@goOps Tryd.prog _ _ ref1_Method_r11.eq_1) (And.intro (@goOps Tryd.prog _ _ ref1_Method_r12.eq_1) (And.intro (@goOps Tryd.prog _ _ ref1_Method_r13.eq_1) (And.intro (@goOps Tryd.prog _ _ ref1_Method_r14.eq_1) (And.intro (@goDraw Tryd.prog _ _ ref1_Method_r15.eq_1) (@goVc Tryd.prog _ _ ref1_Method_l0.eq_1)))))))))))))))))

/-! jvmcore/jvmcoreref1.Field: function 41: slots [0, 2, 4, 5] -/
def ref1_Field_r0 : List Sop := [
  sw 2 (.assign (.const (.bool false))) 4]
def ref1_Field_r1 : List Sop := [
  sq 7 (.move (.tmp 0)) 9,
  sc 8 (.call { callee := .value (.func 40), args := #[.tmp 7, .const (.int .i64 0)], argTypes := #[9, 3] }) 63,
  sq 6 (.move (.tmp 8)) 63,
  sq 9 (.extract (.tmp 6) 0) 9,
  sq 10 (.extract (.tmp 6) 1) 9,
  sq 11 (.extract (.tmp 6) 2) 4,
  sq 3 (.assign (.tmp 9)) 9,
  sw 4 (.assign (.tmp 10)) 9,
  sw 5 (.assign (.tmp 11)) 4]
def ref1_Field_r2 : List Sop := [
  sq 12 (.move (.tmp 5)) 4,
  sq 13 (.move (.tmp 12)) 4,
  ⟨some (14, false), .move (.tmp 4), 9, some (13, true), true⟩,
  ⟨some (15, false), .binOp .eql 9 (.tmp 14) (.const (.string { data := #[] })) 9, 4, some (13, true), true⟩,
  sq 16 (.pick (.tmp 13) (.tmp 15) (.const (.bool false))) 4,
  sw 2 (.assign (.tmp 16)) 4]
def ref1_Field : Cd := .seq (.region ref1_Field_r0) (.seq (.region ref1_Field_r1) (.seq (.region ref1_Field_r2) (.ret)))
theorem ref1_Field_calls {args : List Value} {h : Heap} {R : Value → Heap → Prop} (hl : args.length = 1) (hv : Cd.vc Tryd.prog ref1_Field (retQ Tryd.prog [(2, none)] R) (initEnv args [0, 2, 4, 5]) h) : HCalls Tryd.prog 41 args.toArray h R :=
  hcalls_of_vc (by kernel_rfl) Tryd.func41 (cd := ref1_Field) (L := [0, 2, 4, 5]) (by kernel_rfl) (by kernel_rfl) ⟨by rw [hl, Tryd.ntmps41]; decide, by rw [Tryd.ntmps41]; decide⟩ hv
def ref1_Field_gos := And.intro (@goVc Tryd.prog _ _ ref1_Field.eq_1) (And.intro (@goOps Tryd.prog _ _ ref1_Field_r0.eq_1) (And.intro (@goOps Tryd.prog _ _ ref1_Field_r1.eq_1) (@goOps Tryd.prog _ _ ref1_Field_r2.eq_1)))

/-! jvmcore/jvmcoreref1.Slots: function 34: slots [0, 2, 8, 10] -/
def ref1_Slots_r0 : List Sop := [
  sw 2 (.assign (.const (.int .i64 0))) 3]
def ref1_Slots_r1 : List Sop := [
  sq 3 (.move (.tmp 0)) 9,
  sq 4 (.binOp .eql 9 (.tmp 3) (.const (.string { data := #[74] })) 9) 4,
  sq 5 (.move (.tmp 4)) 4,
  ⟨some (6, false), .move (.tmp 0), 9, some (5, false), true⟩,
  ⟨some (7, false), .binOp .eql 9 (.tmp 6) (.const (.string { data := #[68] })) 9, 4, some (5, false), true⟩,
  sw 8 (.pick (.tmp 5) (.const (.bool true)) (.tmp 7)) 4]
def ref1_Slots_r2 : List Sop := [
  sw 2 (.assign (.const (.int .i64 2))) 3]
def ref1_Slots_r3 : List Sop := [
  sq 9 (.move (.tmp 0)) 9,
  sw 10 (.binOp .eql 9 (.tmp 9) (.const (.string { data := #[86] })) 9) 4]
def ref1_Slots_r4 : List Sop := [
  sw 2 (.assign (.const (.int .i64 0))) 3]
def ref1_Slots_r5 : List Sop := [
  sw 2 (.assign (.const (.int .i64 1))) 3]
def ref1_Slots : Cd := .seq (.region ref1_Slots_r0) (.seq (.seq (.region ref1_Slots_r1) (.cond (.tmp 8) (.seq (.region ref1_Slots_r2) (.ret)) (.skip))) (.seq (.seq (.region ref1_Slots_r3) (.cond (.tmp 10) (.seq (.region ref1_Slots_r4) (.ret)) (.skip))) (.seq (.region ref1_Slots_r5) (.ret))))
theorem ref1_Slots_calls {args : List Value} {h : Heap} {R : Value → Heap → Prop} (hl : args.length = 1) (hv : Cd.vc Tryd.prog ref1_Slots (retQ Tryd.prog [(2, none)] R) (initEnv args [0, 2, 8, 10]) h) : HCalls Tryd.prog 34 args.toArray h R :=
  hcalls_of_vc (by kernel_rfl) Tryd.func34 (cd := ref1_Slots) (L := [0, 2, 8, 10]) (by kernel_rfl) (by kernel_rfl) ⟨by rw [hl, Tryd.ntmps34]; decide, by rw [Tryd.ntmps34]; decide⟩ hv
def ref1_Slots_gos := And.intro (@goVc Tryd.prog _ _ ref1_Slots.eq_1) (And.intro (@goOps Tryd.prog _ _ ref1_Slots_r0.eq_1) (And.intro (@goOps Tryd.prog _ _ ref1_Slots_r1.eq_1) (And.intro (@goOps Tryd.prog _ _ ref1_Slots_r2.eq_1) (And.intro (@goOps Tryd.prog _ _ ref1_Slots_r3.eq_1) (And.intro (@goOps Tryd.prog _ _ ref1_Slots_r4.eq_1) (@goOps Tryd.prog _ _ ref1_Slots_r5.eq_1))))))

/-! jvmcore/jvmcoreref1.without: function 53: slots [0, 1, 4, 5, 6, 10, 16, 25] -/
def ref1_without_r0 : List Sop := [
  sw 4 (.assign (.const (.bool false))) 4]
def ref1_without_r1 : List Sop := [
  sw 5 (.assign (.const (.int .i64 0))) 3]
def ref1_without_r2 : List Sop := [
  sq 7 (.move (.tmp 5)) 3,
  sq 8 (.move (.tmp 0)) 9,
  sq 9 (.call { callee := .builtin .len, args := #[.tmp 8], argTypes := #[9] }) 3,
  sw 10 (.binOp .lss 3 (.tmp 7) (.tmp 9) 3) 4]
def ref1_without_r3 : List Sop := [
  sw 6 (.assign (.const (.int .i64 0))) 3]
def ref1_without_r4 : List Sop := [
  sq 13 (.move (.tmp 6)) 3,
  sq 14 (.move (.tmp 1)) 9,
  sq 15 (.call { callee := .builtin .len, args := #[.tmp 14], argTypes := #[9] }) 3,
  sw 16 (.binOp .lss 3 (.tmp 13) (.tmp 15) 3) 4]
def ref1_without_r5 : List (Sop × List Sop) := [
  (sq 19 (.move (.tmp 0)) 9, []),
  (sq 20 (.move (.tmp 5)) 3, []),
  (sq 21 (.index 9 (.tmp 19) (.tmp 20)) 5, []),
  (sq 22 (.move (.tmp 1)) 9, []),
  (sq 23 (.move (.tmp 6)) 3, []),
  (sq 24 (.index 9 (.tmp 22) (.tmp 23)) 5, []),
  (sw 25 (.binOp .eql 5 (.tmp 21) (.tmp 24) 5) 4, [])]
def ref1_without_r6 : List Sop := [
  sw 4 (.assign (.const (.bool false))) 4]
def ref1_without_r7 : List Sop := [
  sq 17 (.move (.tmp 6)) 3,
  sq 18 (.binOp .add 3 (.tmp 17) (.const (.int .i64 1)) 3) 3,
  sw 6 (.assign (.tmp 18)) 3]
def ref1_without_r8 : List Sop := [
  sq 11 (.move (.tmp 5)) 3,
  sq 12 (.binOp .add 3 (.tmp 11) (.const (.int .i64 1)) 3) 3,
  sw 5 (.assign (.tmp 12)) 3]
def ref1_without_r9 : List Sop := [
  sq 26 (.move (.tmp 0)) 9,
  sq 27 (.binOp .neq 9 (.tmp 26) (.const (.string { data := #[] })) 9) 4,
  sw 4 (.assign (.tmp 27)) 4]
def ref1_without_l0 : Cd := .seq (.seq (.region ref1_without_r4) (.cond (.tmp 16) (.skip) (.exit 2))) (.seq (.block 3 (.seq (.draw ref1_without_r5) (.cond (.tmp 25) (.seq (.region ref1_without_r6) (.ret)) (.skip)))) (.region ref1_without_r7))
def ref1_without_l1 : Cd := .seq (.seq (.region ref1_without_r2) (.cond (.tmp 10) (.skip) (.exit 0))) (.seq (.block 1 (.seq (.region ref1_without_r3) (.block 2 (.loop ref1_without_l0)))) (.region ref1_without_r8))
def ref1_without : Cd := .seq (.region ref1_without_r0) (.seq (.seq (.region ref1_without_r1) (.block 0 (.loop ref1_without_l1))) (.seq (.region ref1_without_r9) (.ret)))
theorem ref1_without_calls {args : List Value} {h : Heap} {R : Value → Heap → Prop} (hl : args.length = 2) (hv : Cd.vc Tryd.prog ref1_without (retQ Tryd.prog [(4, none)] R) (initEnv args [0, 1, 4, 5, 6, 10, 16, 25]) h) : HCalls Tryd.prog 53 args.toArray h R :=
  hcalls_of_vc (by kernel_rfl) Tryd.func53 (cd := ref1_without) (L := [0, 1, 4, 5, 6, 10, 16, 25]) (by kernel_rfl) (by kernel_rfl) ⟨by rw [hl, Tryd.ntmps53]; decide, by rw [Tryd.ntmps53]; decide⟩ hv
def ref1_without_gos := And.intro (@goVc Tryd.prog _ _ ref1_without.eq_1) (And.intro (@goOps Tryd.prog _ _ ref1_without_r0.eq_1) (And.intro (@goOps Tryd.prog _ _ ref1_without_r1.eq_1) (And.intro (@goOps Tryd.prog _ _ ref1_without_r2.eq_1) (And.intro (@goOps Tryd.prog _ _ ref1_without_r3.eq_1) (And.intro (@goOps Tryd.prog _ _ ref1_without_r4.eq_1) (And.intro (@goDraw Tryd.prog _ _ ref1_without_r5.eq_1) (And.intro (@goOps Tryd.prog _ _ ref1_without_r6.eq_1) (And.intro (@goOps Tryd.prog _ _ ref1_without_r7.eq_1) (And.intro (@goOps Tryd.prog _ _ ref1_without_r8.eq_1) (And.intro (@goOps Tryd.prog _ _ ref1_without_r9.eq_1) (And.intro (@goVc Tryd.prog _ _ ref1_without_l0.eq_1) (@goVc Tryd.prog _ _ ref1_without_l1.eq_1))))))))))))

/-! jvmcore/jvmcoreref1.path: function 46: slots [0, 2, 3, 4, 8, 20, 26] -/
def ref1_path_r0 : List Sop := [
  sw 2 (.assign (.const (.bool false))) 4]
def ref1_path_r1 : List Sop := [
  sw 3 (.assign (.const (.int .i64 0))) 3]
def ref1_path_r2 : List Sop := [
  sw 4 (.assign (.const (.int .i64 0))) 3]
def ref1_path_r3 : List Sop := [
  sq 5 (.move (.tmp 4)) 3,
  sq 6 (.move (.tmp 0)) 9,
  sq 7 (.call { callee := .builtin .len, args := #[.tmp 6], argTypes := #[9] }) 3,
  sw 8 (.binOp .leq 3 (.tmp 5) (.tmp 7) 3) 4]
def ref1_path_r4 : List Sop := [
  sq 11 (.move (.tmp 4)) 3,
  sq 12 (.move (.tmp 0)) 9,
  sq 13 (.call { callee := .builtin .len, args := #[.tmp 12], argTypes := #[9] }) 3,
  sq 14 (.binOp .eql 3 (.tmp 11) (.tmp 13) 3) 4,
  sq 15 (.move (.tmp 14)) 4,
  ⟨some (16, false), .move (.tmp 0), 9, some (15, false), true⟩,
  ⟨some (17, false), .move (.tmp 4), 3, some (15, false), true⟩,
  ⟨some (18, false), .index 9 (.tmp 16) (.tmp 17), 5, some (15, false), true⟩,
  ⟨some (19, false), .binOp .eql 5 (.tmp 18) (.const (.int .u8 47)) 5, 4, some (15, false), true⟩,
  sw 20 (.pick (.tmp 15) (.const (.bool true)) (.tmp 19)) 4]
def ref1_path_r5 : List Sop := [
  sq 21 (.move (.tmp 0)) 9,
  sq 22 (.move (.tmp 3)) 3,
  sq 23 (.move (.tmp 4)) 3,
  sq 24 (.slice 9 (.tmp 21) (some (.tmp 22)) (some (.tmp 23)) none) 9,
  sc 25 (.call { callee := .value (.func 53), args := #[.tmp 24, .const (.string { data := #[46, 59, 91] })], argTypes := #[9, 9] }) 4,
  sw 26 (.unOp .not 4 (.tmp 25)) 4]
def ref1_path_r6 : List Sop := [
  sw 2 (.assign (.const (.bool false))) 4]
def ref1_path_r7 : List Sop := [
  sq 27 (.move (.tmp 4)) 3,
  sq 28 (.binOp .add 3 (.tmp 27) (.const (.int .i64 1)) 3) 3,
  sw 3 (.assign (.tmp 28)) 3]
def ref1_path_r8 : List Sop := [
  sq 9 (.move (.tmp 4)) 3,
  sq 10 (.binOp .add 3 (.tmp 9) (.const (.int .i64 1)) 3) 3,
  sw 4 (.assign (.tmp 10)) 3]
def ref1_path_r9 : List Sop := [
  sw 2 (.assign (.const (.bool true))) 4]
def ref1_path_l0 : Cd := .seq (.seq (.region ref1_path_r3) (.cond (.tmp 8) (.skip) (.exit 0))) (.seq (.block 1 (.seq (.region ref1_path_r4) (.cond (.tmp 20) (.seq (.seq (.region ref1_path_r5) (.cond (.tmp 26) (.seq (.region ref1_path_r6) (.ret)) (.skip))) (.region ref1_path_r7)) (.skip)))) (.region ref1_path_r8))
def ref1_path : Cd := .seq (.region ref1_path_r0) (.seq (.region ref1_path_r1) (.seq (.seq (.region ref1_path_r2) (.block 0 (.loop ref1_path_l0))) (.seq (.region ref1_path_r9) (.ret))))
theorem ref1_path_calls {args : List Value} {h : Heap} {R : Value → Heap → Prop} (hl : args.length = 1) (hv : Cd.vc Tryd.prog ref1_path (retQ Tryd.prog [(2, none)] R) (initEnv args [0, 2, 3, 4, 8, 20, 26]) h) : HCalls Tryd.prog 46 args.toArray h R :=
  hcalls_of_vc (by kernel_rfl) Tryd.func46 (cd := ref1_path) (L := [0, 2, 3, 4, 8, 20, 26]) (by kernel_rfl) (by kernel_rfl) ⟨by rw [hl, Tryd.ntmps46]; decide, by rw [Tryd.ntmps46]; decide⟩ hv
def ref1_path_gos := And.intro (@goVc Tryd.prog _ _ ref1_path.eq_1) (And.intro (@goOps Tryd.prog _ _ ref1_path_r0.eq_1) (And.intro (@goOps Tryd.prog _ _ ref1_path_r1.eq_1) (And.intro (@goOps Tryd.prog _ _ ref1_path_r2.eq_1) (And.intro (@goOps Tryd.prog _ _ ref1_path_r3.eq_1) (And.intro (@goOps Tryd.prog _ _ ref1_path_r4.eq_1) (And.intro (@goOps Tryd.prog _ _ ref1_path_r5.eq_1) (And.intro (@goOps Tryd.prog _ _ ref1_path_r6.eq_1) (And.intro (@goOps Tryd.prog _ _ ref1_path_r7.eq_1) (And.intro (@goOps Tryd.prog _ _ ref1_path_r8.eq_1) (And.intro (@goOps Tryd.prog _ _ ref1_path_r9.eq_1) (@goVc Tryd.prog _ _ ref1_path_l0.eq_1)))))))))))

/-! jvmcore/jvmcoreref1.one: function 40: slots [0, 1, 4, 5, 6, 7, 8, 9, 10, 16, 18, 19, 32, 47, 52, 58] -/
def ref1_one_r0 : List Sop := [
  sw 4 (.assign (.const (.string { data := #[] }))) 9,
  sw 5 (.assign (.const (.string { data := #[] }))) 9,
  sw 6 (.assign (.const (.bool false))) 4]
def ref1_one_r1 : List Sop := [
  sq 11 (.move (.tmp 0)) 9,
  sq 12 (.binOp .eql 9 (.tmp 11) (.const (.string { data := #[] })) 9) 4,
  sq 13 (.move (.tmp 12)) 4,
  ⟨some (14, false), .move (.tmp 1), 3, some (13, false), true⟩,
  ⟨some (15, false), .binOp .gtr 3 (.tmp 14) (.const (.int .i64 255)) 3, 4, some (13, false), true⟩,
  sw 16 (.pick (.tmp 13) (.const (.bool true)) (.tmp 15)) 4]
def ref1_one_r2 : List Sop := [
  sw 4 (.assign (.const (.string { data := #[] }))) 9,
  sw 5 (.assign (.const (.string { data := #[] }))) 9,
  sw 6 (.assign (.const (.bool false))) 4]
def ref1_one_r3 : List Sop := [
  sq 17 (.move (.tmp 0)) 9,
  sw 18 (.index 9 (.tmp 17) (.const (.int .i64 0))) 5]
def ref1_one_r4 : List Sop := [
  sq 20 (.binOp .eql 5 (.tmp 18) (.const (.int .u8 66)) 5) 4,
  sw 19 (.assign (.tmp 20)) 4]
def ref1_one_r5 : List Sop := [
  sq 21 (.binOp .eql 5 (.tmp 18) (.const (.int .u8 67)) 5) 4,
  sw 19 (.assign (.tmp 21)) 4]
def ref1_one_r6 : List Sop := [
  sq 22 (.binOp .eql 5 (.tmp 18) (.const (.int .u8 68)) 5) 4,
  sw 19 (.assign (.tmp 22)) 4]
def ref1_one_r7 : List Sop := [
  sq 23 (.binOp .eql 5 (.tmp 18) (.const (.int .u8 70)) 5) 4,
  sw 19 (.assign (.tmp 23)) 4]
def ref1_one_r8 : List Sop := [
  sq 24 (.binOp .eql 5 (.tmp 18) (.const (.int .u8 73)) 5) 4,
  sw 19 (.assign (.tmp 24)) 4]
def ref1_one_r9 : List Sop := [
  sq 25 (.binOp .eql 5 (.tmp 18) (.const (.int .u8 74)) 5) 4,
  sw 19 (.assign (.tmp 25)) 4]
def ref1_one_r10 : List Sop := [
  sq 26 (.binOp .eql 5 (.tmp 18) (.const (.int .u8 83)) 5) 4,
  sw 19 (.assign (.tmp 26)) 4]
def ref1_one_r11 : List Sop := [
  sq 27 (.binOp .eql 5 (.tmp 18) (.const (.int .u8 90)) 5) 4,
  sw 19 (.assign (.tmp 27)) 4]
def ref1_one_r12 : List (Sop × List Sop) := [
  (sq 28 (.move (.tmp 0)) 9, []),
  (sq 29 (.slice 9 (.tmp 28) none (some (.const (.int .i64 1))) none) 9, []),
  (sq 30 (.move (.tmp 0)) 9, []),
  (sq 31 (.slice 9 (.tmp 30) (some (.const (.int .i64 1))) none none) 9, []),
  (sw 4 (.assign (.tmp 29)) 9, []),
  (sw 5 (.assign (.tmp 31)) 9, []),
  (sw 6 (.assign (.const (.bool true))) 4, [])]
def ref1_one_r13 : List Sop := [
  sq 33 (.binOp .eql 5 (.tmp 18) (.const (.int .u8 91)) 5) 4,
  sw 32 (.assign (.tmp 33)) 4]
def ref1_one_r14 : List Sop := [
  sq 35 (.move (.tmp 0)) 9,
  sq 36 (.slice 9 (.tmp 35) (some (.const (.int .i64 1))) none none) 9,
  sq 37 (.move (.tmp 1)) 3,
  sq 38 (.binOp .add 3 (.tmp 37) (.const (.int .i64 1)) 3) 3,
  sc 39 (.call { callee := .value (.func 40), args := #[.tmp 36, .tmp 38], argTypes := #[9, 3] }) 63,
  sq 34 (.move (.tmp 39)) 63,
  sq 40 (.extract (.tmp 34) 0) 9,
  sq 41 (.extract (.tmp 34) 1) 9,
  sq 42 (.extract (.tmp 34) 2) 4,
  sw 7 (.assign (.tmp 40)) 9,
  sw 8 (.assign (.tmp 41)) 9,
  sw 9 (.assign (.tmp 42)) 4]
def ref1_one_r15 : List Sop := [
  sq 43 (.move (.tmp 7)) 9,
  sq 44 (.binOp .add 9 (.const (.string { data := #[91] })) (.tmp 43) 9) 9,
  sq 45 (.move (.tmp 8)) 9,
  sq 46 (.move (.tmp 9)) 4,
  sw 4 (.assign (.tmp 44)) 9,
  sw 5 (.assign (.tmp 45)) 9,
  sw 6 (.assign (.tmp 46)) 4]
def ref1_one_r16 : List Sop := [
  sq 48 (.binOp .eql 5 (.tmp 18) (.const (.int .u8 76)) 5) 4,
  sw 47 (.assign (.tmp 48)) 4]
def ref1_one_r17 : List Sop := [
  sw 10 (.assign (.const (.int .i64 1))) 3]
def ref1_one_r18 : List Sop := [
  sq 49 (.move (.tmp 10)) 3,
  sq 50 (.move (.tmp 0)) 9,
  sq 51 (.call { callee := .builtin .len, args := #[.tmp 50], argTypes := #[9] }) 3,
  sw 52 (.binOp .lss 3 (.tmp 49) (.tmp 51) 3) 4]
def ref1_one_r19 : List Sop := [
  sq 55 (.move (.tmp 0)) 9,
  sq 56 (.move (.tmp 10)) 3,
  sq 57 (.index 9 (.tmp 55) (.tmp 56)) 5,
  sw 58 (.binOp .eql 5 (.tmp 57) (.const (.int .u8 59)) 5) 4]
def ref1_one_r20 : List (Sop × List Sop) := [
  (sq 59 (.move (.tmp 0)) 9, []),
  (sq 60 (.move (.tmp 10)) 3, []),
  (sq 61 (.binOp .add 3 (.tmp 60) (.const (.int .i64 1)) 3) 3, []),
  (sq 62 (.slice 9 (.tmp 59) none (some (.tmp 61)) none) 9, []),
  (sq 63 (.move (.tmp 0)) 9, []),
  (sq 64 (.move (.tmp 10)) 3, []),
  (sq 65 (.binOp .add 3 (.tmp 64) (.const (.int .i64 1)) 3) 3, []),
  (sq 66 (.slice 9 (.tmp 63) (some (.tmp 65)) none none) 9, []),
  (sq 67 (.move (.tmp 0)) 9, []),
  (sq 68 (.move (.tmp 10)) 3, []),
  (sq 69 (.slice 9 (.tmp 67) (some (.const (.int .i64 1))) (some (.tmp 68)) none) 9, []),
  (sc 70 (.call { callee := .value (.func 46), args := #[.tmp 69], argTypes := #[9] }) 4, [sq 61 (.binOp .add 3 (.tmp 60) (.const (.int .i64 1)) 3) 3, sq 62 (.slice 9 (.tmp 59) none (some (.tmp 61)) none) 9, sq 65 (.binOp .add 3 (.tmp 64) (.const (.int .i64 1)) 3) 3, sq 66 (.slice 9 (.tmp 63) (some (.tmp 65)) none none) 9]),
  (sw 4 (.assign (.tmp 62)) 9, []),
  (sw 5 (.assign (.tmp 66)) 9, []),
  (sw 6 (.assign (.tmp 70)) 4, [])]
def ref1_one_r21 : List Sop := [
  sq 53 (.move (.tmp 10)) 3,
  sq 54 (.binOp .add 3 (.tmp 53) (.const (.int .i64 1)) 3) 3,
  sw 10 (.assign (.tmp 54)) 3]
def ref1_one_r22 : List Sop := [
  sw 4 (.assign (.const (.string { data := #[] }))) 9,
  sw 5 (.assign (.const (.string { data := #[] }))) 9,
  sw 6 (.assign (.const (.bool false))) 4]
def ref1_one_l0 : Cd := .seq (.seq (.region ref1_one_r18) (.cond (.tmp 52) (.skip) (.exit 1))) (.seq (.block 2 (.seq (.region ref1_one_r19) (.cond (.tmp 58) (.seq (.draw ref1_one_r20) (.ret)) (.skip)))) (.region ref1_one_r21))
def ref1_one : Cd := .seq (.region ref1_one_r0) (.seq (.seq (.region ref1_one_r1) (.cond (.tmp 16) (.seq (.region ref1_one_r2) (.ret)) (.skip))) (.seq (.seq (.region ref1_one_r3) (.block 0 (.seq (.seq (.region ref1_one_r4) (.cond (.tmp 19) (.skip) (.seq (.region ref1_one_r5) (.cond (.tmp 19) (.skip) (.seq (.region ref1_one_r6) (.cond (.tmp 19) (.skip) (.seq (.region ref1_one_r7) (.cond (.tmp 19) (.skip) (.seq (.region ref1_one_r8) (.cond (.tmp 19) (.skip) (.seq (.region ref1_one_r9) (.cond (.tmp 19) (.skip) (.seq (.region ref1_one_r10) (.cond (.tmp 19) (.skip) (.region ref1_one_r11))))))))))))))) (.cond (.tmp 19) (.seq (.draw ref1_one_r12) (.ret)) (.seq (.region ref1_one_r13) (.cond (.tmp 32) (.seq (.region ref1_one_r14) (.seq (.region ref1_one_r15) (.ret))) (.seq (.region ref1_one_r16) (.cond (.tmp 47) (.seq (.region ref1_one_r17) (.block 1 (.loop ref1_one_l0))) (.skip))))))))) (.seq (.region ref1_one_r22) (.ret))))
theorem ref1_one_calls {args : List Value} {h : Heap} {R : Value → Heap → Prop} (hl : args.length = 2) (hv : Cd.vc Tryd.prog ref1_one (retQ Tryd.prog [(4, none), (5, none), (6, none)] R) (initEnv args [0, 1, 4, 5, 6, 7, 8, 9, 10, 16, 18, 19, 32, 47, 52, 58]) h) : HCalls Tryd.prog 40 args.toArray h R :=
  hcalls_of_vc (by kernel_rfl) Tryd.func40 (cd := ref1_one) (L := [0, 1, 4, 5, 6, 7, 8, 9, 10, 16, 18, 19, 32, 47, 52, 58]) (by kernel_rfl) (by kernel_rfl) ⟨by rw [hl, Tryd.ntmps40]; decide, by rw [Tryd.ntmps40]; decide⟩ hv
def ref1_one_gos := And.intro (@goVc Tryd.prog _ _ ref1_one.eq_1) (And.intro (@goOps Tryd.prog _ _ ref1_one_r0.eq_1) (And.intro (@goOps Tryd.prog _ _ ref1_one_r1.eq_1) (And.intro (@goOps Tryd.prog _ _ ref1_one_r2.eq_1) (And.intro (@goOps Tryd.prog _ _ ref1_one_r3.eq_1) (And.intro (@goOps Tryd.prog _ _ ref1_one_r4.eq_1) (And.intro (@goOps Tryd.prog _ _ ref1_one_r5.eq_1) (And.intro (@goOps Tryd.prog _ _ ref1_one_r6.eq_1) (And.intro (@goOps Tryd.prog _ _ ref1_one_r7.eq_1) (And.intro (@goOps Tryd.prog _ _ ref1_one_r8.eq_1) (And.intro (@goOps Tryd.prog _ _ ref1_one_r9.eq_1) (And.intro (@goOps Tryd.prog _ _ ref1_one_r10.eq_1) (And.intro (@goOps Tryd.prog _ _ ref1_one_r11.eq_1) (And.intro (@goDraw Tryd.prog _ _ ref1_one_r12.eq_1) (And.intro (@goOps Tryd.prog _ _ ref1_one_r13.eq_1) (And.intro (@goOps Tryd.prog _ _ ref1_one_r14.eq_1) (And.intro (@goOps Tryd.prog _ _ ref1_one_r15.eq_1) (And.intro (@goOps Tryd.prog _ _ ref1_one_r16.eq_1) (And.intro (@goOps Tryd.prog _ _ ref1_one_r17.eq_1) (And.intro (@goOps Tryd.prog _ _ ref1_one_r18.eq_1) (And.intro (@goOps Tryd.prog _ _ ref1_one_r19.eq_1) (And.intro (@goDraw Tryd.prog _ _ ref1_one_r20.eq_1) (And.intro (@goOps Tryd.prog _ _ ref1_one_r21.eq_1) (And.intro (@goOps Tryd.prog _ _ ref1_one_r22.eq_1) (@goVc Tryd.prog _ _ ref1_one_l0.eq_1))))))))))))))))))))))))

end Go.Proofs.YtgdmoimclelfhaaDoor.C
