/- The stripped code of some functions of this seat's program, printed by a program; that it is that code is proved by the kernel. No condition. -/

import Derived.Test.YtgdmoimclelfhaaDoorProg

import Derived.Test.YtgdmoimclelfhaaDoorVcJ

set_option maxRecDepth 100000

set_option linter.defProp false

namespace Go.Proofs.YtgdmoimclelfhaaDoor.C

open Go.Vc

/-! jvmcore/pool.Is: function 18: slots [0, 1, 2, 6] -/
def pool_Is_r0 : List Sop := [
  sw 6 (.assign (.const (.bool false))) 4]
def pool_Is_r1 : List Sop := [
  sq 7 (.move (.tmp 1)) 30,
  sq 8 (.convert 30 3 (.tmp 7)) 3,
  sq 9 (.move (.tmp 0)) 23,
  sq 10 (.call { callee := .builtin .len, args := #[.tmp 9], argTypes := #[23] }) 3,
  sq 11 (.binOp .lss 3 (.tmp 8) (.tmp 10) 3) 4,
  sq 12 (.move (.tmp 11)) 4,
  ⟨some (13, false), .move (.tmp 1), 30, some (12, true), true⟩,
  ⟨some (14, false), .binOp .gtr 30 (.tmp 13) (.const (.int .u16 0)) 30, 4, some (12, true), true⟩,
  sq 15 (.pick (.tmp 12) (.tmp 14) (.const (.bool false))) 4,
  sq 16 (.move (.tmp 15)) 4,
  ⟨some (17, false), .move (.tmp 0), 23, some (16, true), true⟩,
  ⟨some (18, false), .move (.tmp 1), 30, some (16, true), true⟩,
  ⟨some (19, false), .indexAddr 23 (.tmp 17) (.tmp 18), 0, some (16, true), true⟩,
  ⟨some (20, false), .fieldAddr 32 (.tmp 19) 0, 0, some (16, true), true⟩,
  ⟨some (21, false), .load 5 (.tmp 20), 5, some (16, true), true⟩,
  ⟨some (22, false), .move (.tmp 2), 5, some (16, true), true⟩,
  ⟨some (23, false), .binOp .eql 5 (.tmp 21) (.tmp 22) 5, 4, some (16, true), true⟩,
  sq 24 (.pick (.tmp 16) (.tmp 23) (.const (.bool false))) 4,
  sw 6 (.assign (.tmp 24)) 4]
def pool_Is : Cd := .seq (.region pool_Is_r0) (.seq (.region pool_Is_r1) (.ret))
theorem pool_Is_calls {args : List Value} {h : Heap} {R : Value → Heap → Prop} (hl : args.length = 3) (hv : Cd.vc Tryd.prog pool_Is (retQ Tryd.prog [(6, none)] R) (initEnv args [0, 1, 2, 6]) h) : HCalls Tryd.prog 18 args.toArray h R :=
  hcalls_of_vc (by kernel_rfl) Tryd.func18 (cd := pool_Is) (L := [0, 1, 2, 6]) (by kernel_rfl) (by kernel_rfl) ⟨by rw [hl, Tryd.ntmps18]; decide, by rw [Tryd.ntmps18]; decide⟩ hv
def pool_Is_gos := And.intro (@goVc Tryd.prog _ _ pool_Is.eq_1) (And.intro (@goOps Tryd.prog _ _ pool_Is_r0.eq_1) (@goOps Tryd.prog _ _ pool_Is_r1.eq_1))

/-! jvmcore/pool.String: function 20: slots [0, 1, 4, 8] -/
def pool_String_r0 : List Sop := [
  sw 4 (.assign (.const (.string { data := #[] }))) 9]
def pool_String_r1 : List Sop := [
  sq 5 (.move (.tmp 0)) 23,
  sq 6 (.move (.tmp 1)) 30,
  sc 7 (.call { callee := .value (.func 18), args := #[.tmp 5, .tmp 6, .const (.int .u8 1)], argTypes := #[23, 30, 5] }) 4,
  sw 8 (.unOp .not 4 (.tmp 7)) 4]
def pool_String_r2 : List Sop := [
  sw 4 (.assign (.const (.string { data := #[] }))) 9]
def pool_String_r3 : List Sop := [
  sq 9 (.move (.tmp 0)) 23,
  sq 10 (.move (.tmp 1)) 30,
  sq 11 (.indexAddr 23 (.tmp 9) (.tmp 10)) 0,
  sq 12 (.fieldAddr 32 (.tmp 11) 1) 0,
  sq 13 (.load 9 (.tmp 12)) 9,
  sw 4 (.assign (.tmp 13)) 9]
def pool_String : Cd := .seq (.region pool_String_r0) (.seq (.seq (.region pool_String_r1) (.cond (.tmp 8) (.seq (.region pool_String_r2) (.ret)) (.skip))) (.seq (.region pool_String_r3) (.ret)))
theorem pool_String_calls {args : List Value} {h : Heap} {R : Value → Heap → Prop} (hl : args.length = 2) (hv : Cd.vc Tryd.prog pool_String (retQ Tryd.prog [(4, none)] R) (initEnv args [0, 1, 4, 8]) h) : HCalls Tryd.prog 20 args.toArray h R :=
  hcalls_of_vc (by kernel_rfl) Tryd.func20 (cd := pool_String) (L := [0, 1, 4, 8]) (by kernel_rfl) (by kernel_rfl) ⟨by rw [hl, Tryd.ntmps20]; decide, by rw [Tryd.ntmps20]; decide⟩ hv
def pool_String_gos := And.intro (@goVc Tryd.prog _ _ pool_String.eq_1) (And.intro (@goOps Tryd.prog _ _ pool_String_r0.eq_1) (And.intro (@goOps Tryd.prog _ _ pool_String_r1.eq_1) (And.intro (@goOps Tryd.prog _ _ pool_String_r2.eq_1) (@goOps Tryd.prog _ _ pool_String_r3.eq_1))))

/-! jvmcore/jvmcoreref1.Is: function 31: slots [0, 1, 2, 6] -/
def ref1_Is_r0 : List Sop := [
  sw 6 (.assign (.const (.bool false))) 4]
def ref1_Is_r1 : List Sop := [
  sq 7 (.move (.tmp 1)) 3,
  sq 8 (.binOp .gtr 3 (.tmp 7) (.const (.int .i64 0)) 3) 4,
  sq 9 (.move (.tmp 8)) 4,
  ⟨some (10, false), .move (.tmp 1), 3, some (9, true), true⟩,
  ⟨some (11, false), .move (.tmp 0), 23, some (9, true), true⟩,
  ⟨some (12, false), .call { callee := .builtin .len, args := #[.tmp 11], argTypes := #[23] }, 3, some (9, true), true⟩,
  ⟨some (13, false), .binOp .lss 3 (.tmp 10) (.tmp 12) 3, 4, some (9, true), true⟩,
  sq 14 (.pick (.tmp 9) (.tmp 13) (.const (.bool false))) 4,
  sq 15 (.move (.tmp 14)) 4,
  ⟨some (16, false), .move (.tmp 0), 23, some (15, true), true⟩,
  ⟨some (17, false), .move (.tmp 1), 3, some (15, true), true⟩,
  ⟨some (18, false), .indexAddr 23 (.tmp 16) (.tmp 17), 0, some (15, true), true⟩,
  ⟨some (19, false), .fieldAddr 32 (.tmp 18) 0, 0, some (15, true), true⟩,
  ⟨some (20, false), .load 5 (.tmp 19), 5, some (15, true), true⟩,
  ⟨some (21, false), .move (.tmp 2), 5, some (15, true), true⟩,
  ⟨some (22, false), .binOp .eql 5 (.tmp 20) (.tmp 21) 5, 4, some (15, true), true⟩,
  sq 23 (.pick (.tmp 15) (.tmp 22) (.const (.bool false))) 4,
  sw 6 (.assign (.tmp 23)) 4]
def ref1_Is : Cd := .seq (.region ref1_Is_r0) (.seq (.region ref1_Is_r1) (.ret))
theorem ref1_Is_calls {args : List Value} {h : Heap} {R : Value → Heap → Prop} (hl : args.length = 3) (hv : Cd.vc Tryd.prog ref1_Is (retQ Tryd.prog [(6, none)] R) (initEnv args [0, 1, 2, 6]) h) : HCalls Tryd.prog 31 args.toArray h R :=
  hcalls_of_vc (by kernel_rfl) Tryd.func31 (cd := ref1_Is) (L := [0, 1, 2, 6]) (by kernel_rfl) (by kernel_rfl) ⟨by rw [hl, Tryd.ntmps31]; decide, by rw [Tryd.ntmps31]; decide⟩ hv
def ref1_Is_gos := And.intro (@goVc Tryd.prog _ _ ref1_Is.eq_1) (And.intro (@goOps Tryd.prog _ _ ref1_Is_r0.eq_1) (@goOps Tryd.prog _ _ ref1_Is_r1.eq_1))

/-! jvmcore/jvmcoreref1.String: function 32: slots [0, 1, 4, 5, 8] -/
def ref1_String_r0 : List Sop := [
  sw 4 (.assign (.const (.string { data := #[] }))) 9,
  sw 5 (.assign (.const (.bool false))) 4]
def ref1_String_r1 : List Sop := [
  sq 6 (.move (.tmp 0)) 23,
  sq 7 (.move (.tmp 1)) 3,
  sa 8 (.call { callee := .value (.func 31), args := #[.tmp 6, .tmp 7, .const (.int .u8 1)], argTypes := #[23, 3, 5] }) 4]
def ref1_String_r2 : List Sop := [
  sq 9 (.move (.tmp 0)) 23,
  sq 10 (.move (.tmp 1)) 3,
  sq 11 (.indexAddr 23 (.tmp 9) (.tmp 10)) 0,
  sq 12 (.fieldAddr 32 (.tmp 11) 1) 0,
  sq 13 (.load 9 (.tmp 12)) 9,
  sw 4 (.assign (.tmp 13)) 9,
  sw 5 (.assign (.const (.bool true))) 4]
def ref1_String_r3 : List Sop := [
  sw 4 (.assign (.const (.string { data := #[] }))) 9,
  sw 5 (.assign (.const (.bool false))) 4]
def ref1_String : Cd := .seq (.region ref1_String_r0) (.seq (.seq (.region ref1_String_r1) (.cond (.tmp 8) (.seq (.region ref1_String_r2) (.ret)) (.skip))) (.seq (.region ref1_String_r3) (.ret)))
theorem ref1_String_calls {args : List Value} {h : Heap} {R : Value → Heap → Prop} (hl : args.length = 2) (hv : Cd.vc Tryd.prog ref1_String (retQ Tryd.prog [(4, none), (5, none)] R) (initEnv args [0, 1, 4, 5, 8]) h) : HCalls Tryd.prog 32 args.toArray h R :=
  hcalls_of_vc (by kernel_rfl) Tryd.func32 (cd := ref1_String) (L := [0, 1, 4, 5, 8]) (by kernel_rfl) (by kernel_rfl) ⟨by rw [hl, Tryd.ntmps32]; decide, by rw [Tryd.ntmps32]; decide⟩ hv
def ref1_String_gos := And.intro (@goVc Tryd.prog _ _ ref1_String.eq_1) (And.intro (@goOps Tryd.prog _ _ ref1_String_r0.eq_1) (And.intro (@goOps Tryd.prog _ _ ref1_String_r1.eq_1) (And.intro (@goOps Tryd.prog _ _ ref1_String_r2.eq_1) (@goOps Tryd.prog _ _ ref1_String_r3.eq_1))))

/-! jvmcore/jvmcoreref1.ClassOf: function 25: slots [0, 1, 4, 5, 9] -/
def ref1_ClassOf_r0 : List Sop := [
  sw 4 (.assign (.const (.string { data := #[] }))) 9,
  sw 5 (.assign (.const (.bool false))) 4]
def ref1_ClassOf_r1 : List Sop := [
  sq 6 (.move (.tmp 0)) 23,
  sq 7 (.move (.tmp 1)) 3,
  sc 8 (.call { callee := .value (.func 31), args := #[.tmp 6, .tmp 7, .const (.int .u8 7)], argTypes := #[23, 3, 5] }) 4,
  sw 9 (.unOp .not 4 (.tmp 8)) 4]
def ref1_ClassOf_r2 : List Sop := [
  sw 4 (.assign (.const (.string { data := #[] }))) 9,
  sw 5 (.assign (.const (.bool false))) 4]
def ref1_ClassOf_r3 : List Sop := [
  sq 10 (.move (.tmp 0)) 23,
  sq 11 (.move (.tmp 0)) 23,
  sq 12 (.move (.tmp 1)) 3,
  sq 13 (.indexAddr 23 (.tmp 11) (.tmp 12)) 0,
  sq 14 (.fieldAddr 32 (.tmp 13) 3) 0,
  sq 15 (.load 30 (.tmp 14)) 30,
  sq 16 (.convert 30 3 (.tmp 15)) 3,
  sc 17 (.call { callee := .value (.func 32), args := #[.tmp 10, .tmp 16], argTypes := #[23, 3] }) 54,
  sq 18 (.extract (.tmp 17) 0) 9,
  sq 19 (.extract (.tmp 17) 1) 4,
  sw 4 (.assign (.tmp 18)) 9,
  sw 5 (.assign (.tmp 19)) 4]
def ref1_ClassOf : Cd := .seq (.region ref1_ClassOf_r0) (.seq (.seq (.region ref1_ClassOf_r1) (.cond (.tmp 9) (.seq (.region ref1_ClassOf_r2) (.ret)) (.skip))) (.seq (.region ref1_ClassOf_r3) (.ret)))
theorem ref1_ClassOf_calls {args : List Value} {h : Heap} {R : Value → Heap → Prop} (hl : args.length = 2) (hv : Cd.vc Tryd.prog ref1_ClassOf (retQ Tryd.prog [(4, none), (5, none)] R) (initEnv args [0, 1, 4, 5, 9]) h) : HCalls Tryd.prog 25 args.toArray h R :=
  hcalls_of_vc (by kernel_rfl) Tryd.func25 (cd := ref1_ClassOf) (L := [0, 1, 4, 5, 9]) (by kernel_rfl) (by kernel_rfl) ⟨by rw [hl, Tryd.ntmps25]; decide, by rw [Tryd.ntmps25]; decide⟩ hv
def ref1_ClassOf_gos := And.intro (@goVc Tryd.prog _ _ ref1_ClassOf.eq_1) (And.intro (@goOps Tryd.prog _ _ ref1_ClassOf_r0.eq_1) (And.intro (@goOps Tryd.prog _ _ ref1_ClassOf_r1.eq_1) (And.intro (@goOps Tryd.prog _ _ ref1_ClassOf_r2.eq_1) (@goOps Tryd.prog _ _ ref1_ClassOf_r3.eq_1))))

end Go.Proofs.YtgdmoimclelfhaaDoor.C
