/- The stripped code of some functions of this seat's program, printed by a program; that it is that code is proved by the kernel. No condition. -/

import Derived.Test.YtohkbpnblkkdgaaProg

import Derived.Test.YtohkbpnblkkdgaaVcJ

set_option maxRecDepth 100000

set_option linter.defProp false

namespace Go.Proofs.Ytohkbpnblkkdgaa.C

open Go.Vc

/-! jvmcore/pool.Is: function 83: slots [0, 1, 2, 6] -/
def pool_Is_r0 : List Sop := [
  sw 6 (.assign (.const (.bool false))) 4]
def pool_Is_r1 : List Sop := [
  sq 7 (.move (.tmp 1)) 38,
  sq 8 (.convert 38 3 (.tmp 7)) 3,
  sq 9 (.move (.tmp 0)) 22,
  sq 10 (.call { callee := .builtin .len, args := #[.tmp 9], argTypes := #[22] }) 3,
  sq 11 (.binOp .lss 3 (.tmp 8) (.tmp 10) 3) 4,
  sq 12 (.move (.tmp 11)) 4,
  ⟨some (13, false), .move (.tmp 1), 38, some (12, true), true⟩,
  ⟨some (14, false), .binOp .gtr 38 (.tmp 13) (.const (.int .u16 0)) 38, 4, some (12, true), true⟩,
  sq 15 (.pick (.tmp 12) (.tmp 14) (.const (.bool false))) 4,
  sq 16 (.move (.tmp 15)) 4,
  ⟨some (17, false), .move (.tmp 0), 22, some (16, true), true⟩,
  ⟨some (18, false), .move (.tmp 1), 38, some (16, true), true⟩,
  ⟨some (19, false), .indexAddr 22 (.tmp 17) (.tmp 18), 0, some (16, true), true⟩,
  ⟨some (20, false), .fieldAddr 76 (.tmp 19) 0, 0, some (16, true), true⟩,
  ⟨some (21, false), .load 5 (.tmp 20), 5, some (16, true), true⟩,
  ⟨some (22, false), .move (.tmp 2), 5, some (16, true), true⟩,
  ⟨some (23, false), .binOp .eql 5 (.tmp 21) (.tmp 22) 5, 4, some (16, true), true⟩,
  sq 24 (.pick (.tmp 16) (.tmp 23) (.const (.bool false))) 4,
  sw 6 (.assign (.tmp 24)) 4]
def pool_Is : Cd := .seq (.region pool_Is_r0) (.seq (.region pool_Is_r1) (.ret))
theorem pool_Is_calls {args : List Value} {h : Heap} {R : Value → Heap → Prop} (hl : args.length = 3) (hv : Cd.vc Try.prog pool_Is (retQ Try.prog [(6, none)] R) (initEnv args [0, 1, 2, 6]) h) : HCalls Try.prog 83 args.toArray h R :=
  hcalls_of_vc (by kernel_rfl) Try.func83 (cd := pool_Is) (L := [0, 1, 2, 6]) (by kernel_rfl) (by kernel_rfl) ⟨by rw [hl, Try.ntmps83]; decide, by rw [Try.ntmps83]; decide⟩ hv
def pool_Is_gos := And.intro (@goVc Try.prog _ _ pool_Is.eq_1) (And.intro (@goOps Try.prog _ _ pool_Is_r0.eq_1) (@goOps Try.prog _ _ pool_Is_r1.eq_1))

/-! jvmcore/pool.String: function 84: slots [0, 1, 4, 8] -/
def pool_String_r0 : List Sop := [
  sw 4 (.assign (.const (.string { data := #[] }))) 9]
def pool_String_r1 : List Sop := [
  sq 5 (.move (.tmp 0)) 22,
  sq 6 (.move (.tmp 1)) 38,
  sc 7 (.call { callee := .value (.func 83), args := #[.tmp 5, .tmp 6, .const (.int .u8 1)], argTypes := #[22, 38, 5] }) 4,
  sw 8 (.unOp .not 4 (.tmp 7)) 4]
def pool_String_r2 : List Sop := [
  sw 4 (.assign (.const (.string { data := #[] }))) 9]
def pool_String_r3 : List Sop := [
  sq 9 (.move (.tmp 0)) 22,
  sq 10 (.move (.tmp 1)) 38,
  sq 11 (.indexAddr 22 (.tmp 9) (.tmp 10)) 0,
  sq 12 (.fieldAddr 76 (.tmp 11) 1) 0,
  sq 13 (.load 9 (.tmp 12)) 9,
  sw 4 (.assign (.tmp 13)) 9]
def pool_String : Cd := .seq (.region pool_String_r0) (.seq (.seq (.region pool_String_r1) (.cond (.tmp 8) (.seq (.region pool_String_r2) (.ret)) (.skip))) (.seq (.region pool_String_r3) (.ret)))
theorem pool_String_calls {args : List Value} {h : Heap} {R : Value → Heap → Prop} (hl : args.length = 2) (hv : Cd.vc Try.prog pool_String (retQ Try.prog [(4, none)] R) (initEnv args [0, 1, 4, 8]) h) : HCalls Try.prog 84 args.toArray h R :=
  hcalls_of_vc (by kernel_rfl) Try.func84 (cd := pool_String) (L := [0, 1, 4, 8]) (by kernel_rfl) (by kernel_rfl) ⟨by rw [hl, Try.ntmps84]; decide, by rw [Try.ntmps84]; decide⟩ hv
def pool_String_gos := And.intro (@goVc Try.prog _ _ pool_String.eq_1) (And.intro (@goOps Try.prog _ _ pool_String_r0.eq_1) (And.intro (@goOps Try.prog _ _ pool_String_r1.eq_1) (And.intro (@goOps Try.prog _ _ pool_String_r2.eq_1) (@goOps Try.prog _ _ pool_String_r3.eq_1))))

/-! jvmcore/jvmcoreref1.Is: function 68: slots [0, 1, 2, 6] -/
def ref1_Is_r0 : List Sop := [
  sw 6 (.assign (.const (.bool false))) 4]
def ref1_Is_r1 : List Sop := [
  sq 7 (.move (.tmp 1)) 3,
  sq 8 (.binOp .gtr 3 (.tmp 7) (.const (.int .i64 0)) 3) 4,
  sq 9 (.move (.tmp 8)) 4,
  ⟨some (10, false), .move (.tmp 1), 3, some (9, true), true⟩,
  ⟨some (11, false), .move (.tmp 0), 22, some (9, true), true⟩,
  ⟨some (12, false), .call { callee := .builtin .len, args := #[.tmp 11], argTypes := #[22] }, 3, some (9, true), true⟩,
  ⟨some (13, false), .binOp .lss 3 (.tmp 10) (.tmp 12) 3, 4, some (9, true), true⟩,
  sq 14 (.pick (.tmp 9) (.tmp 13) (.const (.bool false))) 4,
  sq 15 (.move (.tmp 14)) 4,
  ⟨some (16, false), .move (.tmp 0), 22, some (15, true), true⟩,
  ⟨some (17, false), .move (.tmp 1), 3, some (15, true), true⟩,
  ⟨some (18, false), .indexAddr 22 (.tmp 16) (.tmp 17), 0, some (15, true), true⟩,
  ⟨some (19, false), .fieldAddr 76 (.tmp 18) 0, 0, some (15, true), true⟩,
  ⟨some (20, false), .load 5 (.tmp 19), 5, some (15, true), true⟩,
  ⟨some (21, false), .move (.tmp 2), 5, some (15, true), true⟩,
  ⟨some (22, false), .binOp .eql 5 (.tmp 20) (.tmp 21) 5, 4, some (15, true), true⟩,
  sq 23 (.pick (.tmp 15) (.tmp 22) (.const (.bool false))) 4,
  sw 6 (.assign (.tmp 23)) 4]
def ref1_Is : Cd := .seq (.region ref1_Is_r0) (.seq (.region ref1_Is_r1) (.ret))
theorem ref1_Is_calls {args : List Value} {h : Heap} {R : Value → Heap → Prop} (hl : args.length = 3) (hv : Cd.vc Try.prog ref1_Is (retQ Try.prog [(6, none)] R) (initEnv args [0, 1, 2, 6]) h) : HCalls Try.prog 68 args.toArray h R :=
  hcalls_of_vc (by kernel_rfl) Try.func68 (cd := ref1_Is) (L := [0, 1, 2, 6]) (by kernel_rfl) (by kernel_rfl) ⟨by rw [hl, Try.ntmps68]; decide, by rw [Try.ntmps68]; decide⟩ hv
def ref1_Is_gos := And.intro (@goVc Try.prog _ _ ref1_Is.eq_1) (And.intro (@goOps Try.prog _ _ ref1_Is_r0.eq_1) (@goOps Try.prog _ _ ref1_Is_r1.eq_1))

/-! jvmcore/jvmcoreref1.String: function 86: slots [0, 1, 4, 5, 8] -/
def ref1_String_r0 : List Sop := [
  sw 4 (.assign (.const (.string { data := #[] }))) 9,
  sw 5 (.assign (.const (.bool false))) 4]
def ref1_String_r1 : List Sop := [
  sq 6 (.move (.tmp 0)) 22,
  sq 7 (.move (.tmp 1)) 3,
  sa 8 (.call { callee := .value (.func 68), args := #[.tmp 6, .tmp 7, .const (.int .u8 1)], argTypes := #[22, 3, 5] }) 4]
def ref1_String_r2 : List Sop := [
  sq 9 (.move (.tmp 0)) 22,
  sq 10 (.move (.tmp 1)) 3,
  sq 11 (.indexAddr 22 (.tmp 9) (.tmp 10)) 0,
  sq 12 (.fieldAddr 76 (.tmp 11) 1) 0,
  sq 13 (.load 9 (.tmp 12)) 9,
  sw 4 (.assign (.tmp 13)) 9,
  sw 5 (.assign (.const (.bool true))) 4]
def ref1_String_r3 : List Sop := [
  sw 4 (.assign (.const (.string { data := #[] }))) 9,
  sw 5 (.assign (.const (.bool false))) 4]
def ref1_String : Cd := .seq (.region ref1_String_r0) (.seq (.seq (.region ref1_String_r1) (.cond (.tmp 8) (.seq (.region ref1_String_r2) (.ret)) (.skip))) (.seq (.region ref1_String_r3) (.ret)))
theorem ref1_String_calls {args : List Value} {h : Heap} {R : Value → Heap → Prop} (hl : args.length = 2) (hv : Cd.vc Try.prog ref1_String (retQ Try.prog [(4, none), (5, none)] R) (initEnv args [0, 1, 4, 5, 8]) h) : HCalls Try.prog 86 args.toArray h R :=
  hcalls_of_vc (by kernel_rfl) Try.func86 (cd := ref1_String) (L := [0, 1, 4, 5, 8]) (by kernel_rfl) (by kernel_rfl) ⟨by rw [hl, Try.ntmps86]; decide, by rw [Try.ntmps86]; decide⟩ hv
def ref1_String_gos := And.intro (@goVc Try.prog _ _ ref1_String.eq_1) (And.intro (@goOps Try.prog _ _ ref1_String_r0.eq_1) (And.intro (@goOps Try.prog _ _ ref1_String_r1.eq_1) (And.intro (@goOps Try.prog _ _ ref1_String_r2.eq_1) (@goOps Try.prog _ _ ref1_String_r3.eq_1))))

/-! jvmcore/jvmcoreref1.ClassOf: function 69: slots [0, 1, 4, 5, 9] -/
def ref1_ClassOf_r0 : List Sop := [
  sw 4 (.assign (.const (.string { data := #[] }))) 9,
  sw 5 (.assign (.const (.bool false))) 4]
def ref1_ClassOf_r1 : List Sop := [
  sq 6 (.move (.tmp 0)) 22,
  sq 7 (.move (.tmp 1)) 3,
  sc 8 (.call { callee := .value (.func 68), args := #[.tmp 6, .tmp 7, .const (.int .u8 7)], argTypes := #[22, 3, 5] }) 4,
  sw 9 (.unOp .not 4 (.tmp 8)) 4]
def ref1_ClassOf_r2 : List Sop := [
  sw 4 (.assign (.const (.string { data := #[] }))) 9,
  sw 5 (.assign (.const (.bool false))) 4]
def ref1_ClassOf_r3 : List Sop := [
  sq 10 (.move (.tmp 0)) 22,
  sq 11 (.move (.tmp 0)) 22,
  sq 12 (.move (.tmp 1)) 3,
  sq 13 (.indexAddr 22 (.tmp 11) (.tmp 12)) 0,
  sq 14 (.fieldAddr 76 (.tmp 13) 3) 0,
  sq 15 (.load 38 (.tmp 14)) 38,
  sq 16 (.convert 38 3 (.tmp 15)) 3,
  sc 17 (.call { callee := .value (.func 86), args := #[.tmp 10, .tmp 16], argTypes := #[22, 3] }) 125,
  sq 18 (.extract (.tmp 17) 0) 9,
  sq 19 (.extract (.tmp 17) 1) 4,
  sw 4 (.assign (.tmp 18)) 9,
  sw 5 (.assign (.tmp 19)) 4]
def ref1_ClassOf : Cd := .seq (.region ref1_ClassOf_r0) (.seq (.seq (.region ref1_ClassOf_r1) (.cond (.tmp 9) (.seq (.region ref1_ClassOf_r2) (.ret)) (.skip))) (.seq (.region ref1_ClassOf_r3) (.ret)))
theorem ref1_ClassOf_calls {args : List Value} {h : Heap} {R : Value → Heap → Prop} (hl : args.length = 2) (hv : Cd.vc Try.prog ref1_ClassOf (retQ Try.prog [(4, none), (5, none)] R) (initEnv args [0, 1, 4, 5, 9]) h) : HCalls Try.prog 69 args.toArray h R :=
  hcalls_of_vc (by kernel_rfl) Try.func69 (cd := ref1_ClassOf) (L := [0, 1, 4, 5, 9]) (by kernel_rfl) (by kernel_rfl) ⟨by rw [hl, Try.ntmps69]; decide, by rw [Try.ntmps69]; decide⟩ hv
def ref1_ClassOf_gos := And.intro (@goVc Try.prog _ _ ref1_ClassOf.eq_1) (And.intro (@goOps Try.prog _ _ ref1_ClassOf_r0.eq_1) (And.intro (@goOps Try.prog _ _ ref1_ClassOf_r1.eq_1) (And.intro (@goOps Try.prog _ _ ref1_ClassOf_r2.eq_1) (@goOps Try.prog _ _ ref1_ClassOf_r3.eq_1))))

end Go.Proofs.Ytohkbpnblkkdgaa.C
