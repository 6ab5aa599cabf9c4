/- The stripped code of some functions of this seat's program, printed by a program; that it is that code is proved by the kernel. No condition. -/

import Derived.Test.YtohkbpnblkkdgaaProg

import Derived.Test.YtohkbpnblkkdgaaVcJ

set_option maxRecDepth 100000

set_option linter.defProp false

namespace Go.Proofs.Ytohkbpnblkkdgaa.C

open Go.Vc

/-! jvmcore/pool.NewReader: function 22: slots [0, 2] -/
def pool_NewReader_r0 : List Sop := [
  sw 2 (.assign (.const (.pointer none))) 54]
def pool_NewReader_r1 : List Sop := [
  sq 3 (.move (.tmp 0)) 9,
  sq 4 (.build 120 #[(0, .tmp 3)]) 120,
  sc 5 (.box 120 (.tmp 4)) 54,
  sw 2 (.assign (.tmp 5)) 54]
def pool_NewReader : Cd := .seq (.region pool_NewReader_r0) (.seq (.region pool_NewReader_r1) (.ret))
theorem pool_NewReader_calls {args : List Value} {h : Heap} {R : Value → Heap → Prop} (hl : args.length = 1) (hv : Cd.vc Try.prog pool_NewReader (retQ Try.prog [(2, none)] R) (initEnv args [0, 2]) h) : HCalls Try.prog 22 args.toArray h R :=
  hcalls_of_vc (by kernel_rfl) Try.func22 (cd := pool_NewReader) (L := [0, 2]) (by kernel_rfl) (by kernel_rfl) ⟨by rw [hl, Try.ntmps22]; decide, by rw [Try.ntmps22]; decide⟩ hv
def pool_NewReader_gos := And.intro (@goVc Try.prog _ _ pool_NewReader.eq_1) (And.intro (@goOps Try.prog _ _ pool_NewReader_r0.eq_1) (@goOps Try.prog _ _ pool_NewReader_r1.eq_1))

/-! (*jvmcore/pool.Reader).Err: function 30: slots [0, 2, 3] -/
def Reader_Err_r0 : List Sop := [
  sw 2 (.assign (.const (.int .i64 0))) 27,
  sw 3 (.assign (.const (.int .i64 0))) 3]
def Reader_Err_r1 : List (Sop × List Sop) := [
  (sq 4 (.move (.tmp 0)) 54, []),
  (sq 5 (.nilCheck (.tmp 4)) 0, []),
  (sq 6 (.fieldAddr 120 (.tmp 5) 2) 0, []),
  (sq 7 (.load 27 (.tmp 6)) 27, []),
  (sq 8 (.move (.tmp 0)) 54, []),
  (sq 9 (.nilCheck (.tmp 8)) 0, []),
  (sq 10 (.fieldAddr 120 (.tmp 9) 3) 0, []),
  (sq 11 (.load 3 (.tmp 10)) 3, []),
  (sw 2 (.assign (.tmp 7)) 27, []),
  (sw 3 (.assign (.tmp 11)) 3, [])]
def Reader_Err : Cd := .seq (.region Reader_Err_r0) (.seq (.draw Reader_Err_r1) (.ret))
theorem Reader_Err_calls {args : List Value} {h : Heap} {R : Value → Heap → Prop} (hl : args.length = 1) (hv : Cd.vc Try.prog Reader_Err (retQ Try.prog [(2, none), (3, none)] R) (initEnv args [0, 2, 3]) h) : HCalls Try.prog 30 args.toArray h R :=
  hcalls_of_vc (by kernel_rfl) Try.func30 (cd := Reader_Err) (L := [0, 2, 3]) (by kernel_rfl) (by kernel_rfl) ⟨by rw [hl, Try.ntmps30]; decide, by rw [Try.ntmps30]; decide⟩ hv
def Reader_Err_gos := And.intro (@goVc Try.prog _ _ Reader_Err.eq_1) (And.intro (@goOps Try.prog _ _ Reader_Err_r0.eq_1) (@goDraw Try.prog _ _ Reader_Err_r1.eq_1))

/-! (*jvmcore/pool.Reader).At: function 29: slots [0, 2] -/
def Reader_At_r0 : List Sop := [
  sw 2 (.assign (.const (.int .i64 0))) 3]
def Reader_At_r1 : List Sop := [
  sq 3 (.move (.tmp 0)) 54,
  sq 4 (.nilCheck (.tmp 3)) 0,
  sq 5 (.fieldAddr 120 (.tmp 4) 1) 0,
  sq 6 (.load 3 (.tmp 5)) 3,
  sw 2 (.assign (.tmp 6)) 3]
def Reader_At : Cd := .seq (.region Reader_At_r0) (.seq (.region Reader_At_r1) (.ret))
theorem Reader_At_calls {args : List Value} {h : Heap} {R : Value → Heap → Prop} (hl : args.length = 1) (hv : Cd.vc Try.prog Reader_At (retQ Try.prog [(2, none)] R) (initEnv args [0, 2]) h) : HCalls Try.prog 29 args.toArray h R :=
  hcalls_of_vc (by kernel_rfl) Try.func29 (cd := Reader_At) (L := [0, 2]) (by kernel_rfl) (by kernel_rfl) ⟨by rw [hl, Try.ntmps29]; decide, by rw [Try.ntmps29]; decide⟩ hv
def Reader_At_gos := And.intro (@goVc Try.prog _ _ Reader_At.eq_1) (And.intro (@goOps Try.prog _ _ Reader_At_r0.eq_1) (@goOps Try.prog _ _ Reader_At_r1.eq_1))

/-! (*jvmcore/pool.Reader).Num: function 23: slots [0, 1, 4, 5, 7, 11, 12, 13, 14] -/
def Reader_Num_r0 : List Sop := [
  sw 4 (.assign (.const (.int .i64 0))) 3]
def Reader_Num_r1 : List Sop := [
  sw 5 (.assign (.const (.int .i64 0))) 3]
def Reader_Num_r2 : List Sop := [
  sq 8 (.move (.tmp 0)) 54,
  sq 9 (.move (.tmp 1)) 3,
  sc 10 (.call { callee := .value (.func 65), args := #[.tmp 8, .tmp 9], argTypes := #[54, 3] }) 9,
  sa 11 (.convert 9 69 (.tmp 10)) 69,
  sw 12 (.call { callee := .builtin .len, args := #[.tmp 11], argTypes := #[69] }) 3,
  sw 13 (.move (.const (.int .i64 0))) 3]
def Reader_Num_r3 : List Sop := [
  sw 14 (.binOp .lss 3 (.tmp 13) (.tmp 12) 3) 0]
def Reader_Num_r4 : List Sop := [
  sq 15 (.indexAddr 69 (.tmp 11) (.tmp 13)) 0,
  sq 16 (.load 5 (.tmp 15)) 5,
  sw 7 (.assign (.tmp 16)) 5]
def Reader_Num_r5 : List Sop := [
  sq 17 (.move (.tmp 5)) 3,
  sq 18 (.binOp .shl 3 (.tmp 17) (.const (.int .u64 8)) 121) 3,
  sq 19 (.move (.tmp 7)) 5,
  sq 20 (.convert 5 3 (.tmp 19)) 3,
  sq 21 (.binOp .or 3 (.tmp 18) (.tmp 20) 3) 3,
  sw 5 (.assign (.tmp 21)) 3]
def Reader_Num_r6 : List Sop := [
  sq 22 (.binOp .add 3 (.tmp 13) (.const (.int .i64 1)) 3) 3,
  sw 13 (.move (.tmp 22)) 3]
def Reader_Num_r7 : List Sop := [
  sq 23 (.move (.tmp 5)) 3,
  sw 4 (.assign (.tmp 23)) 3]
def Reader_Num_l0 : Cd := .seq (.region Reader_Num_r3) (.seq (.cond (.tmp 14) (.skip) (.exit 0)) (.seq (.block 1 (.seq (.region Reader_Num_r4) (.region Reader_Num_r5))) (.region Reader_Num_r6)))
def Reader_Num : Cd := .seq (.region Reader_Num_r0) (.seq (.region Reader_Num_r1) (.seq (.seq (.region Reader_Num_r2) (.block 0 (.loop Reader_Num_l0))) (.seq (.region Reader_Num_r7) (.ret))))
theorem Reader_Num_calls {args : List Value} {h : Heap} {R : Value → Heap → Prop} (hl : args.length = 2) (hv : Cd.vc Try.prog Reader_Num (retQ Try.prog [(4, none)] R) (initEnv args [0, 1, 4, 5, 7, 11, 12, 13, 14]) h) : HCalls Try.prog 23 args.toArray h R :=
  hcalls_of_vc (by kernel_rfl) Try.func23 (cd := Reader_Num) (L := [0, 1, 4, 5, 7, 11, 12, 13, 14]) (by kernel_rfl) (by kernel_rfl) ⟨by rw [hl, Try.ntmps23]; decide, by rw [Try.ntmps23]; decide⟩ hv
def Reader_Num_gos := And.intro (@goVc Try.prog _ _ Reader_Num.eq_1) (And.intro (@goOps Try.prog _ _ Reader_Num_r0.eq_1) (And.intro (@goOps Try.prog _ _ Reader_Num_r1.eq_1) (And.intro (@goOps Try.prog _ _ Reader_Num_r2.eq_1) (And.intro (@goOps Try.prog _ _ Reader_Num_r3.eq_1) (And.intro (@goOps Try.prog _ _ Reader_Num_r4.eq_1) (And.intro (@goOps Try.prog _ _ Reader_Num_r5.eq_1) (And.intro (@goOps Try.prog _ _ Reader_Num_r6.eq_1) (And.intro (@goOps Try.prog _ _ Reader_Num_r7.eq_1) (@goVc Try.prog _ _ Reader_Num_l0.eq_1)))))))))

/-! (*jvmcore/pool.Reader).Fail: function 28: slots [0, 1, 2, 10] -/
def Reader_Fail_r0 : List Sop := [
  sq 6 (.move (.tmp 0)) 54,
  sq 7 (.nilCheck (.tmp 6)) 0,
  sq 8 (.fieldAddr 120 (.tmp 7) 2) 0,
  sq 9 (.load 27 (.tmp 8)) 27,
  sw 10 (.binOp .eql 27 (.tmp 9) (.const (.int .i64 0)) 27) 4]
def Reader_Fail_r1 : List Sop := [
  sq 11 (.move (.tmp 0)) 54,
  sq 12 (.move (.tmp 0)) 54,
  sq 13 (.move (.tmp 1)) 27,
  sq 14 (.move (.tmp 2)) 3,
  sq 15 (.nilCheck (.tmp 11)) 0,
  sq 16 (.fieldAddr 120 (.tmp 15) 2) 0,
  ss (.store 27 (.tmp 16) (.tmp 13)),
  sq 17 (.nilCheck (.tmp 12)) 0,
  sq 18 (.fieldAddr 120 (.tmp 17) 3) 0,
  ss (.store 3 (.tmp 18) (.tmp 14))]
def Reader_Fail : Cd := .seq (.region Reader_Fail_r0) (.cond (.tmp 10) (.region Reader_Fail_r1) (.skip))
theorem Reader_Fail_calls {args : List Value} {h : Heap} {R : Value → Heap → Prop} (hl : args.length = 3) (hv : Cd.vc Try.prog Reader_Fail (retQ Try.prog [] R) (initEnv args [0, 1, 2, 10]) h) : HCalls Try.prog 28 args.toArray h R :=
  hcalls_of_vc (by kernel_rfl) Try.func28 (cd := Reader_Fail) (L := [0, 1, 2, 10]) (by kernel_rfl) (by kernel_rfl) ⟨by rw [hl, Try.ntmps28]; decide, by rw [Try.ntmps28]; decide⟩ hv
def Reader_Fail_gos := And.intro (@goVc Try.prog _ _ Reader_Fail.eq_1) (And.intro (@goOps Try.prog _ _ Reader_Fail_r0.eq_1) (@goOps Try.prog _ _ Reader_Fail_r1.eq_1))

/-! (*jvmcore/pool.Reader).Bad: function 25: slots [0, 2] -/
def Reader_Bad_r0 : List Sop := [
  sw 2 (.assign (.const (.bool false))) 4]
def Reader_Bad_r1 : List Sop := [
  sq 3 (.move (.tmp 0)) 54,
  sq 4 (.nilCheck (.tmp 3)) 0,
  sq 5 (.fieldAddr 120 (.tmp 4) 2) 0,
  sq 6 (.load 27 (.tmp 5)) 27,
  sq 7 (.binOp .neq 27 (.tmp 6) (.const (.int .i64 0)) 27) 4,
  sw 2 (.assign (.tmp 7)) 4]
def Reader_Bad : Cd := .seq (.region Reader_Bad_r0) (.seq (.region Reader_Bad_r1) (.ret))
theorem Reader_Bad_calls {args : List Value} {h : Heap} {R : Value → Heap → Prop} (hl : args.length = 1) (hv : Cd.vc Try.prog Reader_Bad (retQ Try.prog [(2, none)] R) (initEnv args [0, 2]) h) : HCalls Try.prog 25 args.toArray h R :=
  hcalls_of_vc (by kernel_rfl) Try.func25 (cd := Reader_Bad) (L := [0, 2]) (by kernel_rfl) (by kernel_rfl) ⟨by rw [hl, Try.ntmps25]; decide, by rw [Try.ntmps25]; decide⟩ hv
def Reader_Bad_gos := And.intro (@goVc Try.prog _ _ Reader_Bad.eq_1) (And.intro (@goOps Try.prog _ _ Reader_Bad_r0.eq_1) (@goOps Try.prog _ _ Reader_Bad_r1.eq_1))

/-! (*jvmcore/pool.Reader).Take: function 65: slots [0, 1, 4, 5, 7, 15] -/
def Reader_Take_r0 : List Sop := [
  sw 4 (.assign (.const (.string { data := #[] }))) 9]
def Reader_Take_r1 : List Sop := [
  sq 6 (.move (.tmp 0)) 54,
  sa 7 (.call { callee := .value (.func 25), args := #[.tmp 6], argTypes := #[54] }) 4]
def Reader_Take_r2 : List Sop := [
  sw 4 (.assign (.const (.string { data := #[] }))) 9]
def Reader_Take_r3 : List Sop := [
  sq 8 (.move (.tmp 1)) 3,
  sq 9 (.binOp .lss 3 (.tmp 8) (.const (.int .i64 0)) 3) 4,
  sq 10 (.move (.tmp 9)) 4,
  ⟨some (11, false), .move (.tmp 1), 3, some (10, false), true⟩,
  ⟨some (12, false), .move (.tmp 0), 54, some (10, false), true⟩,
  ⟨some (13, false), .call { callee := .value (.func 27), args := #[.tmp 12], argTypes := #[54] }, 3, some (10, false), false⟩,
  ⟨some (14, false), .binOp .gtr 3 (.tmp 11) (.tmp 13) 3, 4, some (10, false), true⟩,
  sw 15 (.pick (.tmp 10) (.const (.bool true)) (.tmp 14)) 4]
def Reader_Take_r4 : List Sop := [
  sq 16 (.move (.tmp 0)) 54,
  sq 17 (.move (.tmp 0)) 54,
  sq 18 (.nilCheck (.tmp 17)) 0,
  sq 19 (.fieldAddr 120 (.tmp 18) 0) 0,
  sq 20 (.load 9 (.tmp 19)) 9,
  sq 21 (.call { callee := .builtin .len, args := #[.tmp 20], argTypes := #[9] }) 3,
  sc 22 (.call { callee := .value (.func 28), args := #[.tmp 16, .const (.int .i64 1), .tmp 21], argTypes := #[54, 27, 3] }) 0]
def Reader_Take_r5 : List Sop := [
  sw 4 (.assign (.const (.string { data := #[] }))) 9]
def Reader_Take_r6 : List (Sop × List Sop) := [
  (sq 23 (.move (.tmp 0)) 54, []),
  (sq 24 (.nilCheck (.tmp 23)) 0, []),
  (sq 25 (.fieldAddr 120 (.tmp 24) 0) 0, []),
  (sq 26 (.load 9 (.tmp 25)) 9, []),
  (sq 27 (.move (.tmp 0)) 54, []),
  (sq 28 (.nilCheck (.tmp 27)) 0, []),
  (sq 29 (.fieldAddr 120 (.tmp 28) 1) 0, []),
  (sq 30 (.load 3 (.tmp 29)) 3, []),
  (sq 31 (.move (.tmp 0)) 54, []),
  (sq 32 (.nilCheck (.tmp 31)) 0, []),
  (sq 33 (.fieldAddr 120 (.tmp 32) 1) 0, []),
  (sq 34 (.load 3 (.tmp 33)) 3, []),
  (sq 35 (.move (.tmp 1)) 3, []),
  (sq 36 (.binOp .add 3 (.tmp 34) (.tmp 35) 3) 3, []),
  (sq 37 (.slice 9 (.tmp 26) (some (.tmp 30)) (some (.tmp 36)) none) 9, []),
  (sw 5 (.assign (.tmp 37)) 9, [])]
def Reader_Take_r7 : List Sop := [
  sq 38 (.move (.tmp 0)) 54,
  sq 39 (.nilCheck (.tmp 38)) 0,
  sq 40 (.fieldAddr 120 (.tmp 39) 1) 0,
  sq 41 (.load 3 (.tmp 40)) 3,
  sq 42 (.move (.tmp 1)) 3,
  sq 43 (.binOp .add 3 (.tmp 41) (.tmp 42) 3) 3,
  sq 44 (.nilCheck (.tmp 38)) 0,
  sq 45 (.fieldAddr 120 (.tmp 44) 1) 0,
  ss (.store 3 (.tmp 45) (.tmp 43))]
def Reader_Take_r8 : List Sop := [
  sq 46 (.move (.tmp 5)) 9,
  sw 4 (.assign (.tmp 46)) 9]
def Reader_Take : Cd := .seq (.region Reader_Take_r0) (.seq (.seq (.region Reader_Take_r1) (.cond (.tmp 7) (.seq (.region Reader_Take_r2) (.ret)) (.skip))) (.seq (.seq (.region Reader_Take_r3) (.cond (.tmp 15) (.seq (.region Reader_Take_r4) (.seq (.region Reader_Take_r5) (.ret))) (.skip))) (.seq (.draw Reader_Take_r6) (.seq (.region Reader_Take_r7) (.seq (.region Reader_Take_r8) (.ret))))))
theorem Reader_Take_calls {args : List Value} {h : Heap} {R : Value → Heap → Prop} (hl : args.length = 2) (hv : Cd.vc Try.prog Reader_Take (retQ Try.prog [(4, none)] R) (initEnv args [0, 1, 4, 5, 7, 15]) h) : HCalls Try.prog 65 args.toArray h R :=
  hcalls_of_vc (by kernel_rfl) Try.func65 (cd := Reader_Take) (L := [0, 1, 4, 5, 7, 15]) (by kernel_rfl) (by kernel_rfl) ⟨by rw [hl, Try.ntmps65]; decide, by rw [Try.ntmps65]; decide⟩ hv
def Reader_Take_gos := And.intro (@goVc Try.prog _ _ Reader_Take.eq_1) (And.intro (@goOps Try.prog _ _ Reader_Take_r0.eq_1) (And.intro (@goOps Try.prog _ _ Reader_Take_r1.eq_1) (And.intro (@goOps Try.prog _ _ Reader_Take_r2.eq_1) (And.intro (@goOps Try.prog _ _ Reader_Take_r3.eq_1) (And.intro (@goOps Try.prog _ _ Reader_Take_r4.eq_1) (And.intro (@goOps Try.prog _ _ Reader_Take_r5.eq_1) (And.intro (@goDraw Try.prog _ _ Reader_Take_r6.eq_1) (And.intro (@goOps Try.prog _ _ Reader_Take_r7.eq_1) (@goOps Try.prog _ _ Reader_Take_r8.eq_1)))))))))

/-! (*jvmcore/pool.Reader).Left: function 27: slots [0, 2] -/
def Reader_Left_r0 : List Sop := [
  sw 2 (.assign (.const (.int .i64 0))) 3]
def Reader_Left_r1 : List (Sop × List Sop) := [
  (sq 3 (.move (.tmp 0)) 54, []),
  (sq 4 (.nilCheck (.tmp 3)) 0, []),
  (sq 5 (.fieldAddr 120 (.tmp 4) 0) 0, []),
  (sq 6 (.load 9 (.tmp 5)) 9, []),
  (sq 7 (.call { callee := .builtin .len, args := #[.tmp 6], argTypes := #[9] }) 3, []),
  (sq 8 (.move (.tmp 0)) 54, []),
  (sq 9 (.nilCheck (.tmp 8)) 0, []),
  (sq 10 (.fieldAddr 120 (.tmp 9) 1) 0, []),
  (sq 11 (.load 3 (.tmp 10)) 3, []),
  (sq 12 (.binOp .sub 3 (.tmp 7) (.tmp 11) 3) 3, []),
  (sw 2 (.assign (.tmp 12)) 3, [])]
def Reader_Left : Cd := .seq (.region Reader_Left_r0) (.seq (.draw Reader_Left_r1) (.ret))
theorem Reader_Left_calls {args : List Value} {h : Heap} {R : Value → Heap → Prop} (hl : args.length = 1) (hv : Cd.vc Try.prog Reader_Left (retQ Try.prog [(2, none)] R) (initEnv args [0, 2]) h) : HCalls Try.prog 27 args.toArray h R :=
  hcalls_of_vc (by kernel_rfl) Try.func27 (cd := Reader_Left) (L := [0, 2]) (by kernel_rfl) (by kernel_rfl) ⟨by rw [hl, Try.ntmps27]; decide, by rw [Try.ntmps27]; decide⟩ hv
def Reader_Left_gos := And.intro (@goVc Try.prog _ _ Reader_Left.eq_1) (And.intro (@goOps Try.prog _ _ Reader_Left_r0.eq_1) (@goDraw Try.prog _ _ Reader_Left_r1.eq_1))

/-! (*jvmcore/pool.Reader).Index: function 52: slots [0, 2] -/
def Reader_Index_r0 : List Sop := [
  sw 2 (.assign (.const (.int .u16 0))) 38]
def Reader_Index_r1 : List Sop := [
  sq 3 (.move (.tmp 0)) 54,
  sc 4 (.call { callee := .value (.func 23), args := #[.tmp 3, .const (.int .i64 2)], argTypes := #[54, 3] }) 3,
  sq 5 (.convert 3 38 (.tmp 4)) 38,
  sw 2 (.assign (.tmp 5)) 38]
def Reader_Index : Cd := .seq (.region Reader_Index_r0) (.seq (.region Reader_Index_r1) (.ret))
theorem Reader_Index_calls {args : List Value} {h : Heap} {R : Value → Heap → Prop} (hl : args.length = 1) (hv : Cd.vc Try.prog Reader_Index (retQ Try.prog [(2, none)] R) (initEnv args [0, 2]) h) : HCalls Try.prog 52 args.toArray h R :=
  hcalls_of_vc (by kernel_rfl) Try.func52 (cd := Reader_Index) (L := [0, 2]) (by kernel_rfl) (by kernel_rfl) ⟨by rw [hl, Try.ntmps52]; decide, by rw [Try.ntmps52]; decide⟩ hv
def Reader_Index_gos := And.intro (@goVc Try.prog _ _ Reader_Index.eq_1) (And.intro (@goOps Try.prog _ _ Reader_Index_r0.eq_1) (@goOps Try.prog _ _ Reader_Index_r1.eq_1))

end Go.Proofs.Ytohkbpnblkkdgaa.C
