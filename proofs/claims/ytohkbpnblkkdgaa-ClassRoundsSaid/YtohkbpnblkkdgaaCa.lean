/- The stripped code of some functions of this seat's program, printed by a program; that it is that code is proved by the kernel. No condition. -/

import Derived.Test.YtohkbpnblkkdgaaProg

import Derived.Test.YtohkbpnblkkdgaaVcJ

set_option maxRecDepth 100000

set_option linter.defProp false

namespace Go.Proofs.Ytohkbpnblkkdgaa.C

open Go.Vc

/-! jvmcore/jvmcoreref1.Big: function 75: slots [0, 1, 4, 5, 7] -/
def ref1_Big_r0 : List Sop := [
  sw 4 (.assign (.const (.string { data := #[] }))) 9]
def ref1_Big_r1 : List Sop := [
  sw 5 (.assign (.const (.string { data := #[] }))) 9]
def ref1_Big_r2 : List Sop := [
  sq 6 (.move (.tmp 1)) 3,
  sw 7 (.binOp .gtr 3 (.tmp 6) (.const (.int .i64 0)) 3) 4]
def ref1_Big_r3 : List Sop := [
  sq 10 (.move (.tmp 0)) 74,
  sq 11 (.convert 74 5 (.tmp 10)) 5,
  sc 12 (.buildSlice 69 1 #[(0, .tmp 11)]) 69,
  sq 13 (.convert 69 9 (.tmp 12)) 9,
  sq 14 (.move (.tmp 5)) 9,
  sq 15 (.binOp .add 9 (.tmp 13) (.tmp 14) 9) 9,
  sw 5 (.assign (.tmp 15)) 9]
def ref1_Big_r4 : List Sop := [
  sq 16 (.move (.tmp 0)) 74,
  sq 17 (.binOp .quo 74 (.tmp 16) (.const (.int .u64 256)) 74) 74,
  sw 0 (.assign (.tmp 17)) 74]
def ref1_Big_r5 : List Sop := [
  sq 8 (.move (.tmp 1)) 3,
  sq 9 (.binOp .sub 3 (.tmp 8) (.const (.int .i64 1)) 3) 3,
  sw 1 (.assign (.tmp 9)) 3]
def ref1_Big_r6 : List Sop := [
  sq 18 (.move (.tmp 5)) 9,
  sw 4 (.assign (.tmp 18)) 9]
def ref1_Big_l0 : Cd := .seq (.seq (.region ref1_Big_r2) (.cond (.tmp 7) (.skip) (.exit 0))) (.seq (.block 1 (.seq (.region ref1_Big_r3) (.region ref1_Big_r4))) (.region ref1_Big_r5))
def ref1_Big : Cd := .seq (.region ref1_Big_r0) (.seq (.region ref1_Big_r1) (.seq (.block 0 (.loop ref1_Big_l0)) (.seq (.region ref1_Big_r6) (.ret))))
theorem ref1_Big_calls {args : List Value} {h : Heap} {R : Value → Heap → Prop} (hl : args.length = 2) (hv : Cd.vc Try.prog ref1_Big (retQ Try.prog [(4, none)] R) (initEnv args [0, 1, 4, 5, 7]) h) : HCalls Try.prog 75 args.toArray h R :=
  hcalls_of_vc (by kernel_rfl) Try.func75 (cd := ref1_Big) (L := [0, 1, 4, 5, 7]) (by kernel_rfl) (by kernel_rfl) ⟨by rw [hl, Try.ntmps75]; decide, by rw [Try.ntmps75]; decide⟩ hv
def ref1_Big_gos := And.intro (@goVc Try.prog _ _ ref1_Big.eq_1) (And.intro (@goOps Try.prog _ _ ref1_Big_r0.eq_1) (And.intro (@goOps Try.prog _ _ ref1_Big_r1.eq_1) (And.intro (@goOps Try.prog _ _ ref1_Big_r2.eq_1) (And.intro (@goOps Try.prog _ _ ref1_Big_r3.eq_1) (And.intro (@goOps Try.prog _ _ ref1_Big_r4.eq_1) (And.intro (@goOps Try.prog _ _ ref1_Big_r5.eq_1) (And.intro (@goOps Try.prog _ _ ref1_Big_r6.eq_1) (@goVc Try.prog _ _ ref1_Big_l0.eq_1))))))))

/-! jvmcore/pool.Big: function 70: slots [0, 1, 4, 5, 6, 10, 11, 12] -/
def pool_Big_r0 : List Sop := [
  sw 4 (.assign (.const (.string { data := #[] }))) 9]
def pool_Big_r1 : List Sop := [
  sq 7 (.move (.tmp 1)) 3,
  sc 8 (.makeSlice 69 (.tmp 7) (.tmp 7)) 69,
  sw 5 (.assign (.tmp 8)) 69]
def pool_Big_r2 : List Sop := [
  sq 9 (.move (.tmp 5)) 69,
  sw 10 (.call { callee := .builtin .len, args := #[.tmp 9], argTypes := #[69] }) 3,
  sw 11 (.move (.const (.int .i64 0))) 3]
def pool_Big_r3 : List Sop := [
  sw 12 (.binOp .lss 3 (.tmp 11) (.tmp 10) 3) 0]
def pool_Big_r4 : List Sop := [
  sq 13 (.move (.tmp 11)) 3,
  sw 6 (.assign (.tmp 13)) 3]
def pool_Big_r5 : List Sop := [
  sq 14 (.move (.tmp 5)) 69,
  sq 15 (.move (.tmp 6)) 3,
  sq 16 (.move (.tmp 0)) 74,
  sq 17 (.move (.tmp 1)) 3,
  sq 18 (.binOp .sub 3 (.tmp 17) (.const (.int .i64 1)) 3) 3,
  sq 19 (.move (.tmp 6)) 3,
  sq 20 (.binOp .sub 3 (.tmp 18) (.tmp 19) 3) 3,
  sq 21 (.binOp .mul 3 (.const (.int .i64 8)) (.tmp 20) 3) 3,
  sq 22 (.binOp .shr 74 (.tmp 16) (.tmp 21) 3) 74,
  sq 23 (.convert 74 5 (.tmp 22)) 5,
  sq 24 (.indexAddr 69 (.tmp 14) (.tmp 15)) 0,
  ss (.store 5 (.tmp 24) (.tmp 23))]
def pool_Big_r6 : List Sop := [
  sq 25 (.binOp .add 3 (.tmp 11) (.const (.int .i64 1)) 3) 3,
  sw 11 (.move (.tmp 25)) 3]
def pool_Big_r7 : List Sop := [
  sq 26 (.move (.tmp 5)) 69,
  sq 27 (.convert 69 9 (.tmp 26)) 9,
  sw 4 (.assign (.tmp 27)) 9]
def pool_Big_l0 : Cd := .seq (.region pool_Big_r3) (.seq (.cond (.tmp 12) (.skip) (.exit 0)) (.seq (.block 1 (.seq (.region pool_Big_r4) (.region pool_Big_r5))) (.region pool_Big_r6)))
def pool_Big : Cd := .seq (.region pool_Big_r0) (.seq (.region pool_Big_r1) (.seq (.seq (.region pool_Big_r2) (.block 0 (.loop pool_Big_l0))) (.seq (.region pool_Big_r7) (.ret))))
theorem pool_Big_calls {args : List Value} {h : Heap} {R : Value → Heap → Prop} (hl : args.length = 2) (hv : Cd.vc Try.prog pool_Big (retQ Try.prog [(4, none)] R) (initEnv args [0, 1, 4, 5, 6, 10, 11, 12]) h) : HCalls Try.prog 70 args.toArray h R :=
  hcalls_of_vc (by kernel_rfl) Try.func70 (cd := pool_Big) (L := [0, 1, 4, 5, 6, 10, 11, 12]) (by kernel_rfl) (by kernel_rfl) ⟨by rw [hl, Try.ntmps70]; decide, by rw [Try.ntmps70]; decide⟩ hv
def pool_Big_gos := And.intro (@goVc Try.prog _ _ pool_Big.eq_1) (And.intro (@goOps Try.prog _ _ pool_Big_r0.eq_1) (And.intro (@goOps Try.prog _ _ pool_Big_r1.eq_1) (And.intro (@goOps Try.prog _ _ pool_Big_r2.eq_1) (And.intro (@goOps Try.prog _ _ pool_Big_r3.eq_1) (And.intro (@goOps Try.prog _ _ pool_Big_r4.eq_1) (And.intro (@goOps Try.prog _ _ pool_Big_r5.eq_1) (And.intro (@goOps Try.prog _ _ pool_Big_r6.eq_1) (And.intro (@goOps Try.prog _ _ pool_Big_r7.eq_1) (@goVc Try.prog _ _ pool_Big_l0.eq_1)))))))))

end Go.Proofs.Ytohkbpnblkkdgaa.C
