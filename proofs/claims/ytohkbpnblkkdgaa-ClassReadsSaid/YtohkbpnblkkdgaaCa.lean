/- The stripped code of some functions of this seat's program, printed by a program; that it is that code is proved by the kernel. No condition. -/

import Derived.Test.YtohkbpnblkkdgaaProg

import Derived.Test.YtohkbpnblkkdgaaVcJ

set_option maxRecDepth 100000

set_option linter.defProp false

namespace Go.Proofs.Ytohkbpnblkkdgaa.C

open Go.Vc

/-! jvmcore/jvmcoreref1.Big: function 75: slots [0, 1, 4, 5, 7] -/
def ref1_Big_r0 : List Sop := [
  ⟨some (4, true), .assign (.const (.string { data := #[] })), 9, none, true⟩]
def ref1_Big_r0_go := @goOps Try.prog _ _ ref1_Big_r0.eq_1
def ref1_Big_r1 : List Sop := [
  ⟨some (5, true), .assign (.const (.string { data := #[] })), 9, none, true⟩]
def ref1_Big_r1_go := @goOps Try.prog _ _ ref1_Big_r1.eq_1
def ref1_Big_r2 : List Sop := [
  ⟨some (6, false), .move (.tmp 1), 3, none, true⟩,
  ⟨some (7, true), .binOp .gtr 3 (.tmp 6) (.const (.int .i64 0)) 3, 4, none, true⟩]
def ref1_Big_r2_go := @goOps Try.prog _ _ ref1_Big_r2.eq_1
def ref1_Big_r3 : List Sop := [
  ⟨some (10, false), .move (.tmp 0), 74, none, true⟩,
  ⟨some (11, false), .convert 74 5 (.tmp 10), 5, none, true⟩,
  ⟨some (12, false), .buildSlice 69 1 #[(0, .tmp 11)], 69, none, false⟩,
  ⟨some (13, false), .convert 69 9 (.tmp 12), 9, none, true⟩,
  ⟨some (14, false), .move (.tmp 5), 9, none, true⟩,
  ⟨some (15, false), .binOp .add 9 (.tmp 13) (.tmp 14) 9, 9, none, true⟩,
  ⟨some (5, true), .assign (.tmp 15), 9, none, true⟩]
def ref1_Big_r3_go := @goOps Try.prog _ _ ref1_Big_r3.eq_1
def ref1_Big_r4 : List Sop := [
  ⟨some (16, false), .move (.tmp 0), 74, none, true⟩,
  ⟨some (17, false), .binOp .quo 74 (.tmp 16) (.const (.int .u64 256)) 74, 74, none, true⟩,
  ⟨some (0, true), .assign (.tmp 17), 74, none, true⟩]
def ref1_Big_r4_go := @goOps Try.prog _ _ ref1_Big_r4.eq_1
def ref1_Big_r5 : List Sop := [
  ⟨some (8, false), .move (.tmp 1), 3, none, true⟩,
  ⟨some (9, false), .binOp .sub 3 (.tmp 8) (.const (.int .i64 1)) 3, 3, none, true⟩,
  ⟨some (1, true), .assign (.tmp 9), 3, none, true⟩]
def ref1_Big_r5_go := @goOps Try.prog _ _ ref1_Big_r5.eq_1
def ref1_Big_r6 : List Sop := [
  ⟨some (18, false), .move (.tmp 5), 9, none, true⟩,
  ⟨some (4, true), .assign (.tmp 18), 9, none, true⟩]
def ref1_Big_r6_go := @goOps Try.prog _ _ ref1_Big_r6.eq_1
def ref1_Big_l0 : Cd := .seq (.seq (.region ref1_Big_r2) (.cond (.tmp 7) (.skip) (.exit 0))) (.seq (.block 1 (.seq (.region ref1_Big_r3) (.region ref1_Big_r4))) (.region ref1_Big_r5))
def ref1_Big_l0_go := @goVc Try.prog _ _ ref1_Big_l0.eq_1
def ref1_Big : Cd := .seq (.region ref1_Big_r0) (.seq (.region ref1_Big_r1) (.seq (.block 0 (.loop ref1_Big_l0)) (.seq (.region ref1_Big_r6) (.ret))))
def ref1_Big_go := @goVc Try.prog _ _ ref1_Big.eq_1
theorem ref1_Big_calls {args : List Value} {h : Heap} {R : Value → Heap → Prop} (hl : args.length = 2) (hv : Cd.vc Try.prog ref1_Big (retQ Try.prog [(4, none)] R) (initEnv args [0, 1, 4, 5, 7]) h) : HCalls Try.prog 75 args.toArray h R :=
  hcalls_of_vc (by kernel_rfl) Try.func75 (cd := ref1_Big) (L := [0, 1, 4, 5, 7]) (by kernel_rfl) (by kernel_rfl) ⟨by rw [hl, Try.ntmps75]; decide, by rw [Try.ntmps75]; decide⟩ hv
def ref1_Big_gos := And.intro @ref1_Big_go (And.intro @ref1_Big_r0_go (And.intro @ref1_Big_r1_go (And.intro @ref1_Big_r2_go (And.intro @ref1_Big_r3_go (And.intro @ref1_Big_r4_go (And.intro @ref1_Big_r5_go (And.intro @ref1_Big_r6_go (@ref1_Big_l0_go))))))))

/-! jvmcore/pool.Big: function 70: slots [0, 1, 4, 5, 6, 10, 11, 12] -/
def pool_Big_r0 : List Sop := [
  ⟨some (4, true), .assign (.const (.string { data := #[] })), 9, none, true⟩]
def pool_Big_r0_go := @goOps Try.prog _ _ pool_Big_r0.eq_1
def pool_Big_r1 : List Sop := [
  ⟨some (7, false), .move (.tmp 1), 3, none, true⟩,
  ⟨some (8, false), .makeSlice 69 (.tmp 7) (.tmp 7), 69, none, false⟩,
  ⟨some (5, true), .assign (.tmp 8), 69, none, true⟩]
def pool_Big_r1_go := @goOps Try.prog _ _ pool_Big_r1.eq_1
def pool_Big_r2 : List Sop := [
  ⟨some (9, false), .move (.tmp 5), 69, none, true⟩,
  ⟨some (10, true), .call { callee := .builtin .len, args := #[.tmp 9], argTypes := #[69] }, 3, none, true⟩,
  ⟨some (11, true), .move (.const (.int .i64 0)), 3, none, true⟩]
def pool_Big_r2_go := @goOps Try.prog _ _ pool_Big_r2.eq_1
def pool_Big_r3 : List Sop := [
  ⟨some (12, true), .binOp .lss 3 (.tmp 11) (.tmp 10) 3, 0, none, true⟩]
def pool_Big_r3_go := @goOps Try.prog _ _ pool_Big_r3.eq_1
def pool_Big_r4 : List Sop := [
  ⟨some (13, false), .move (.tmp 11), 3, none, true⟩,
  ⟨some (6, true), .assign (.tmp 13), 3, none, true⟩]
def pool_Big_r4_go := @goOps Try.prog _ _ pool_Big_r4.eq_1
def pool_Big_r5 : List Sop := [
  ⟨some (14, false), .move (.tmp 5), 69, none, true⟩,
  ⟨some (15, false), .move (.tmp 6), 3, none, true⟩,
  ⟨some (16, false), .move (.tmp 0), 74, none, true⟩,
  ⟨some (17, false), .move (.tmp 1), 3, none, true⟩,
  ⟨some (18, false), .binOp .sub 3 (.tmp 17) (.const (.int .i64 1)) 3, 3, none, true⟩,
  ⟨some (19, false), .move (.tmp 6), 3, none, true⟩,
  ⟨some (20, false), .binOp .sub 3 (.tmp 18) (.tmp 19) 3, 3, none, true⟩,
  ⟨some (21, false), .binOp .mul 3 (.const (.int .i64 8)) (.tmp 20) 3, 3, none, true⟩,
  ⟨some (22, false), .binOp .shr 74 (.tmp 16) (.tmp 21) 3, 74, none, true⟩,
  ⟨some (23, false), .convert 74 5 (.tmp 22), 5, none, true⟩,
  ⟨some (24, false), .indexAddr 69 (.tmp 14) (.tmp 15), 0, none, true⟩,
  ⟨none, .store 5 (.tmp 24) (.tmp 23), 0, none, false⟩]
def pool_Big_r5_go := @goOps Try.prog _ _ pool_Big_r5.eq_1
def pool_Big_r6 : List Sop := [
  ⟨some (25, false), .binOp .add 3 (.tmp 11) (.const (.int .i64 1)) 3, 3, none, true⟩,
  ⟨some (11, true), .move (.tmp 25), 3, none, true⟩]
def pool_Big_r6_go := @goOps Try.prog _ _ pool_Big_r6.eq_1
def pool_Big_r7 : List Sop := [
  ⟨some (26, false), .move (.tmp 5), 69, none, true⟩,
  ⟨some (27, false), .convert 69 9 (.tmp 26), 9, none, true⟩,
  ⟨some (4, true), .assign (.tmp 27), 9, none, true⟩]
def pool_Big_r7_go := @goOps Try.prog _ _ pool_Big_r7.eq_1
def pool_Big_l0 : Cd := .seq (.region pool_Big_r3) (.seq (.cond (.tmp 12) (.skip) (.exit 0)) (.seq (.block 1 (.seq (.region pool_Big_r4) (.region pool_Big_r5))) (.region pool_Big_r6)))
def pool_Big_l0_go := @goVc Try.prog _ _ pool_Big_l0.eq_1
def pool_Big : Cd := .seq (.region pool_Big_r0) (.seq (.region pool_Big_r1) (.seq (.seq (.region pool_Big_r2) (.block 0 (.loop pool_Big_l0))) (.seq (.region pool_Big_r7) (.ret))))
def pool_Big_go := @goVc Try.prog _ _ pool_Big.eq_1
theorem pool_Big_calls {args : List Value} {h : Heap} {R : Value → Heap → Prop} (hl : args.length = 2) (hv : Cd.vc Try.prog pool_Big (retQ Try.prog [(4, none)] R) (initEnv args [0, 1, 4, 5, 6, 10, 11, 12]) h) : HCalls Try.prog 70 args.toArray h R :=
  hcalls_of_vc (by kernel_rfl) Try.func70 (cd := pool_Big) (L := [0, 1, 4, 5, 6, 10, 11, 12]) (by kernel_rfl) (by kernel_rfl) ⟨by rw [hl, Try.ntmps70]; decide, by rw [Try.ntmps70]; decide⟩ hv
def pool_Big_gos := And.intro @pool_Big_go (And.intro @pool_Big_r0_go (And.intro @pool_Big_r1_go (And.intro @pool_Big_r2_go (And.intro @pool_Big_r3_go (And.intro @pool_Big_r4_go (And.intro @pool_Big_r5_go (And.intro @pool_Big_r6_go (And.intro @pool_Big_r7_go (@pool_Big_l0_go)))))))))

end Go.Proofs.Ytohkbpnblkkdgaa.C
