/- The stripped code of some functions of this seat's program, printed by a program; that it is that code is proved by the kernel. No condition. -/

import Derived.Test.YtgdmoimclelfhaaDoorProg

import Derived.Test.YtgdmoimclelfhaaDoorVcJ

set_option maxRecDepth 100000

set_option linter.defProp false

namespace Go.Proofs.YtgdmoimclelfhaaDoor.C

open Go.Vc

/-! strings.ContainsAny: function 36: slots [0, 1, 4] -/
def s_ContainsAny_r0 : List Sop := [
  sw 4 (.assign (.const (.bool false))) 4]
def s_ContainsAny_r1 : List Sop := [
  sq 5 (.move (.tmp 0)) 9,
  sq 6 (.move (.tmp 1)) 9,
  sc 7 (.call { callee := .value (.func 42), args := #[.tmp 5, .tmp 6], argTypes := #[9, 9] }) 3,
  sq 8 (.binOp .geq 3 (.tmp 7) (.const (.int .i64 0)) 3) 4,
  sw 4 (.assign (.tmp 8)) 4]
def s_ContainsAny : Cd := .seq (.region s_ContainsAny_r0) (.seq (.region s_ContainsAny_r1) (.ret))
theorem s_ContainsAny_calls {args : List Value} {h : Heap} {R : Value → Heap → Prop} (hl : args.length = 2) (hv : Cd.vc Tryd.prog s_ContainsAny (retQ Tryd.prog [(4, none)] R) (initEnv args [0, 1, 4]) h) : HCalls Tryd.prog 36 args.toArray h R :=
  hcalls_of_vc (by kernel_rfl) Tryd.func36 (cd := s_ContainsAny) (L := [0, 1, 4]) (by kernel_rfl) (by kernel_rfl) ⟨by rw [hl, Tryd.ntmps36]; decide, by rw [Tryd.ntmps36]; decide⟩ hv
def s_ContainsAny_gos := And.intro (@goVc Tryd.prog _ _ s_ContainsAny.eq_1) (And.intro (@goOps Tryd.prog _ _ s_ContainsAny_r0.eq_1) (@goOps Tryd.prog _ _ s_ContainsAny_r1.eq_1))

/-! strings.HasPrefix: function 37: slots [0, 1, 4] -/
def s_HasPrefix_r0 : List Sop := [
  sw 4 (.assign (.const (.bool false))) 4]
def s_HasPrefix_r1 : List Sop := [
  sq 5 (.move (.tmp 0)) 9,
  sq 6 (.move (.tmp 1)) 9,
  sc 7 (.call { callee := .value (.func 43), args := #[.tmp 5, .tmp 6], argTypes := #[9, 9] }) 4,
  sw 4 (.assign (.tmp 7)) 4]
def s_HasPrefix : Cd := .seq (.region s_HasPrefix_r0) (.seq (.region s_HasPrefix_r1) (.ret))
theorem s_HasPrefix_calls {args : List Value} {h : Heap} {R : Value → Heap → Prop} (hl : args.length = 2) (hv : Cd.vc Tryd.prog s_HasPrefix (retQ Tryd.prog [(4, none)] R) (initEnv args [0, 1, 4]) h) : HCalls Tryd.prog 37 args.toArray h R :=
  hcalls_of_vc (by kernel_rfl) Tryd.func37 (cd := s_HasPrefix) (L := [0, 1, 4]) (by kernel_rfl) (by kernel_rfl) ⟨by rw [hl, Tryd.ntmps37]; decide, by rw [Tryd.ntmps37]; decide⟩ hv
def s_HasPrefix_gos := And.intro (@goVc Tryd.prog _ _ s_HasPrefix.eq_1) (And.intro (@goOps Tryd.prog _ _ s_HasPrefix_r0.eq_1) (@goOps Tryd.prog _ _ s_HasPrefix_r1.eq_1))

/-! strings.IndexAny: function 42: slots [0, 1, 4, 5, 6, 7, 8, 9, 10, 12, 15, 20, 26, 32, 36, 42, 45, 46, 47, 53] -/
def s_IndexAny_r0 : List Sop := [
  sw 4 (.assign (.const (.int .i64 0))) 3]
def s_IndexAny_r1 : List Sop := [
  sq 11 (.move (.tmp 1)) 9,
  sw 12 (.binOp .eql 9 (.tmp 11) (.const (.string { data := #[] })) 9) 4]
def s_IndexAny_r2 : List Sop := [
  sw 4 (.assign (.const (.int .i64 (-1)))) 3]
def s_IndexAny_r3 : List Sop := [
  sq 13 (.move (.tmp 1)) 9,
  sq 14 (.call { callee := .builtin .len, args := #[.tmp 13], argTypes := #[9] }) 3,
  sw 15 (.binOp .eql 3 (.tmp 14) (.const (.int .i64 1)) 3) 4]
def s_IndexAny_r4 : List Sop := [
  sq 16 (.move (.tmp 1)) 9,
  sq 17 (.index 9 (.tmp 16) (.const (.int .i64 0))) 5,
  sq 18 (.convert 5 21 (.tmp 17)) 21,
  sw 5 (.assign (.tmp 18)) 21]
def s_IndexAny_r5 : List Sop := [
  sq 19 (.move (.tmp 5)) 21,
  sw 20 (.binOp .geq 21 (.tmp 19) (.const (.int .i32 128)) 21) 4]
def s_IndexAny_r6 : List Sop := [
  sw 5 (.assign (.const (.int .i32 65533))) 21]
def s_IndexAny_r7 : List Sop := [
  sq 21 (.move (.tmp 0)) 9,
  sq 22 (.move (.tmp 5)) 21,
  sc 23 (.call { callee := .value (.func 47), args := #[.tmp 21, .tmp 22], argTypes := #[9, 21] }) 3,
  sw 4 (.assign (.tmp 23)) 3]
def s_IndexAny_r8 : List Sop := [
  sq 24 (.move (.tmp 0)) 9,
  sq 25 (.call { callee := .builtin .len, args := #[.tmp 24], argTypes := #[9] }) 3,
  sa 26 (.call { callee := .value (.func 48), args := #[.tmp 25], argTypes := #[3] }) 4]
def s_IndexAny_r9 : List Sop := [
  sq 28 (.move (.tmp 1)) 9,
  sc 29 (.call { callee := .value (.func 49), args := #[.tmp 28], argTypes := #[9] }) 71,
  sq 27 (.move (.tmp 29)) 71,
  sq 30 (.extract (.tmp 27) 0) 70,
  sq 31 (.extract (.tmp 27) 1) 4,
  sa 6 (.alloc 70) 0,
  ss (.store 70 (.tmp 6) (.tmp 30)),
  sw 7 (.assign (.tmp 31)) 4]
def s_IndexAny_r10 : List Sop := [
  sw 32 (.move (.tmp 7)) 4]
def s_IndexAny_r11 : List Sop := [
  sw 8 (.assign (.const (.int .i64 0))) 3]
def s_IndexAny_r12 : List Sop := [
  sq 33 (.move (.tmp 8)) 3,
  sq 34 (.move (.tmp 0)) 9,
  sq 35 (.call { callee := .builtin .len, args := #[.tmp 34], argTypes := #[9] }) 3,
  sw 36 (.binOp .lss 3 (.tmp 33) (.tmp 35) 3) 4]
def s_IndexAny_r13 : List Sop := [
  sq 39 (.move (.tmp 0)) 9,
  sq 40 (.move (.tmp 8)) 3,
  sq 41 (.index 9 (.tmp 39) (.tmp 40)) 5,
  sa 42 (.call { callee := .value (.func 50), args := #[.tmp 6, .tmp 41], argTypes := #[70, 5] }) 4]
def s_IndexAny_r14 : List Sop := [
  sq 43 (.move (.tmp 8)) 3,
  sw 4 (.assign (.tmp 43)) 3]
def s_IndexAny_r15 : List Sop := [
  sq 37 (.move (.tmp 8)) 3,
  sq 38 (.binOp .add 3 (.tmp 37) (.const (.int .i64 1)) 3) 3,
  sw 8 (.assign (.tmp 38)) 3]
def s_IndexAny_r16 : List Sop := [
  sw 4 (.assign (.const (.int .i64 (-1)))) 3]
def s_IndexAny_r17 : List Sop := [
  sq 44 (.move (.tmp 0)) 9,
  sa 45 (.range 9 (.tmp 44)) 0]
def s_IndexAny_r18 : List Sop := [
  sa 46 (.next (.tmp 45) true) 0,
  sw 47 (.extract (.tmp 46) 0) 4]
def s_IndexAny_r19 : List Sop := [
  sq 48 (.extract (.tmp 46) 1) 3,
  sq 49 (.extract (.tmp 46) 2) 21,
  sw 9 (.assign (.tmp 48)) 3,
  sw 10 (.assign (.tmp 49)) 21]
def s_IndexAny_r20 : List Sop := [
  sq 50 (.move (.tmp 1)) 9,
  sq 51 (.move (.tmp 10)) 21,
  sc 52 (.call { callee := .value (.func 47), args := #[.tmp 50, .tmp 51], argTypes := #[9, 21] }) 3,
  sw 53 (.binOp .geq 3 (.tmp 52) (.const (.int .i64 0)) 3) 4]
def s_IndexAny_r21 : List Sop := [
  sq 54 (.move (.tmp 9)) 3,
  sw 4 (.assign (.tmp 54)) 3]
def s_IndexAny_r22 : List Sop := [
  sw 4 (.assign (.const (.int .i64 (-1)))) 3]
def s_IndexAny_l0 : Cd := .seq (.seq (.region s_IndexAny_r12) (.cond (.tmp 36) (.skip) (.exit 0))) (.seq (.block 1 (.seq (.region s_IndexAny_r13) (.cond (.tmp 42) (.seq (.region s_IndexAny_r14) (.ret)) (.skip)))) (.region s_IndexAny_r15))
def s_IndexAny_l1 : Cd := .seq (.region s_IndexAny_r18) (.seq (.cond (.tmp 47) (.skip) (.exit 2)) (.block 3 (.seq (.region s_IndexAny_r19) (.seq (.region s_IndexAny_r20) (.cond (.tmp 53) (.seq (.region s_IndexAny_r21) (.ret)) (.skip))))))
def s_IndexAny : Cd := .seq (.region s_IndexAny_r0) (.seq (.seq (.region s_IndexAny_r1) (.cond (.tmp 12) (.seq (.region s_IndexAny_r2) (.ret)) (.skip))) (.seq (.seq (.region s_IndexAny_r3) (.cond (.tmp 15) (.seq (.region s_IndexAny_r4) (.seq (.seq (.region s_IndexAny_r5) (.cond (.tmp 20) (.region s_IndexAny_r6) (.skip))) (.seq (.region s_IndexAny_r7) (.ret)))) (.skip))) (.seq (.seq (.region s_IndexAny_r8) (.cond (.tmp 26) (.seq (.region s_IndexAny_r9) (.seq (.region s_IndexAny_r10) (.cond (.tmp 32) (.seq (.seq (.region s_IndexAny_r11) (.block 0 (.loop s_IndexAny_l0))) (.seq (.region s_IndexAny_r16) (.ret))) (.skip)))) (.skip))) (.seq (.seq (.region s_IndexAny_r17) (.block 2 (.loop s_IndexAny_l1))) (.seq (.region s_IndexAny_r22) (.ret))))))
theorem s_IndexAny_calls {args : List Value} {h : Heap} {R : Value → Heap → Prop} (hl : args.length = 2) (hv : Cd.vc Tryd.prog s_IndexAny (retQ Tryd.prog [(4, none)] R) (initEnv args [0, 1, 4, 5, 6, 7, 8, 9, 10, 12, 15, 20, 26, 32, 36, 42, 45, 46, 47, 53]) h) : HCalls Tryd.prog 42 args.toArray h R :=
  hcalls_of_vc (by kernel_rfl) Tryd.func42 (cd := s_IndexAny) (L := [0, 1, 4, 5, 6, 7, 8, 9, 10, 12, 15, 20, 26, 32, 36, 42, 45, 46, 47, 53]) (by kernel_rfl) (by kernel_rfl) ⟨by rw [hl, Tryd.ntmps42]; decide, by rw [Tryd.ntmps42]; decide⟩ hv
def s_IndexAny_gos := And.intro (@goVc Tryd.prog _ _ s_IndexAny.eq_1) (And.intro (@goOps Tryd.prog _ _ s_IndexAny_r0.eq_1) (And.intro (@goOps Tryd.prog _ _ s_IndexAny_r1.eq_1) (And.intro (@goOps Tryd.prog _ _ s_IndexAny_r2.eq_1) (And.intro (@goOps Tryd.prog _ _ s_IndexAny_r3.eq_1) (And.intro (@goOps Tryd.prog _ _ s_IndexAny_r4.eq_1) (And.intro (@goOps Tryd.prog _ _ s_IndexAny_r5.eq_1) (And.intro (@goOps Tryd.prog _ _ s_IndexAny_r6.eq_1) (And.intro (@goOps Tryd.prog _ _ s_IndexAny_r7.eq_1) (And.intro (@goOps Tryd.prog _ _ s_IndexAny_r8.eq_1) (And.intro (@goOps Tryd.prog _ _ s_IndexAny_r9.eq_1) (And.intro (@goOps Tryd.prog _ _ s_IndexAny_r10.eq_1) (And.intro (@goOps Tryd.prog _ _ s_IndexAny_r11.eq_1) (And.intro (@goOps Tryd.prog _ _ s_IndexAny_r12.eq_1) (And.intro (@goOps Tryd.prog _ _ s_IndexAny_r13.eq_1) (And.intro (@goOps Tryd.prog _ _ s_IndexAny_r14.eq_1) (And.intro (@goOps Tryd.prog _ _ s_IndexAny_r15.eq_1) (And.intro (@goOps Tryd.prog _ _ s_IndexAny_r16.eq_1) (And.intro (@goOps Tryd.prog _ _ s_IndexAny_r17.eq_1) (And.intro (@goOps Tryd.prog _ _ s_IndexAny_r18.eq_1) (And.intro (@goOps Tryd.prog _ _ s_IndexAny_r19.eq_1) (And.intro (@goOps Tryd.prog _ _ s_IndexAny_r20.eq_1) (And.intro (@goOps Tryd.prog _ _ s_IndexAny_r21.eq_1) (And.intro (@goOps Tryd.prog _ _ s_IndexAny_r22.eq_1) (And.intro (@goVc Tryd.prog _ _ s_IndexAny_l0.eq_1) (@goVc Tryd.prog _ _ s_IndexAny_l1.eq_1)))))))))))))))))))))))))

/-! internal/stringslite.HasPrefix: function 43: slots [0, 1, 4] -/
def sl_HasPrefix_r0 : List Sop := [
  sw 4 (.assign (.const (.bool false))) 4]
def sl_HasPrefix_r1 : List Sop := [
  sq 5 (.move (.tmp 0)) 9,
  sq 6 (.call { callee := .builtin .len, args := #[.tmp 5], argTypes := #[9] }) 3,
  sq 7 (.move (.tmp 1)) 9,
  sq 8 (.call { callee := .builtin .len, args := #[.tmp 7], argTypes := #[9] }) 3,
  sq 9 (.binOp .geq 3 (.tmp 6) (.tmp 8) 3) 4,
  sq 10 (.move (.tmp 9)) 4,
  ⟨some (11, false), .move (.tmp 0), 9, some (10, true), true⟩,
  ⟨some (12, false), .move (.tmp 1), 9, some (10, true), true⟩,
  ⟨some (13, false), .call { callee := .builtin .len, args := #[.tmp 12], argTypes := #[9] }, 3, some (10, true), true⟩,
  ⟨some (14, false), .slice 9 (.tmp 11) none (some (.tmp 13)) none, 9, some (10, true), true⟩,
  ⟨some (15, false), .move (.tmp 1), 9, some (10, true), true⟩,
  ⟨some (16, false), .binOp .eql 9 (.tmp 14) (.tmp 15) 9, 4, some (10, true), true⟩,
  sq 17 (.pick (.tmp 10) (.tmp 16) (.const (.bool false))) 4,
  sw 4 (.assign (.tmp 17)) 4]
def sl_HasPrefix : Cd := .seq (.region sl_HasPrefix_r0) (.seq (.region sl_HasPrefix_r1) (.ret))
theorem sl_HasPrefix_calls {args : List Value} {h : Heap} {R : Value → Heap → Prop} (hl : args.length = 2) (hv : Cd.vc Tryd.prog sl_HasPrefix (retQ Tryd.prog [(4, none)] R) (initEnv args [0, 1, 4]) h) : HCalls Tryd.prog 43 args.toArray h R :=
  hcalls_of_vc (by kernel_rfl) Tryd.func43 (cd := sl_HasPrefix) (L := [0, 1, 4]) (by kernel_rfl) (by kernel_rfl) ⟨by rw [hl, Tryd.ntmps43]; decide, by rw [Tryd.ntmps43]; decide⟩ hv
def sl_HasPrefix_gos := And.intro (@goVc Tryd.prog _ _ sl_HasPrefix.eq_1) (And.intro (@goOps Tryd.prog _ _ sl_HasPrefix_r0.eq_1) (@goOps Tryd.prog _ _ sl_HasPrefix_r1.eq_1))

/-! strings.Split: function 52: slots [0, 1, 4] -/
def s_Split_r0 : List Sop := [
  sw 4 (.assign (.const (.slice none 0 0))) 57]
def s_Split_r1 : List Sop := [
  sq 5 (.move (.tmp 0)) 9,
  sq 6 (.move (.tmp 1)) 9,
  sc 7 (.call { callee := .value (.func 58), args := #[.tmp 5, .tmp 6, .const (.int .i64 0), .const (.int .i64 (-1))], argTypes := #[9, 9, 3, 3] }) 57,
  sw 4 (.assign (.tmp 7)) 57]
def s_Split : Cd := .seq (.region s_Split_r0) (.seq (.region s_Split_r1) (.ret))
theorem s_Split_calls {args : List Value} {h : Heap} {R : Value → Heap → Prop} (hl : args.length = 2) (hv : Cd.vc Tryd.prog s_Split (retQ Tryd.prog [(4, none)] R) (initEnv args [0, 1, 4]) h) : HCalls Tryd.prog 52 args.toArray h R :=
  hcalls_of_vc (by kernel_rfl) Tryd.func52 (cd := s_Split) (L := [0, 1, 4]) (by kernel_rfl) (by kernel_rfl) ⟨by rw [hl, Tryd.ntmps52]; decide, by rw [Tryd.ntmps52]; decide⟩ hv
def s_Split_gos := And.intro (@goVc Tryd.prog _ _ s_Split.eq_1) (And.intro (@goOps Tryd.prog _ _ s_Split_r0.eq_1) (@goOps Tryd.prog _ _ s_Split_r1.eq_1))

/-! strings.IndexByte: function 44: slots [0, 1, 4] -/
def s_IndexByte_r0 : List Sop := [
  sw 4 (.assign (.const (.int .i64 0))) 3]
def s_IndexByte_r1 : List Sop := [
  sq 5 (.move (.tmp 0)) 9,
  sq 6 (.move (.tmp 1)) 5,
  sc 7 (.call { callee := .value (.func 51), args := #[.tmp 5, .tmp 6], argTypes := #[9, 5] }) 3,
  sw 4 (.assign (.tmp 7)) 3]
def s_IndexByte : Cd := .seq (.region s_IndexByte_r0) (.seq (.region s_IndexByte_r1) (.ret))
theorem s_IndexByte_calls {args : List Value} {h : Heap} {R : Value → Heap → Prop} (hl : args.length = 2) (hv : Cd.vc Tryd.prog s_IndexByte (retQ Tryd.prog [(4, none)] R) (initEnv args [0, 1, 4]) h) : HCalls Tryd.prog 44 args.toArray h R :=
  hcalls_of_vc (by kernel_rfl) Tryd.func44 (cd := s_IndexByte) (L := [0, 1, 4]) (by kernel_rfl) (by kernel_rfl) ⟨by rw [hl, Tryd.ntmps44]; decide, by rw [Tryd.ntmps44]; decide⟩ hv
def s_IndexByte_gos := And.intro (@goVc Tryd.prog _ _ s_IndexByte.eq_1) (And.intro (@goOps Tryd.prog _ _ s_IndexByte_r0.eq_1) (@goOps Tryd.prog _ _ s_IndexByte_r1.eq_1))

/-! strings.IndexRune: function 47: slots [0, 1, 4, 5, 6, 7, 8, 9, 10, 11, 12, 13, 14, 15, 16, 26, 33, 43, 51, 64, 98, 108, 124, 139, 143, 156, 160, 171, 175, 176, 177, 181, 183] -/
def s_IndexRune_r0 : List Sop := [
  sw 4 (.assign (.const (.int .i64 0))) 3]
def s_IndexRune_r1 : List Sop := [
  sq 161 (.move (.tmp 1)) 21,
  sq 162 (.binOp .leq 21 (.const (.int .i32 0)) (.tmp 161) 21) 4,
  sq 163 (.move (.tmp 162)) 4,
  ⟨some (164, false), .move (.tmp 1), 21, some (163, true), true⟩,
  ⟨some (165, false), .binOp .lss 21 (.tmp 164) (.const (.int .i32 128)) 21, 4, some (163, true), true⟩,
  sq 166 (.pick (.tmp 163) (.tmp 165) (.const (.bool false))) 4,
  sw 160 (.assign (.tmp 166)) 4]
def s_IndexRune_r2 : List Sop := [
  sq 167 (.move (.tmp 0)) 9,
  sq 168 (.move (.tmp 1)) 21,
  sq 169 (.convert 21 5 (.tmp 168)) 5,
  sc 170 (.call { callee := .value (.func 44), args := #[.tmp 167, .tmp 169], argTypes := #[9, 5] }) 3,
  sw 4 (.assign (.tmp 170)) 3]
def s_IndexRune_r3 : List Sop := [
  sq 172 (.move (.tmp 1)) 21,
  sq 173 (.binOp .eql 21 (.tmp 172) (.const (.int .i32 65533)) 21) 4,
  sw 171 (.assign (.tmp 173)) 4]
def s_IndexRune_r4 : List Sop := [
  sq 174 (.move (.tmp 0)) 9,
  sa 175 (.range 9 (.tmp 174)) 0]
def s_IndexRune_r5 : List Sop := [
  sa 176 (.next (.tmp 175) true) 0,
  sw 177 (.extract (.tmp 176) 0) 4]
def s_IndexRune_r6 : List Sop := [
  sq 178 (.extract (.tmp 176) 1) 3,
  sq 179 (.extract (.tmp 176) 2) 21,
  sw 5 (.assign (.tmp 178)) 3,
  sw 6 (.assign (.tmp 179)) 21]
def s_IndexRune_r7 : List Sop := [
  sq 180 (.move (.tmp 6)) 21,
  sw 181 (.binOp .eql 21 (.tmp 180) (.const (.int .i32 65533)) 21) 4]
def s_IndexRune_r8 : List Sop := [
  sq 182 (.move (.tmp 5)) 3,
  sw 4 (.assign (.tmp 182)) 3]
def s_IndexRune_r9 : List Sop := [
  sw 4 (.assign (.const (.int .i64 (-1)))) 3]
def s_IndexRune_r10 : List Sop := [
  sq 184 (.move (.tmp 1)) 21,
  sc 185 (.call { callee := .value (.func 54), args := #[.tmp 184], argTypes := #[21] }) 4,
  sq 186 (.unOp .not 4 (.tmp 185)) 4,
  sw 183 (.assign (.tmp 186)) 4]
def s_IndexRune_r11 : List Sop := [
  sw 4 (.assign (.const (.int .i64 (-1)))) 3]
def s_IndexRune_r12 : List Sop := [
  sq 17 (.move (.tmp 1)) 21,
  sq 18 (.convert 21 9 (.tmp 17)) 9,
  sw 7 (.assign (.tmp 18)) 9]
def s_IndexRune_r13 : List Sop := [
  sq 19 (.move (.tmp 7)) 9,
  sq 20 (.call { callee := .builtin .len, args := #[.tmp 19], argTypes := #[9] }) 3,
  sq 21 (.binOp .sub 3 (.tmp 20) (.const (.int .i64 1)) 3) 3,
  sw 8 (.assign (.tmp 21)) 3]
def s_IndexRune_r14 : List Sop := [
  sq 22 (.move (.tmp 8)) 3,
  sw 9 (.assign (.tmp 22)) 3]
def s_IndexRune_r15 : List Sop := [
  sw 10 (.assign (.const (.int .i64 0))) 3]
def s_IndexRune_r16 : List Sop := [
  sq 23 (.move (.tmp 9)) 3,
  sq 24 (.move (.tmp 0)) 9,
  sq 25 (.call { callee := .builtin .len, args := #[.tmp 24], argTypes := #[9] }) 3,
  sw 26 (.binOp .lss 3 (.tmp 23) (.tmp 25) 3) 4]
def s_IndexRune_r17 : List (Sop × List Sop) := [
  (sq 27 (.move (.tmp 0)) 9, []),
  (sq 28 (.move (.tmp 9)) 3, []),
  (sq 29 (.index 9 (.tmp 27) (.tmp 28)) 5, []),
  (sq 30 (.move (.tmp 7)) 9, []),
  (sq 31 (.move (.tmp 8)) 3, []),
  (sq 32 (.index 9 (.tmp 30) (.tmp 31)) 5, []),
  (sw 33 (.binOp .neq 5 (.tmp 29) (.tmp 32) 5) 4, [])]
def s_IndexRune_r18 : List (Sop × List Sop) := [
  (sq 34 (.move (.tmp 0)) 9, []),
  (sq 35 (.move (.tmp 9)) 3, []),
  (sq 36 (.binOp .add 3 (.tmp 35) (.const (.int .i64 1)) 3) 3, []),
  (sq 37 (.slice 9 (.tmp 34) (some (.tmp 36)) none none) 9, []),
  (sq 38 (.move (.tmp 7)) 9, []),
  (sq 39 (.move (.tmp 8)) 3, []),
  (sq 40 (.index 9 (.tmp 38) (.tmp 39)) 5, []),
  (sc 41 (.call { callee := .value (.func 44), args := #[.tmp 37, .tmp 40], argTypes := #[9, 5] }) 3, []),
  (sw 11 (.assign (.tmp 41)) 3, [])]
def s_IndexRune_r19 : List Sop := [
  sq 42 (.move (.tmp 11)) 3,
  sw 43 (.binOp .lss 3 (.tmp 42) (.const (.int .i64 0)) 3) 4]
def s_IndexRune_r20 : List Sop := [
  sw 4 (.assign (.const (.int .i64 (-1)))) 3]
def s_IndexRune_r21 : List Sop := [
  sq 44 (.move (.tmp 9)) 3,
  sq 45 (.move (.tmp 11)) 3,
  sq 46 (.binOp .add 3 (.tmp 45) (.const (.int .i64 1)) 3) 3,
  sq 47 (.binOp .add 3 (.tmp 44) (.tmp 46) 3) 3,
  sw 9 (.assign (.tmp 47)) 3]
def s_IndexRune_r22 : List Sop := [
  sw 12 (.assign (.const (.int .i64 1))) 3]
def s_IndexRune_r23 : List Sop := [
  sq 48 (.move (.tmp 12)) 3,
  sq 49 (.move (.tmp 7)) 9,
  sq 50 (.call { callee := .builtin .len, args := #[.tmp 49], argTypes := #[9] }) 3,
  sw 51 (.binOp .lss 3 (.tmp 48) (.tmp 50) 3) 4]
def s_IndexRune_r24 : List (Sop × List Sop) := [
  (sq 54 (.move (.tmp 0)) 9, []),
  (sq 55 (.move (.tmp 9)) 3, []),
  (sq 56 (.move (.tmp 12)) 3, []),
  (sq 57 (.binOp .sub 3 (.tmp 55) (.tmp 56) 3) 3, []),
  (sq 58 (.index 9 (.tmp 54) (.tmp 57)) 5, []),
  (sq 59 (.move (.tmp 7)) 9, []),
  (sq 60 (.move (.tmp 8)) 3, []),
  (sq 61 (.move (.tmp 12)) 3, []),
  (sq 62 (.binOp .sub 3 (.tmp 60) (.tmp 61) 3) 3, []),
  (sq 63 (.index 9 (.tmp 59) (.tmp 62)) 5, []),
  (sw 64 (.binOp .neq 5 (.tmp 58) (.tmp 63) 5) 4, [])]
def s_IndexRune_r25 : List Sop := [
  sq 52 (.move (.tmp 12)) 3,
  sq 53 (.binOp .add 3 (.tmp 52) (.const (.int .i64 1)) 3) 3,
  sw 12 (.assign (.tmp 53)) 3]
def s_IndexRune_r26 : List Sop := [
  sq 65 (.move (.tmp 9)) 3,
  sq 66 (.move (.tmp 8)) 3,
  sq 67 (.binOp .sub 3 (.tmp 65) (.tmp 66) 3) 3,
  sw 4 (.assign (.tmp 67)) 3]
def s_IndexRune_r27 : List Sop := [
  sq 68 (.move (.tmp 10)) 3,
  sq 69 (.binOp .add 3 (.tmp 68) (.const (.int .i64 1)) 3) 3,
  sw 10 (.assign (.tmp 69)) 3]
def s_IndexRune_r28 : List Sop := [
  sq 70 (.move (.tmp 9)) 3,
  sq 71 (.binOp .add 3 (.tmp 70) (.const (.int .i64 1)) 3) 3,
  sw 9 (.assign (.tmp 71)) 3]
def s_IndexRune_r29 : List Sop := [
  sq 72 (.move (.const (.bool true))) 4,
  ⟨some (73, false), .move (.tmp 10), 3, some (72, true), true⟩,
  ⟨some (74, false), .move (.tmp 9), 3, some (72, true), true⟩,
  ⟨some (75, false), .call { callee := .value (.func 55), args := #[.tmp 74], argTypes := #[3] }, 3, some (72, true), false⟩,
  ⟨some (76, false), .binOp .gtr 3 (.tmp 73) (.tmp 75) 3, 4, some (72, true), true⟩,
  sq 77 (.pick (.tmp 72) (.tmp 76) (.const (.bool false))) 4,
  sq 78 (.move (.tmp 77)) 4,
  ⟨some (79, false), .move (.tmp 9), 3, some (78, true), true⟩,
  ⟨some (80, false), .move (.tmp 0), 9, some (78, true), true⟩,
  ⟨some (81, false), .call { callee := .builtin .len, args := #[.tmp 80], argTypes := #[9] }, 3, some (78, true), true⟩,
  ⟨some (82, false), .binOp .lss 3 (.tmp 79) (.tmp 81) 3, 4, some (78, true), true⟩,
  sq 83 (.pick (.tmp 78) (.tmp 82) (.const (.bool false))) 4,
  sq 84 (.move (.tmp 83)) 4,
  ⟨some (85, false), .move (.const (.bool false)), 4, some (84, false), true⟩,
  ⟨some (86, false), .move (.tmp 10), 3, some (85, true), true⟩,
  ⟨some (87, false), .move (.tmp 9), 3, some (85, true), true⟩,
  ⟨some (88, false), .binOp .shr 3 (.tmp 87) (.const (.int .u64 4)) 76, 3, some (85, true), true⟩,
  ⟨some (89, false), .binOp .add 3 (.const (.int .i64 4)) (.tmp 88) 3, 3, some (85, true), true⟩,
  ⟨some (90, false), .binOp .geq 3 (.tmp 86) (.tmp 89) 3, 4, some (85, true), true⟩,
  ⟨some (91, false), .pick (.tmp 85) (.tmp 90) (.const (.bool false)), 4, some (84, false), true⟩,
  ⟨some (92, false), .move (.tmp 91), 4, some (84, false), true⟩,
  ⟨some (93, false), .move (.tmp 9), 3, some (92, true), true⟩,
  ⟨some (94, false), .move (.tmp 0), 9, some (92, true), true⟩,
  ⟨some (95, false), .call { callee := .builtin .len, args := #[.tmp 94], argTypes := #[9] }, 3, some (92, true), true⟩,
  ⟨some (96, false), .binOp .lss 3 (.tmp 93) (.tmp 95) 3, 4, some (92, true), true⟩,
  ⟨some (97, false), .pick (.tmp 92) (.tmp 96) (.const (.bool false)), 4, some (84, false), true⟩,
  sw 98 (.pick (.tmp 84) (.const (.bool true)) (.tmp 97)) 4]
def s_IndexRune_r30 : List Sop := [
  sw 4 (.assign (.const (.int .i64 (-1)))) 3]
def s_IndexRune_r31 : List Sop := [
  sq 99 (.move (.tmp 0)) 9,
  sq 100 (.move (.tmp 9)) 3,
  sq 101 (.move (.tmp 8)) 3,
  sq 102 (.binOp .sub 3 (.tmp 100) (.tmp 101) 3) 3,
  sq 103 (.slice 9 (.tmp 99) (some (.tmp 102)) none none) 9,
  sq 104 (.move (.tmp 1)) 21,
  sq 105 (.convert 21 9 (.tmp 104)) 9,
  sc 106 (.call { callee := .value (.func 56), args := #[.tmp 103, .tmp 105], argTypes := #[9, 9] }) 3,
  sw 13 (.assign (.tmp 106)) 3]
def s_IndexRune_r32 : List Sop := [
  sq 107 (.move (.tmp 13)) 3,
  sw 108 (.binOp .geq 3 (.tmp 107) (.const (.int .i64 0)) 3) 4]
def s_IndexRune_r33 : List Sop := [
  sq 109 (.move (.tmp 9)) 3,
  sq 110 (.move (.tmp 13)) 3,
  sq 111 (.binOp .add 3 (.tmp 109) (.tmp 110) 3) 3,
  sq 112 (.move (.tmp 8)) 3,
  sq 113 (.binOp .sub 3 (.tmp 111) (.tmp 112) 3) 3,
  sw 4 (.assign (.tmp 113)) 3]
def s_IndexRune_r34 : List Sop := [
  sq 114 (.move (.tmp 7)) 9,
  sq 115 (.move (.tmp 8)) 3,
  sq 116 (.index 9 (.tmp 114) (.tmp 115)) 5,
  sw 14 (.assign (.tmp 116)) 5]
def s_IndexRune_r35 : List Sop := [
  sq 117 (.move (.tmp 7)) 9,
  sq 118 (.move (.tmp 8)) 3,
  sq 119 (.binOp .sub 3 (.tmp 118) (.const (.int .i64 1)) 3) 3,
  sq 120 (.index 9 (.tmp 117) (.tmp 119)) 5,
  sw 15 (.assign (.tmp 120)) 5]
def s_IndexRune_r36 : List Sop := [
  sq 121 (.move (.tmp 9)) 3,
  sq 122 (.move (.tmp 0)) 9,
  sq 123 (.call { callee := .builtin .len, args := #[.tmp 122], argTypes := #[9] }) 3,
  sw 124 (.binOp .lss 3 (.tmp 121) (.tmp 123) 3) 4]
def s_IndexRune_r37 : List Sop := [
  sq 127 (.move (.tmp 0)) 9,
  sq 128 (.move (.tmp 9)) 3,
  sq 129 (.index 9 (.tmp 127) (.tmp 128)) 5,
  sq 130 (.move (.tmp 14)) 5,
  sq 131 (.binOp .eql 5 (.tmp 129) (.tmp 130) 5) 4,
  sq 132 (.move (.tmp 131)) 4,
  ⟨some (133, false), .move (.tmp 0), 9, some (132, true), true⟩,
  ⟨some (134, false), .move (.tmp 9), 3, some (132, true), true⟩,
  ⟨some (135, false), .binOp .sub 3 (.tmp 134) (.const (.int .i64 1)) 3, 3, some (132, true), true⟩,
  ⟨some (136, false), .index 9 (.tmp 133) (.tmp 135), 5, some (132, true), true⟩,
  ⟨some (137, false), .move (.tmp 15), 5, some (132, true), true⟩,
  ⟨some (138, false), .binOp .eql 5 (.tmp 136) (.tmp 137) 5, 4, some (132, true), true⟩,
  sw 139 (.pick (.tmp 132) (.tmp 138) (.const (.bool false))) 4]
def s_IndexRune_r38 : List Sop := [
  sw 16 (.assign (.const (.int .i64 2))) 3]
def s_IndexRune_r39 : List Sop := [
  sq 140 (.move (.tmp 16)) 3,
  sq 141 (.move (.tmp 7)) 9,
  sq 142 (.call { callee := .builtin .len, args := #[.tmp 141], argTypes := #[9] }) 3,
  sw 143 (.binOp .lss 3 (.tmp 140) (.tmp 142) 3) 4]
def s_IndexRune_r40 : List (Sop × List Sop) := [
  (sq 146 (.move (.tmp 0)) 9, []),
  (sq 147 (.move (.tmp 9)) 3, []),
  (sq 148 (.move (.tmp 16)) 3, []),
  (sq 149 (.binOp .sub 3 (.tmp 147) (.tmp 148) 3) 3, []),
  (sq 150 (.index 9 (.tmp 146) (.tmp 149)) 5, []),
  (sq 151 (.move (.tmp 7)) 9, []),
  (sq 152 (.move (.tmp 8)) 3, []),
  (sq 153 (.move (.tmp 16)) 3, []),
  (sq 154 (.binOp .sub 3 (.tmp 152) (.tmp 153) 3) 3, []),
  (sq 155 (.index 9 (.tmp 151) (.tmp 154)) 5, []),
  (sw 156 (.binOp .neq 5 (.tmp 150) (.tmp 155) 5) 4, [])]
def s_IndexRune_r41 : List Sop := [
  sq 144 (.move (.tmp 16)) 3,
  sq 145 (.binOp .add 3 (.tmp 144) (.const (.int .i64 1)) 3) 3,
  sw 16 (.assign (.tmp 145)) 3]
def s_IndexRune_r42 : List Sop := [
  sq 157 (.move (.tmp 9)) 3,
  sq 158 (.move (.tmp 8)) 3,
  sq 159 (.binOp .sub 3 (.tmp 157) (.tmp 158) 3) 3,
  sw 4 (.assign (.tmp 159)) 3]
def s_IndexRune_r43 : List Sop := [
  sq 125 (.move (.tmp 9)) 3,
  sq 126 (.binOp .add 3 (.tmp 125) (.const (.int .i64 1)) 3) 3,
  sw 9 (.assign (.tmp 126)) 3]
def s_IndexRune_r44 : List Sop := [
  sw 4 (.assign (.const (.int .i64 (-1)))) 3]
def s_IndexRune_l0 : Cd := .seq (.region s_IndexRune_r5) (.seq (.cond (.tmp 177) (.skip) (.exit 9)) (.block 10 (.seq (.region s_IndexRune_r6) (.seq (.region s_IndexRune_r7) (.cond (.tmp 181) (.seq (.region s_IndexRune_r8) (.ret)) (.skip))))))
def s_IndexRune_l1 : Cd := .seq (.seq (.region s_IndexRune_r23) (.cond (.tmp 51) (.skip) (.exit 3))) (.seq (.block 4 (.seq (.draw s_IndexRune_r24) (.cond (.tmp 64) (.cond (.const (.int .i64 0)) (.skip) (.skip)) (.skip)))) (.region s_IndexRune_r25))
def s_IndexRune_l2 : Cd := .seq (.seq (.region s_IndexRune_r16) (.cond (.tmp 26) (.skip) (.exit 1))) (.block 2 (.seq (.seq (.draw s_IndexRune_r17) (.cond (.tmp 33) (.seq (.draw s_IndexRune_r18) (.seq (.seq (.region s_IndexRune_r19) (.cond (.tmp 43) (.seq (.region s_IndexRune_r20) (.ret)) (.skip))) (.region s_IndexRune_r21))) (.skip))) (.seq (.seq (.region s_IndexRune_r22) (.block 3 (.loop s_IndexRune_l1))) (.seq (.seq (.region s_IndexRune_r26) (.ret)) (.seq (.skip) (.seq (.region s_IndexRune_r27) (.seq (.region s_IndexRune_r28) (.seq (.region s_IndexRune_r29) (.cond (.tmp 98) (.cond (.const (.int .i64 0)) (.skip) (.skip)) (.skip))))))))))
def s_IndexRune_l3 : Cd := .seq (.seq (.region s_IndexRune_r39) (.cond (.tmp 143) (.skip) (.exit 7))) (.seq (.block 8 (.seq (.draw s_IndexRune_r40) (.cond (.tmp 156) (.exit 6) (.skip)))) (.region s_IndexRune_r41))
def s_IndexRune_l4 : Cd := .seq (.seq (.region s_IndexRune_r36) (.cond (.tmp 124) (.skip) (.exit 5))) (.seq (.block 6 (.seq (.region s_IndexRune_r37) (.cond (.tmp 139) (.seq (.seq (.region s_IndexRune_r38) (.block 7 (.loop s_IndexRune_l3))) (.seq (.region s_IndexRune_r42) (.ret))) (.skip)))) (.region s_IndexRune_r43))
def s_IndexRune : Cd := .seq (.region s_IndexRune_r0) (.block 0 (.seq (.region s_IndexRune_r1) (.cond (.tmp 160) (.seq (.region s_IndexRune_r2) (.ret)) (.seq (.region s_IndexRune_r3) (.cond (.tmp 171) (.seq (.seq (.region s_IndexRune_r4) (.block 9 (.loop s_IndexRune_l0))) (.seq (.region s_IndexRune_r9) (.ret))) (.seq (.region s_IndexRune_r10) (.cond (.tmp 183) (.seq (.region s_IndexRune_r11) (.ret)) (.seq (.region s_IndexRune_r12) (.seq (.region s_IndexRune_r13) (.seq (.region s_IndexRune_r14) (.seq (.region s_IndexRune_r15) (.seq (.block 1 (.loop s_IndexRune_l2)) (.seq (.seq (.region s_IndexRune_r30) (.ret)) (.seq (.skip) (.seq (.cond (.const (.bool true)) (.seq (.region s_IndexRune_r31) (.seq (.region s_IndexRune_r32) (.cond (.tmp 108) (.seq (.region s_IndexRune_r33) (.ret)) (.skip)))) (.seq (.region s_IndexRune_r34) (.seq (.region s_IndexRune_r35) (.seq (.skip) (.block 5 (.loop s_IndexRune_l4)))))) (.seq (.region s_IndexRune_r44) (.ret)))))))))))))))))
theorem s_IndexRune_calls {args : List Value} {h : Heap} {R : Value → Heap → Prop} (hl : args.length = 2) (hv : Cd.vc Tryd.prog s_IndexRune (retQ Tryd.prog [(4, none)] R) (initEnv args [0, 1, 4, 5, 6, 7, 8, 9, 10, 11, 12, 13, 14, 15, 16, 26, 33, 43, 51, 64, 98, 108, 124, 139, 143, 156, 160, 171, 175, 176, 177, 181, 183]) h) : HCalls Tryd.prog 47 args.toArray h R :=
  hcalls_of_vc (by kernel_rfl) Tryd.func47 (cd := s_IndexRune) (L := [0, 1, 4, 5, 6, 7, 8, 9, 10, 11, 12, 13, 14, 15, 16, 26, 33, 43, 51, 64, 98, 108, 124, 139, 143, 156, 160, 171, 175, 176, 177, 181, 183]) (by kernel_rfl) (by kernel_rfl) ⟨by rw [hl, Tryd.ntmps47]; decide, by rw [Tryd.ntmps47]; decide⟩ hv
def s_IndexRune_gos := And.intro (@goVc Tryd.prog _ _ s_IndexRune.eq_1) (And.intro (@goOps Tryd.prog _ _ s_IndexRune_r0.eq_1) (And.intro (@goOps Tryd.prog _ _ s_IndexRune_r1.eq_1) (And.intro (@goOps Tryd.prog _ _ s_IndexRune_r2.eq_1) (And.intro (@goOps Tryd.prog _ _ s_IndexRune_r3.eq_1) (And.intro (@goOps Tryd.prog _ _ s_IndexRune_r4.eq_1) (And.intro (@goOps Tryd.prog _ _ s_IndexRune_r5.eq_1) (And.intro (@goOps Tryd.prog _ _ s_IndexRune_r6.eq_1) (And.intro (@goOps Tryd.prog _ _ s_IndexRune_r7.eq_1) (And.intro (@goOps Tryd.prog _ _ s_IndexRune_r8.eq_1) (And.intro (@goOps Tryd.prog _ _ s_IndexRune_r9.eq_1) (And.intro (@goOps Tryd.prog _ _ s_IndexRune_r10.eq_1) (And.intro (@goOps Tryd.prog _ _ s_IndexRune_r11.eq_1) (And.intro (@goOps Tryd.prog _ _ s_IndexRune_r12.eq_1) (And.intro (@goOps Tryd.prog _ _ s_IndexRune_r13.eq_1) (And.intro (@goOps Tryd.prog _ _ s_IndexRune_r14.eq_1) (And.intro (@goOps Tryd.prog _ _ s_IndexRune_r15.eq_1) (And.intro (@goOps Tryd.prog _ _ s_IndexRune_r16.eq_1) (And.intro (@goDraw Tryd.prog _ _ s_IndexRune_r17.eq_1) (And.intro (@goDraw Tryd.prog _ _ s_IndexRune_r18.eq_1) (And.intro (@goOps Tryd.prog _ _ s_IndexRune_r19.eq_1) (And.intro (@goOps Tryd.prog _ _ s_IndexRune_r20.eq_1) (And.intro (@goOps Tryd.prog _ _ s_IndexRune_r21.eq_1) (And.intro (@goOps Tryd.prog _ _ s_IndexRune_r22.eq_1) (And.intro (@goOps Tryd.prog _ _ s_IndexRune_r23.eq_1) (And.intro (@goDraw Tryd.prog _ _ s_IndexRune_r24.eq_1) (And.intro (@goOps Tryd.prog _ _ s_IndexRune_r25.eq_1) (And.intro (@goOps Tryd.prog _ _ s_IndexRune_r26.eq_1) (And.intro (@goOps Tryd.prog _ _ s_IndexRune_r27.eq_1) (And.intro (@goOps Tryd.prog _ _ s_IndexRune_r28.eq_1) (And.intro (@goOps Tryd.prog _ _ s_IndexRune_r29.eq_1) (And.intro (@goOps Tryd.prog _ _ s_IndexRune_r30.eq_1) (And.intro (@goOps Tryd.prog _ _ s_IndexRune_r31.eq_1) (And.intro (@goOps Tryd.prog _ _ s_IndexRune_r32.eq_1) (And.intro (@goOps Tryd.prog _ _ s_IndexRune_r33.eq_1) (And.intro (@goOps Tryd.prog _ _ s_IndexRune_r34.eq_1) (And.intro (@goOps Tryd.prog _ _ s_IndexRune_r35.eq_1) (And.intro (@goOps Tryd.prog _ _ s_IndexRune_r36.eq_1) (And.intro (@goOps Tryd.prog _ _ s_IndexRune_r37.eq_1) (And.intro (@goOps Tryd.prog _ _ s_IndexRune_r38.eq_1) (And.intro (@goOps Tryd.prog _ _ s_IndexRune_r39.eq_1) (And.intro (@goDraw Tryd.prog _ _ s_IndexRune_r40.eq_1) (And.intro (@goOps Tryd.prog _ _ s_IndexRune_r41.eq_1) (And.intro (@goOps Tryd.prog _ _ s_IndexRune_r42.eq_1) (And.intro (@goOps Tryd.prog _ _ s_IndexRune_r43.eq_1) (And.intro (@goOps Tryd.prog _ _ s_IndexRune_r44.eq_1) (And.intro (@goVc Tryd.prog _ _ s_IndexRune_l0.eq_1) (And.intro (@goVc Tryd.prog _ _ s_IndexRune_l1.eq_1) (And.intro (@goVc Tryd.prog _ _ s_IndexRune_l2.eq_1) (And.intro (@goVc Tryd.prog _ _ s_IndexRune_l3.eq_1) (@goVc Tryd.prog _ _ s_IndexRune_l4.eq_1))))))))))))))))))))))))))))))))))))))))))))))))))

/-! strings.shouldUseASCIISet: function 48: slots [0, 2] -/
def s_should_r0 : List Sop := [
  sw 2 (.assign (.const (.bool false))) 4]
def s_should_r1 : List Sop := [
  sq 3 (.move (.tmp 0)) 3,
  sq 4 (.binOp .gtr 3 (.tmp 3) (.const (.int .i64 8)) 3) 4,
  sw 2 (.assign (.tmp 4)) 4]
def s_should : Cd := .seq (.region s_should_r0) (.seq (.region s_should_r1) (.ret))
theorem s_should_calls {args : List Value} {h : Heap} {R : Value → Heap → Prop} (hl : args.length = 1) (hv : Cd.vc Tryd.prog s_should (retQ Tryd.prog [(2, none)] R) (initEnv args [0, 2]) h) : HCalls Tryd.prog 48 args.toArray h R :=
  hcalls_of_vc (by kernel_rfl) Tryd.func48 (cd := s_should) (L := [0, 2]) (by kernel_rfl) (by kernel_rfl) ⟨by rw [hl, Tryd.ntmps48]; decide, by rw [Tryd.ntmps48]; decide⟩ hv
def s_should_gos := And.intro (@goVc Tryd.prog _ _ s_should.eq_1) (And.intro (@goOps Tryd.prog _ _ s_should_r0.eq_1) (@goOps Tryd.prog _ _ s_should_r1.eq_1))

/-! strings.makeASCIISet: function 49: slots [0, 2, 3, 4, 5, 9, 16] -/
def s_makeSet_r0 : List Sop := [
  sa 2 (.alloc 70) 0,
  sw 3 (.assign (.const (.bool false))) 4]
def s_makeSet_r1 : List Sop := [
  sw 4 (.assign (.const (.int .i64 0))) 3]
def s_makeSet_r2 : List Sop := [
  sq 6 (.move (.tmp 4)) 3,
  sq 7 (.move (.tmp 0)) 9,
  sq 8 (.call { callee := .builtin .len, args := #[.tmp 7], argTypes := #[9] }) 3,
  sw 9 (.binOp .lss 3 (.tmp 6) (.tmp 8) 3) 4]
def s_makeSet_r3 : List Sop := [
  sq 12 (.move (.tmp 0)) 9,
  sq 13 (.move (.tmp 4)) 3,
  sq 14 (.index 9 (.tmp 12) (.tmp 13)) 5,
  sw 5 (.assign (.tmp 14)) 5]
def s_makeSet_r4 : List Sop := [
  sq 15 (.move (.tmp 5)) 5,
  sw 16 (.binOp .geq 5 (.tmp 15) (.const (.int .u8 128)) 5) 4]
def s_makeSet_r5 : List Sop := [
  sq 17 (.load 70 (.tmp 2)) 70,
  ss (.store 70 (.tmp 2) (.tmp 17)),
  sw 3 (.assign (.const (.bool false))) 4]
def s_makeSet_r6 : List Sop := [
  sq 18 (.move (.tmp 5)) 5,
  sq 19 (.indexAddr 70 (.tmp 2) (.tmp 18)) 0,
  ss (.store 4 (.tmp 19) (.const (.bool true)))]
def s_makeSet_r7 : List Sop := [
  sq 10 (.move (.tmp 4)) 3,
  sq 11 (.binOp .add 3 (.tmp 10) (.const (.int .i64 1)) 3) 3,
  sw 4 (.assign (.tmp 11)) 3]
def s_makeSet_r8 : List Sop := [
  sq 20 (.load 70 (.tmp 2)) 70,
  ss (.store 70 (.tmp 2) (.tmp 20)),
  sw 3 (.assign (.const (.bool true))) 4]
def s_makeSet_l0 : Cd := .seq (.seq (.region s_makeSet_r2) (.cond (.tmp 9) (.skip) (.exit 0))) (.seq (.block 1 (.seq (.region s_makeSet_r3) (.seq (.seq (.region s_makeSet_r4) (.cond (.tmp 16) (.seq (.region s_makeSet_r5) (.ret)) (.skip))) (.region s_makeSet_r6)))) (.region s_makeSet_r7))
def s_makeSet : Cd := .seq (.region s_makeSet_r0) (.seq (.seq (.region s_makeSet_r1) (.block 0 (.loop s_makeSet_l0))) (.seq (.region s_makeSet_r8) (.ret)))
theorem s_makeSet_calls {args : List Value} {h : Heap} {R : Value → Heap → Prop} (hl : args.length = 1) (hv : Cd.vc Tryd.prog s_makeSet (retQ Tryd.prog [(2, some 70), (3, none)] R) (initEnv args [0, 2, 3, 4, 5, 9, 16]) h) : HCalls Tryd.prog 49 args.toArray h R :=
  hcalls_of_vc (by kernel_rfl) Tryd.func49 (cd := s_makeSet) (L := [0, 2, 3, 4, 5, 9, 16]) (by kernel_rfl) (by kernel_rfl) ⟨by rw [hl, Tryd.ntmps49]; decide, by rw [Tryd.ntmps49]; decide⟩ hv
def s_makeSet_gos := And.intro (@goVc Tryd.prog _ _ s_makeSet.eq_1) (And.intro (@goOps Tryd.prog _ _ s_makeSet_r0.eq_1) (And.intro (@goOps Tryd.prog _ _ s_makeSet_r1.eq_1) (And.intro (@goOps Tryd.prog _ _ s_makeSet_r2.eq_1) (And.intro (@goOps Tryd.prog _ _ s_makeSet_r3.eq_1) (And.intro (@goOps Tryd.prog _ _ s_makeSet_r4.eq_1) (And.intro (@goOps Tryd.prog _ _ s_makeSet_r5.eq_1) (And.intro (@goOps Tryd.prog _ _ s_makeSet_r6.eq_1) (And.intro (@goOps Tryd.prog _ _ s_makeSet_r7.eq_1) (And.intro (@goOps Tryd.prog _ _ s_makeSet_r8.eq_1) (@goVc Tryd.prog _ _ s_makeSet_l0.eq_1))))))))))

/-! (*strings.asciiSet).contains: function 50: slots [0, 1, 4] -/
def s_contains_r0 : List Sop := [
  sw 4 (.assign (.const (.bool false))) 4]
def s_contains_r1 : List Sop := [
  sq 5 (.move (.tmp 0)) 77,
  sq 6 (.move (.tmp 1)) 5,
  sq 7 (.nilCheck (.tmp 5)) 0,
  sq 8 (.indexAddr 70 (.tmp 7) (.tmp 6)) 0,
  sq 9 (.load 4 (.tmp 8)) 4,
  sw 4 (.assign (.tmp 9)) 4]
def s_contains : Cd := .seq (.region s_contains_r0) (.seq (.region s_contains_r1) (.ret))
theorem s_contains_calls {args : List Value} {h : Heap} {R : Value → Heap → Prop} (hl : args.length = 2) (hv : Cd.vc Tryd.prog s_contains (retQ Tryd.prog [(4, none)] R) (initEnv args [0, 1, 4]) h) : HCalls Tryd.prog 50 args.toArray h R :=
  hcalls_of_vc (by kernel_rfl) Tryd.func50 (cd := s_contains) (L := [0, 1, 4]) (by kernel_rfl) (by kernel_rfl) ⟨by rw [hl, Tryd.ntmps50]; decide, by rw [Tryd.ntmps50]; decide⟩ hv
def s_contains_gos := And.intro (@goVc Tryd.prog _ _ s_contains.eq_1) (And.intro (@goOps Tryd.prog _ _ s_contains_r0.eq_1) (@goOps Tryd.prog _ _ s_contains_r1.eq_1))

/-! strings.genSplit: function 58: slots [0, 1, 2, 3, 8, 9, 10, 11, 13, 15, 20, 36, 41] -/
def s_genSplit_r0 : List Sop := [
  sw 8 (.assign (.const (.slice none 0 0))) 57]
def s_genSplit_r1 : List Sop := [
  sq 12 (.move (.tmp 3)) 3,
  sw 13 (.binOp .eql 3 (.tmp 12) (.const (.int .i64 0)) 3) 4]
def s_genSplit_r2 : List Sop := [
  sw 8 (.assign (.const (.slice none 0 0))) 57]
def s_genSplit_r3 : List Sop := [
  sq 14 (.move (.tmp 1)) 9,
  sw 15 (.binOp .eql 9 (.tmp 14) (.const (.string { data := #[] })) 9) 4]
def s_genSplit_r4 : List Sop := [
  sq 16 (.move (.tmp 0)) 9,
  sq 17 (.move (.tmp 3)) 3,
  sc 18 (.call { callee := .value (.func 59), args := #[.tmp 16, .tmp 17], argTypes := #[9, 3] }) 57,
  sw 8 (.assign (.tmp 18)) 57]
def s_genSplit_r5 : List Sop := [
  sq 19 (.move (.tmp 3)) 3,
  sw 20 (.binOp .lss 3 (.tmp 19) (.const (.int .i64 0)) 3) 4]
def s_genSplit_r6 : List Sop := [
  sq 21 (.move (.tmp 0)) 9,
  sq 22 (.move (.tmp 1)) 9,
  sc 23 (.call { callee := .value (.func 60), args := #[.tmp 21, .tmp 22], argTypes := #[9, 9] }) 3,
  sq 24 (.binOp .add 3 (.tmp 23) (.const (.int .i64 1)) 3) 3,
  sw 3 (.assign (.tmp 24)) 3]
def s_genSplit_r7 : List Sop := [
  sq 25 (.move (.tmp 3)) 3,
  sq 26 (.move (.tmp 0)) 9,
  sq 27 (.call { callee := .builtin .len, args := #[.tmp 26], argTypes := #[9] }) 3,
  sq 28 (.binOp .add 3 (.tmp 27) (.const (.int .i64 1)) 3) 3,
  sq 29 (.call { callee := .builtin .min, args := #[.tmp 25, .tmp 28], argTypes := #[3, 3] }) 3,
  sw 3 (.assign (.tmp 29)) 3]
def s_genSplit_r8 : List Sop := [
  sq 30 (.move (.tmp 3)) 3,
  sc 31 (.makeSlice 57 (.tmp 30) (.tmp 30)) 57,
  sw 9 (.assign (.tmp 31)) 57]
def s_genSplit_r9 : List Sop := [
  sq 32 (.move (.tmp 3)) 3,
  sq 33 (.binOp .sub 3 (.tmp 32) (.const (.int .i64 1)) 3) 3,
  sw 3 (.assign (.tmp 33)) 3]
def s_genSplit_r10 : List Sop := [
  sw 10 (.assign (.const (.int .i64 0))) 3]
def s_genSplit_r11 : List Sop := [
  sq 34 (.move (.tmp 10)) 3,
  sq 35 (.move (.tmp 3)) 3,
  sw 36 (.binOp .lss 3 (.tmp 34) (.tmp 35) 3) 4]
def s_genSplit_r12 : List Sop := [
  sq 37 (.move (.tmp 0)) 9,
  sq 38 (.move (.tmp 1)) 9,
  sc 39 (.call { callee := .value (.func 61), args := #[.tmp 37, .tmp 38], argTypes := #[9, 9] }) 3,
  sw 11 (.assign (.tmp 39)) 3]
def s_genSplit_r13 : List Sop := [
  sq 40 (.move (.tmp 11)) 3,
  sw 41 (.binOp .lss 3 (.tmp 40) (.const (.int .i64 0)) 3) 4]
def s_genSplit_r14 : List Sop := [
  sq 42 (.move (.tmp 9)) 57,
  sq 43 (.move (.tmp 10)) 3,
  sq 44 (.move (.tmp 0)) 9,
  sq 45 (.move (.tmp 11)) 3,
  sq 46 (.move (.tmp 2)) 3,
  sq 47 (.binOp .add 3 (.tmp 45) (.tmp 46) 3) 3,
  sq 48 (.slice 9 (.tmp 44) none (some (.tmp 47)) none) 9,
  sq 49 (.indexAddr 57 (.tmp 42) (.tmp 43)) 0,
  ss (.store 9 (.tmp 49) (.tmp 48))]
def s_genSplit_r15 : List Sop := [
  sq 50 (.move (.tmp 0)) 9,
  sq 51 (.move (.tmp 11)) 3,
  sq 52 (.move (.tmp 1)) 9,
  sq 53 (.call { callee := .builtin .len, args := #[.tmp 52], argTypes := #[9] }) 3,
  sq 54 (.binOp .add 3 (.tmp 51) (.tmp 53) 3) 3,
  sq 55 (.slice 9 (.tmp 50) (some (.tmp 54)) none none) 9,
  sw 0 (.assign (.tmp 55)) 9]
def s_genSplit_r16 : List Sop := [
  sq 56 (.move (.tmp 10)) 3,
  sq 57 (.binOp .add 3 (.tmp 56) (.const (.int .i64 1)) 3) 3,
  sw 10 (.assign (.tmp 57)) 3]
def s_genSplit_r17 : List Sop := [
  sq 58 (.move (.tmp 9)) 57,
  sq 59 (.move (.tmp 10)) 3,
  sq 60 (.move (.tmp 0)) 9,
  sq 61 (.indexAddr 57 (.tmp 58) (.tmp 59)) 0,
  ss (.store 9 (.tmp 61) (.tmp 60))]
def s_genSplit_r18 : List Sop := [
  sq 62 (.move (.tmp 9)) 57,
  sq 63 (.move (.tmp 10)) 3,
  sq 64 (.binOp .add 3 (.tmp 63) (.const (.int .i64 1)) 3) 3,
  sq 65 (.slice 57 (.tmp 62) none (some (.tmp 64)) none) 57,
  sw 8 (.assign (.tmp 65)) 57]
def s_genSplit_l0 : Cd := .seq (.seq (.region s_genSplit_r11) (.cond (.tmp 36) (.skip) (.exit 0))) (.block 1 (.seq (.region s_genSplit_r12) (.seq (.seq (.region s_genSplit_r13) (.cond (.tmp 41) (.exit 0) (.skip))) (.seq (.region s_genSplit_r14) (.seq (.region s_genSplit_r15) (.region s_genSplit_r16))))))
def s_genSplit : Cd := .seq (.region s_genSplit_r0) (.seq (.seq (.region s_genSplit_r1) (.cond (.tmp 13) (.seq (.region s_genSplit_r2) (.ret)) (.skip))) (.seq (.seq (.region s_genSplit_r3) (.cond (.tmp 15) (.seq (.region s_genSplit_r4) (.ret)) (.skip))) (.seq (.seq (.region s_genSplit_r5) (.cond (.tmp 20) (.region s_genSplit_r6) (.skip))) (.seq (.region s_genSplit_r7) (.seq (.region s_genSplit_r8) (.seq (.region s_genSplit_r9) (.seq (.region s_genSplit_r10) (.seq (.block 0 (.loop s_genSplit_l0)) (.seq (.region s_genSplit_r17) (.seq (.region s_genSplit_r18) (.ret)))))))))))
theorem s_genSplit_calls {args : List Value} {h : Heap} {R : Value → Heap → Prop} (hl : args.length = 4) (hv : Cd.vc Tryd.prog s_genSplit (retQ Tryd.prog [(8, none)] R) (initEnv args [0, 1, 2, 3, 8, 9, 10, 11, 13, 15, 20, 36, 41]) h) : HCalls Tryd.prog 58 args.toArray h R :=
  hcalls_of_vc (by kernel_rfl) Tryd.func58 (cd := s_genSplit) (L := [0, 1, 2, 3, 8, 9, 10, 11, 13, 15, 20, 36, 41]) (by kernel_rfl) (by kernel_rfl) ⟨by rw [hl, Tryd.ntmps58]; decide, by rw [Tryd.ntmps58]; decide⟩ hv
def s_genSplit_gos := And.intro (@goVc Tryd.prog _ _ s_genSplit.eq_1) (And.intro (@goOps Tryd.prog _ _ s_genSplit_r0.eq_1) (And.intro (@goOps Tryd.prog _ _ s_genSplit_r1.eq_1) (And.intro (@goOps Tryd.prog _ _ s_genSplit_r2.eq_1) (And.intro (@goOps Tryd.prog _ _ s_genSplit_r3.eq_1) (And.intro (@goOps Tryd.prog _ _ s_genSplit_r4.eq_1) (And.intro (@goOps Tryd.prog _ _ s_genSplit_r5.eq_1) (And.intro (@goOps Tryd.prog _ _ s_genSplit_r6.eq_1) (And.intro (@goOps Tryd.prog _ _ s_genSplit_r7.eq_1) (And.intro (@goOps Tryd.prog _ _ s_genSplit_r8.eq_1) (And.intro (@goOps Tryd.prog _ _ s_genSplit_r9.eq_1) (And.intro (@goOps Tryd.prog _ _ s_genSplit_r10.eq_1) (And.intro (@goOps Tryd.prog _ _ s_genSplit_r11.eq_1) (And.intro (@goOps Tryd.prog _ _ s_genSplit_r12.eq_1) (And.intro (@goOps Tryd.prog _ _ s_genSplit_r13.eq_1) (And.intro (@goOps Tryd.prog _ _ s_genSplit_r14.eq_1) (And.intro (@goOps Tryd.prog _ _ s_genSplit_r15.eq_1) (And.intro (@goOps Tryd.prog _ _ s_genSplit_r16.eq_1) (And.intro (@goOps Tryd.prog _ _ s_genSplit_r17.eq_1) (And.intro (@goOps Tryd.prog _ _ s_genSplit_r18.eq_1) (@goVc Tryd.prog _ _ s_genSplit_l0.eq_1))))))))))))))))))))

/-! internal/stringslite.IndexByte: function 51: slots [0, 1, 4] -/
def sl_IndexByte_r0 : List Sop := [
  sw 4 (.assign (.const (.int .i64 0))) 3]
def sl_IndexByte_r1 : List Sop := [
  sq 5 (.move (.tmp 0)) 9,
  sq 6 (.move (.tmp 1)) 5,
  sc 7 (.call { callee := .value (.func 57), args := #[.tmp 5, .tmp 6], argTypes := #[9, 5] }) 3,
  sw 4 (.assign (.tmp 7)) 3]
def sl_IndexByte : Cd := .seq (.region sl_IndexByte_r0) (.seq (.region sl_IndexByte_r1) (.ret))
theorem sl_IndexByte_calls {args : List Value} {h : Heap} {R : Value → Heap → Prop} (hl : args.length = 2) (hv : Cd.vc Tryd.prog sl_IndexByte (retQ Tryd.prog [(4, none)] R) (initEnv args [0, 1, 4]) h) : HCalls Tryd.prog 51 args.toArray h R :=
  hcalls_of_vc (by kernel_rfl) Tryd.func51 (cd := sl_IndexByte) (L := [0, 1, 4]) (by kernel_rfl) (by kernel_rfl) ⟨by rw [hl, Tryd.ntmps51]; decide, by rw [Tryd.ntmps51]; decide⟩ hv
def sl_IndexByte_gos := And.intro (@goVc Tryd.prog _ _ sl_IndexByte.eq_1) (And.intro (@goOps Tryd.prog _ _ sl_IndexByte_r0.eq_1) (@goOps Tryd.prog _ _ sl_IndexByte_r1.eq_1))

/-! unicode/utf8.ValidRune: function 54: slots [0, 2, 3, 10] -/
def u_ValidRune_r0 : List Sop := [
  sw 2 (.assign (.const (.bool false))) 4]
def u_ValidRune_r1 : List Sop := [
  sq 4 (.move (.tmp 0)) 21,
  sq 5 (.binOp .leq 21 (.const (.int .i32 0)) (.tmp 4) 21) 4,
  sq 6 (.move (.tmp 5)) 4,
  ⟨some (7, false), .move (.tmp 0), 21, some (6, true), true⟩,
  ⟨some (8, false), .binOp .lss 21 (.tmp 7) (.const (.int .i32 55296)) 21, 4, some (6, true), true⟩,
  sq 9 (.pick (.tmp 6) (.tmp 8) (.const (.bool false))) 4,
  sw 3 (.assign (.tmp 9)) 4]
def u_ValidRune_r2 : List Sop := [
  sw 2 (.assign (.const (.bool true))) 4]
def u_ValidRune_r3 : List Sop := [
  sq 11 (.move (.tmp 0)) 21,
  sq 12 (.binOp .lss 21 (.const (.int .i32 57343)) (.tmp 11) 21) 4,
  sq 13 (.move (.tmp 12)) 4,
  ⟨some (14, false), .move (.tmp 0), 21, some (13, true), true⟩,
  ⟨some (15, false), .binOp .leq 21 (.tmp 14) (.const (.int .i32 1114111)) 21, 4, some (13, true), true⟩,
  sq 16 (.pick (.tmp 13) (.tmp 15) (.const (.bool false))) 4,
  sw 10 (.assign (.tmp 16)) 4]
def u_ValidRune_r4 : List Sop := [
  sw 2 (.assign (.const (.bool true))) 4]
def u_ValidRune_r5 : List Sop := [
  sw 2 (.assign (.const (.bool false))) 4]
def u_ValidRune : Cd := .seq (.region u_ValidRune_r0) (.seq (.block 0 (.seq (.region u_ValidRune_r1) (.cond (.tmp 3) (.seq (.region u_ValidRune_r2) (.ret)) (.seq (.region u_ValidRune_r3) (.cond (.tmp 10) (.seq (.region u_ValidRune_r4) (.ret)) (.skip)))))) (.seq (.region u_ValidRune_r5) (.ret)))
theorem u_ValidRune_calls {args : List Value} {h : Heap} {R : Value → Heap → Prop} (hl : args.length = 1) (hv : Cd.vc Tryd.prog u_ValidRune (retQ Tryd.prog [(2, none)] R) (initEnv args [0, 2, 3, 10]) h) : HCalls Tryd.prog 54 args.toArray h R :=
  hcalls_of_vc (by kernel_rfl) Tryd.func54 (cd := u_ValidRune) (L := [0, 2, 3, 10]) (by kernel_rfl) (by kernel_rfl) ⟨by rw [hl, Tryd.ntmps54]; decide, by rw [Tryd.ntmps54]; decide⟩ hv
def u_ValidRune_gos := And.intro (@goVc Tryd.prog _ _ u_ValidRune.eq_1) (And.intro (@goOps Tryd.prog _ _ u_ValidRune_r0.eq_1) (And.intro (@goOps Tryd.prog _ _ u_ValidRune_r1.eq_1) (And.intro (@goOps Tryd.prog _ _ u_ValidRune_r2.eq_1) (And.intro (@goOps Tryd.prog _ _ u_ValidRune_r3.eq_1) (And.intro (@goOps Tryd.prog _ _ u_ValidRune_r4.eq_1) (@goOps Tryd.prog _ _ u_ValidRune_r5.eq_1))))))

/-! strings.Count: function 60: slots [0, 1, 4, 5, 6, 9, 15, 24] -/
def s_Count_r0 : List Sop := [
  sw 4 (.assign (.const (.int .i64 0))) 3]
def s_Count_r1 : List Sop := [
  sq 7 (.move (.tmp 1)) 9,
  sq 8 (.call { callee := .builtin .len, args := #[.tmp 7], argTypes := #[9] }) 3,
  sw 9 (.binOp .eql 3 (.tmp 8) (.const (.int .i64 0)) 3) 4]
def s_Count_r2 : List Sop := [
  sq 10 (.move (.tmp 0)) 9,
  sc 11 (.call { callee := .value (.func 62), args := #[.tmp 10], argTypes := #[9] }) 3,
  sq 12 (.binOp .add 3 (.tmp 11) (.const (.int .i64 1)) 3) 3,
  sw 4 (.assign (.tmp 12)) 3]
def s_Count_r3 : List Sop := [
  sq 13 (.move (.tmp 1)) 9,
  sq 14 (.call { callee := .builtin .len, args := #[.tmp 13], argTypes := #[9] }) 3,
  sw 15 (.binOp .eql 3 (.tmp 14) (.const (.int .i64 1)) 3) 4]
def s_Count_r4 : List Sop := [
  sq 16 (.move (.tmp 0)) 9,
  sq 17 (.move (.tmp 1)) 9,
  sq 18 (.index 9 (.tmp 17) (.const (.int .i64 0))) 5,
  sc 19 (.call { callee := .value (.func 64), args := #[.tmp 16, .tmp 18], argTypes := #[9, 5] }) 3,
  sw 4 (.assign (.tmp 19)) 3]
def s_Count_r5 : List Sop := [
  sw 5 (.assign (.const (.int .i64 0))) 3]
def s_Count_r6 : List Sop := [
  sq 20 (.move (.tmp 0)) 9,
  sq 21 (.move (.tmp 1)) 9,
  sc 22 (.call { callee := .value (.func 61), args := #[.tmp 20, .tmp 21], argTypes := #[9, 9] }) 3,
  sw 6 (.assign (.tmp 22)) 3]
def s_Count_r7 : List Sop := [
  sq 23 (.move (.tmp 6)) 3,
  sw 24 (.binOp .eql 3 (.tmp 23) (.const (.int .i64 (-1))) 3) 4]
def s_Count_r8 : List Sop := [
  sq 25 (.move (.tmp 5)) 3,
  sw 4 (.assign (.tmp 25)) 3]
def s_Count_r9 : List Sop := [
  sq 26 (.move (.tmp 5)) 3,
  sq 27 (.binOp .add 3 (.tmp 26) (.const (.int .i64 1)) 3) 3,
  sw 5 (.assign (.tmp 27)) 3]
def s_Count_r10 : List Sop := [
  sq 28 (.move (.tmp 0)) 9,
  sq 29 (.move (.tmp 6)) 3,
  sq 30 (.move (.tmp 1)) 9,
  sq 31 (.call { callee := .builtin .len, args := #[.tmp 30], argTypes := #[9] }) 3,
  sq 32 (.binOp .add 3 (.tmp 29) (.tmp 31) 3) 3,
  sq 33 (.slice 9 (.tmp 28) (some (.tmp 32)) none none) 9,
  sw 0 (.assign (.tmp 33)) 9]
def s_Count_l0 : Cd := .block 1 (.seq (.region s_Count_r6) (.seq (.seq (.region s_Count_r7) (.cond (.tmp 24) (.seq (.region s_Count_r8) (.ret)) (.skip))) (.seq (.region s_Count_r9) (.region s_Count_r10))))
def s_Count : Cd := .seq (.region s_Count_r0) (.seq (.seq (.region s_Count_r1) (.cond (.tmp 9) (.seq (.region s_Count_r2) (.ret)) (.skip))) (.seq (.seq (.region s_Count_r3) (.cond (.tmp 15) (.seq (.region s_Count_r4) (.ret)) (.skip))) (.seq (.region s_Count_r5) (.block 0 (.loop s_Count_l0)))))
theorem s_Count_calls {args : List Value} {h : Heap} {R : Value → Heap → Prop} (hl : args.length = 2) (hv : Cd.vc Tryd.prog s_Count (retQ Tryd.prog [(4, none)] R) (initEnv args [0, 1, 4, 5, 6, 9, 15, 24]) h) : HCalls Tryd.prog 60 args.toArray h R :=
  hcalls_of_vc (by kernel_rfl) Tryd.func60 (cd := s_Count) (L := [0, 1, 4, 5, 6, 9, 15, 24]) (by kernel_rfl) (by kernel_rfl) ⟨by rw [hl, Tryd.ntmps60]; decide, by rw [Tryd.ntmps60]; decide⟩ hv
def s_Count_gos := And.intro (@goVc Tryd.prog _ _ s_Count.eq_1) (And.intro (@goOps Tryd.prog _ _ s_Count_r0.eq_1) (And.intro (@goOps Tryd.prog _ _ s_Count_r1.eq_1) (And.intro (@goOps Tryd.prog _ _ s_Count_r2.eq_1) (And.intro (@goOps Tryd.prog _ _ s_Count_r3.eq_1) (And.intro (@goOps Tryd.prog _ _ s_Count_r4.eq_1) (And.intro (@goOps Tryd.prog _ _ s_Count_r5.eq_1) (And.intro (@goOps Tryd.prog _ _ s_Count_r6.eq_1) (And.intro (@goOps Tryd.prog _ _ s_Count_r7.eq_1) (And.intro (@goOps Tryd.prog _ _ s_Count_r8.eq_1) (And.intro (@goOps Tryd.prog _ _ s_Count_r9.eq_1) (And.intro (@goOps Tryd.prog _ _ s_Count_r10.eq_1) (@goVc Tryd.prog _ _ s_Count_l0.eq_1))))))))))))

/-! strings.Index: function 61: slots [0, 1, 4] -/
def s_Index_r0 : List Sop := [
  sw 4 (.assign (.const (.int .i64 0))) 3]
def s_Index_r1 : List Sop := [
  sq 5 (.move (.tmp 0)) 9,
  sq 6 (.move (.tmp 1)) 9,
  sc 7 (.call { callee := .value (.func 65), args := #[.tmp 5, .tmp 6], argTypes := #[9, 9] }) 3,
  sw 4 (.assign (.tmp 7)) 3]
def s_Index : Cd := .seq (.region s_Index_r0) (.seq (.region s_Index_r1) (.ret))
theorem s_Index_calls {args : List Value} {h : Heap} {R : Value → Heap → Prop} (hl : args.length = 2) (hv : Cd.vc Tryd.prog s_Index (retQ Tryd.prog [(4, none)] R) (initEnv args [0, 1, 4]) h) : HCalls Tryd.prog 61 args.toArray h R :=
  hcalls_of_vc (by kernel_rfl) Tryd.func61 (cd := s_Index) (L := [0, 1, 4]) (by kernel_rfl) (by kernel_rfl) ⟨by rw [hl, Tryd.ntmps61]; decide, by rw [Tryd.ntmps61]; decide⟩ hv
def s_Index_gos := And.intro (@goVc Tryd.prog _ _ s_Index.eq_1) (And.intro (@goOps Tryd.prog _ _ s_Index_r0.eq_1) (@goOps Tryd.prog _ _ s_Index_r1.eq_1))

/-! internal/stringslite.Index: function 65: slots [0, 1, 4, 5, 6, 7, 8, 9, 10, 11, 12, 13, 16, 24, 31, 36, 59, 64, 73, 93, 107, 114, 132, 139] -/
def sl_Index_r0 : List Sop := [
  sw 4 (.assign (.const (.int .i64 0))) 3]
def sl_Index_r1 : List Sop := [
  sq 14 (.move (.tmp 1)) 9,
  sq 15 (.call { callee := .builtin .len, args := #[.tmp 14], argTypes := #[9] }) 3,
  sw 5 (.assign (.tmp 15)) 3]
def sl_Index_r2 : List Sop := [
  sq 17 (.move (.tmp 5)) 3,
  sq 18 (.binOp .eql 3 (.tmp 17) (.const (.int .i64 0)) 3) 4,
  sq 19 (.move (.tmp 18)) 4,
  ⟨some (20, false), .move (.tmp 1), 9, some (19, false), true⟩,
  ⟨some (21, false), .move (.tmp 0), 9, some (19, false), true⟩,
  ⟨some (22, false), .binOp .eql 9 (.tmp 20) (.tmp 21) 9, 4, some (19, false), true⟩,
  sq 23 (.pick (.tmp 19) (.const (.bool true)) (.tmp 22)) 4,
  sw 16 (.assign (.tmp 23)) 4]
def sl_Index_r3 : List Sop := [
  sw 4 (.assign (.const (.int .i64 0))) 3]
def sl_Index_r4 : List Sop := [
  sq 25 (.move (.tmp 5)) 3,
  sq 26 (.binOp .eql 3 (.tmp 25) (.const (.int .i64 1)) 3) 4,
  sw 24 (.assign (.tmp 26)) 4]
def sl_Index_r5 : List Sop := [
  sq 27 (.move (.tmp 0)) 9,
  sq 28 (.move (.tmp 1)) 9,
  sq 29 (.index 9 (.tmp 28) (.const (.int .i64 0))) 5,
  sc 30 (.call { callee := .value (.func 51), args := #[.tmp 27, .tmp 29], argTypes := #[9, 5] }) 3,
  sw 4 (.assign (.tmp 30)) 3]
def sl_Index_r6 : List Sop := [
  sq 32 (.move (.tmp 5)) 3,
  sq 33 (.move (.tmp 0)) 9,
  sq 34 (.call { callee := .builtin .len, args := #[.tmp 33], argTypes := #[9] }) 3,
  sq 35 (.binOp .geq 3 (.tmp 32) (.tmp 34) 3) 4,
  sw 31 (.assign (.tmp 35)) 4]
def sl_Index_r7 : List Sop := [
  sw 4 (.assign (.const (.int .i64 (-1)))) 3]
def sl_Index_r8 : List Sop := [
  sq 37 (.move (.tmp 5)) 3,
  sq 38 (.load 3 (.global 0)) 3,
  sq 39 (.binOp .leq 3 (.tmp 37) (.tmp 38) 3) 4,
  sq 40 (.move (.tmp 39)) 4,
  ⟨some (41, false), .move (.tmp 0), 9, some (40, true), true⟩,
  ⟨some (42, false), .call { callee := .builtin .len, args := #[.tmp 41], argTypes := #[9] }, 3, some (40, true), true⟩,
  ⟨some (43, false), .binOp .leq 3 (.tmp 42) (.const (.int .i64 64)) 3, 4, some (40, true), true⟩,
  sq 44 (.pick (.tmp 40) (.tmp 43) (.const (.bool false))) 4,
  sw 36 (.assign (.tmp 44)) 4]
def sl_Index_r9 : List Sop := [
  sq 45 (.move (.tmp 0)) 9,
  sq 46 (.move (.tmp 1)) 9,
  sc 47 (.call { callee := .value (.func 56), args := #[.tmp 45, .tmp 46], argTypes := #[9, 9] }) 3,
  sw 4 (.assign (.tmp 47)) 3]
def sl_Index_r10 : List Sop := [
  sq 48 (.move (.tmp 1)) 9,
  sq 49 (.index 9 (.tmp 48) (.const (.int .i64 0))) 5,
  sw 6 (.assign (.tmp 49)) 5]
def sl_Index_r11 : List Sop := [
  sq 50 (.move (.tmp 1)) 9,
  sq 51 (.index 9 (.tmp 50) (.const (.int .i64 1))) 5,
  sw 7 (.assign (.tmp 51)) 5]
def sl_Index_r12 : List Sop := [
  sw 8 (.assign (.const (.int .i64 0))) 3]
def sl_Index_r13 : List Sop := [
  sq 52 (.move (.tmp 0)) 9,
  sq 53 (.call { callee := .builtin .len, args := #[.tmp 52], argTypes := #[9] }) 3,
  sq 54 (.move (.tmp 5)) 3,
  sq 55 (.binOp .sub 3 (.tmp 53) (.tmp 54) 3) 3,
  sq 56 (.binOp .add 3 (.tmp 55) (.const (.int .i64 1)) 3) 3,
  sw 9 (.assign (.tmp 56)) 3]
def sl_Index_r14 : List Sop := [
  sw 10 (.assign (.const (.int .i64 0))) 3]
def sl_Index_r15 : List Sop := [
  sq 57 (.move (.tmp 8)) 3,
  sq 58 (.move (.tmp 9)) 3,
  sw 59 (.binOp .lss 3 (.tmp 57) (.tmp 58) 3) 4]
def sl_Index_r16 : List Sop := [
  sq 60 (.move (.tmp 0)) 9,
  sq 61 (.move (.tmp 8)) 3,
  sq 62 (.index 9 (.tmp 60) (.tmp 61)) 5,
  sq 63 (.move (.tmp 6)) 5,
  sw 64 (.binOp .neq 5 (.tmp 62) (.tmp 63) 5) 4]
def sl_Index_r17 : List Sop := [
  sq 65 (.move (.tmp 0)) 9,
  sq 66 (.move (.tmp 8)) 3,
  sq 67 (.binOp .add 3 (.tmp 66) (.const (.int .i64 1)) 3) 3,
  sq 68 (.move (.tmp 9)) 3,
  sq 69 (.slice 9 (.tmp 65) (some (.tmp 67)) (some (.tmp 68)) none) 9,
  sq 70 (.move (.tmp 6)) 5,
  sc 71 (.call { callee := .value (.func 51), args := #[.tmp 69, .tmp 70], argTypes := #[9, 5] }) 3,
  sw 11 (.assign (.tmp 71)) 3]
def sl_Index_r18 : List Sop := [
  sq 72 (.move (.tmp 11)) 3,
  sw 73 (.binOp .lss 3 (.tmp 72) (.const (.int .i64 0)) 3) 4]
def sl_Index_r19 : List Sop := [
  sw 4 (.assign (.const (.int .i64 (-1)))) 3]
def sl_Index_r20 : List Sop := [
  sq 74 (.move (.tmp 8)) 3,
  sq 75 (.move (.tmp 11)) 3,
  sq 76 (.binOp .add 3 (.tmp 75) (.const (.int .i64 1)) 3) 3,
  sq 77 (.binOp .add 3 (.tmp 74) (.tmp 76) 3) 3,
  sw 8 (.assign (.tmp 77)) 3]
def sl_Index_r21 : List Sop := [
  sq 78 (.move (.tmp 0)) 9,
  sq 79 (.move (.tmp 8)) 3,
  sq 80 (.binOp .add 3 (.tmp 79) (.const (.int .i64 1)) 3) 3,
  sq 81 (.index 9 (.tmp 78) (.tmp 80)) 5,
  sq 82 (.move (.tmp 7)) 5,
  sq 83 (.binOp .eql 5 (.tmp 81) (.tmp 82) 5) 4,
  sq 84 (.move (.tmp 83)) 4,
  ⟨some (85, false), .move (.tmp 0), 9, some (84, true), true⟩,
  ⟨some (86, false), .move (.tmp 8), 3, some (84, true), true⟩,
  ⟨some (87, false), .move (.tmp 8), 3, some (84, true), true⟩,
  ⟨some (88, false), .move (.tmp 5), 3, some (84, true), true⟩,
  ⟨some (89, false), .binOp .add 3 (.tmp 87) (.tmp 88) 3, 3, some (84, true), true⟩,
  ⟨some (90, false), .slice 9 (.tmp 85) (some (.tmp 86)) (some (.tmp 89)) none, 9, some (84, true), true⟩,
  ⟨some (91, false), .move (.tmp 1), 9, some (84, true), true⟩,
  ⟨some (92, false), .binOp .eql 9 (.tmp 90) (.tmp 91) 9, 4, some (84, true), true⟩,
  sw 93 (.pick (.tmp 84) (.tmp 92) (.const (.bool false))) 4]
def sl_Index_r22 : List Sop := [
  sq 94 (.move (.tmp 8)) 3,
  sw 4 (.assign (.tmp 94)) 3]
def sl_Index_r23 : List Sop := [
  sq 95 (.move (.tmp 8)) 3,
  sq 96 (.binOp .add 3 (.tmp 95) (.const (.int .i64 1)) 3) 3,
  sw 8 (.assign (.tmp 96)) 3]
def sl_Index_r24 : List Sop := [
  sq 97 (.move (.tmp 10)) 3,
  sq 98 (.binOp .add 3 (.tmp 97) (.const (.int .i64 1)) 3) 3,
  sw 10 (.assign (.tmp 98)) 3]
def sl_Index_r25 : List Sop := [
  sq 99 (.move (.tmp 5)) 3,
  sq 100 (.load 3 (.global 0)) 3,
  sq 101 (.binOp .leq 3 (.tmp 99) (.tmp 100) 3) 4,
  sq 102 (.move (.tmp 101)) 4,
  ⟨some (103, false), .move (.tmp 10), 3, some (102, true), true⟩,
  ⟨some (104, false), .move (.tmp 8), 3, some (102, true), true⟩,
  ⟨some (105, false), .call { callee := .value (.func 55), args := #[.tmp 104], argTypes := #[3] }, 3, some (102, true), false⟩,
  ⟨some (106, false), .binOp .gtr 3 (.tmp 103) (.tmp 105) 3, 4, some (102, true), true⟩,
  sw 107 (.pick (.tmp 102) (.tmp 106) (.const (.bool false))) 4]
def sl_Index_r26 : List Sop := [
  sq 108 (.move (.tmp 0)) 9,
  sq 109 (.move (.tmp 8)) 3,
  sq 110 (.slice 9 (.tmp 108) (some (.tmp 109)) none none) 9,
  sq 111 (.move (.tmp 1)) 9,
  sc 112 (.call { callee := .value (.func 56), args := #[.tmp 110, .tmp 111], argTypes := #[9, 9] }) 3,
  sw 12 (.assign (.tmp 112)) 3]
def sl_Index_r27 : List Sop := [
  sq 113 (.move (.tmp 12)) 3,
  sw 114 (.binOp .geq 3 (.tmp 113) (.const (.int .i64 0)) 3) 4]
def sl_Index_r28 : List Sop := [
  sq 115 (.move (.tmp 12)) 3,
  sq 116 (.move (.tmp 8)) 3,
  sq 117 (.binOp .add 3 (.tmp 115) (.tmp 116) 3) 3,
  sw 4 (.assign (.tmp 117)) 3]
def sl_Index_r29 : List Sop := [
  sw 4 (.assign (.const (.int .i64 (-1)))) 3]
def sl_Index_r30 : List Sop := [
  sq 118 (.move (.tmp 5)) 3,
  sq 119 (.load 3 (.global 0)) 3,
  sq 120 (.binOp .gtr 3 (.tmp 118) (.tmp 119) 3) 4,
  sq 121 (.move (.tmp 120)) 4,
  ⟨some (122, false), .move (.tmp 10), 3, some (121, true), true⟩,
  ⟨some (123, false), .move (.tmp 8), 3, some (121, true), true⟩,
  ⟨some (124, false), .binOp .shr 3 (.tmp 123) (.const (.int .u64 4)) 76, 3, some (121, true), true⟩,
  ⟨some (125, false), .binOp .add 3 (.const (.int .i64 4)) (.tmp 124) 3, 3, some (121, true), true⟩,
  ⟨some (126, false), .binOp .geq 3 (.tmp 122) (.tmp 125) 3, 4, some (121, true), true⟩,
  sq 127 (.pick (.tmp 121) (.tmp 126) (.const (.bool false))) 4,
  sq 128 (.move (.tmp 127)) 4,
  ⟨some (129, false), .move (.tmp 8), 3, some (128, true), true⟩,
  ⟨some (130, false), .move (.tmp 9), 3, some (128, true), true⟩,
  ⟨some (131, false), .binOp .lss 3 (.tmp 129) (.tmp 130) 3, 4, some (128, true), true⟩,
  sw 132 (.pick (.tmp 128) (.tmp 131) (.const (.bool false))) 4]
def sl_Index_r31 : List Sop := [
  sq 133 (.move (.tmp 0)) 9,
  sq 134 (.move (.tmp 8)) 3,
  sq 135 (.slice 9 (.tmp 133) (some (.tmp 134)) none none) 9,
  sq 136 (.move (.tmp 1)) 9,
  sc 137 (.call { callee := .value (.func 67), args := #[.tmp 135, .tmp 136], argTypes := #[9, 9] }) 3,
  sw 13 (.assign (.tmp 137)) 3]
def sl_Index_r32 : List Sop := [
  sq 138 (.move (.tmp 13)) 3,
  sw 139 (.binOp .lss 3 (.tmp 138) (.const (.int .i64 0)) 3) 4]
def sl_Index_r33 : List Sop := [
  sw 4 (.assign (.const (.int .i64 (-1)))) 3]
def sl_Index_r34 : List Sop := [
  sq 140 (.move (.tmp 8)) 3,
  sq 141 (.move (.tmp 13)) 3,
  sq 142 (.binOp .add 3 (.tmp 140) (.tmp 141) 3) 3,
  sw 4 (.assign (.tmp 142)) 3]
def sl_Index_r35 : List Sop := [
  sw 4 (.assign (.const (.int .i64 (-1)))) 3]
def sl_Index_l0 : Cd := .seq (.seq (.region sl_Index_r15) (.cond (.tmp 59) (.skip) (.exit 1))) (.block 2 (.seq (.seq (.region sl_Index_r16) (.cond (.tmp 64) (.seq (.region sl_Index_r17) (.seq (.seq (.region sl_Index_r18) (.cond (.tmp 73) (.seq (.region sl_Index_r19) (.ret)) (.skip))) (.region sl_Index_r20))) (.skip))) (.seq (.seq (.region sl_Index_r21) (.cond (.tmp 93) (.seq (.region sl_Index_r22) (.ret)) (.skip))) (.seq (.region sl_Index_r23) (.seq (.region sl_Index_r24) (.seq (.region sl_Index_r25) (.cond (.tmp 107) (.seq (.region sl_Index_r26) (.seq (.seq (.region sl_Index_r27) (.cond (.tmp 114) (.seq (.region sl_Index_r28) (.ret)) (.skip))) (.seq (.region sl_Index_r29) (.ret)))) (.seq (.region sl_Index_r30) (.cond (.tmp 132) (.seq (.region sl_Index_r31) (.seq (.seq (.region sl_Index_r32) (.cond (.tmp 139) (.seq (.region sl_Index_r33) (.ret)) (.skip))) (.seq (.region sl_Index_r34) (.ret)))) (.skip))))))))))
def sl_Index : Cd := .seq (.region sl_Index_r0) (.seq (.region sl_Index_r1) (.seq (.block 0 (.seq (.region sl_Index_r2) (.cond (.tmp 16) (.seq (.region sl_Index_r3) (.ret)) (.seq (.region sl_Index_r4) (.cond (.tmp 24) (.seq (.region sl_Index_r5) (.ret)) (.seq (.region sl_Index_r6) (.cond (.tmp 31) (.seq (.region sl_Index_r7) (.ret)) (.seq (.region sl_Index_r8) (.cond (.tmp 36) (.seq (.region sl_Index_r9) (.ret)) (.skip)))))))))) (.seq (.region sl_Index_r10) (.seq (.region sl_Index_r11) (.seq (.region sl_Index_r12) (.seq (.region sl_Index_r13) (.seq (.region sl_Index_r14) (.seq (.block 1 (.loop sl_Index_l0)) (.seq (.region sl_Index_r35) (.ret))))))))))
theorem sl_Index_calls {args : List Value} {h : Heap} {R : Value → Heap → Prop} (hl : args.length = 2) (hv : Cd.vc Tryd.prog sl_Index (retQ Tryd.prog [(4, none)] R) (initEnv args [0, 1, 4, 5, 6, 7, 8, 9, 10, 11, 12, 13, 16, 24, 31, 36, 59, 64, 73, 93, 107, 114, 132, 139]) h) : HCalls Tryd.prog 65 args.toArray h R :=
  hcalls_of_vc (by kernel_rfl) Tryd.func65 (cd := sl_Index) (L := [0, 1, 4, 5, 6, 7, 8, 9, 10, 11, 12, 13, 16, 24, 31, 36, 59, 64, 73, 93, 107, 114, 132, 139]) (by kernel_rfl) (by kernel_rfl) ⟨by rw [hl, Tryd.ntmps65]; decide, by rw [Tryd.ntmps65]; decide⟩ hv
def sl_Index_gos := And.intro (@goVc Tryd.prog _ _ sl_Index.eq_1) (And.intro (@goOps Tryd.prog _ _ sl_Index_r0.eq_1) (And.intro (@goOps Tryd.prog _ _ sl_Index_r1.eq_1) (And.intro (@goOps Tryd.prog _ _ sl_Index_r2.eq_1) (And.intro (@goOps Tryd.prog _ _ sl_Index_r3.eq_1) (And.intro (@goOps Tryd.prog _ _ sl_Index_r4.eq_1) (And.intro (@goOps Tryd.prog _ _ sl_Index_r5.eq_1) (And.intro (@goOps Tryd.prog _ _ sl_Index_r6.eq_1) (And.intro (@goOps Tryd.prog _ _ sl_Index_r7.eq_1) (And.intro (@goOps Tryd.prog _ _ sl_Index_r8.eq_1) (And.intro (@goOps Tryd.prog _ _ sl_Index_r9.eq_1) (And.intro (@goOps Tryd.prog _ _ sl_Index_r10.eq_1) (And.intro (@goOps Tryd.prog _ _ sl_Index_r11.eq_1) (And.intro (@goOps Tryd.prog _ _ sl_Index_r12.eq_1) (And.intro (@goOps Tryd.prog _ _ sl_Index_r13.eq_1) (And.intro (@goOps Tryd.prog _ _ sl_Index_r14.eq_1) (And.intro (@goOps Tryd.prog _ _ sl_Index_r15.eq_1) (And.intro (@goOps Tryd.prog _ _ sl_Index_r16.eq_1) (And.intro (@goOps Tryd.prog _ _ sl_Index_r17.eq_1) (And.intro (@goOps Tryd.prog _ _ sl_Index_r18.eq_1) (And.intro (@goOps Tryd.prog _ _ sl_Index_r19.eq_1) (And.intro (@goOps Tryd.prog _ _ sl_Index_r20.eq_1) (And.intro (@goOps Tryd.prog _ _ sl_Index_r21.eq_1) (And.intro (@goOps Tryd.prog _ _ sl_Index_r22.eq_1) (And.intro (@goOps Tryd.prog _ _ sl_Index_r23.eq_1) (And.intro (@goOps Tryd.prog _ _ sl_Index_r24.eq_1) (And.intro (@goOps Tryd.prog _ _ sl_Index_r25.eq_1) (And.intro (@goOps Tryd.prog _ _ sl_Index_r26.eq_1) (And.intro (@goOps Tryd.prog _ _ sl_Index_r27.eq_1) (And.intro (@goOps Tryd.prog _ _ sl_Index_r28.eq_1) (And.intro (@goOps Tryd.prog _ _ sl_Index_r29.eq_1) (And.intro (@goOps Tryd.prog _ _ sl_Index_r30.eq_1) (And.intro (@goOps Tryd.prog _ _ sl_Index_r31.eq_1) (And.intro (@goOps Tryd.prog _ _ sl_Index_r32.eq_1) (And.intro (@goOps Tryd.prog _ _ sl_Index_r33.eq_1) (And.intro (@goOps Tryd.prog _ _ sl_Index_r34.eq_1) (And.intro (@goOps Tryd.prog _ _ sl_Index_r35.eq_1) (@goVc Tryd.prog _ _ sl_Index_l0.eq_1)))))))))))))))))))))))))))))))))))))

end Go.Proofs.YtgdmoimclelfhaaDoor.C
