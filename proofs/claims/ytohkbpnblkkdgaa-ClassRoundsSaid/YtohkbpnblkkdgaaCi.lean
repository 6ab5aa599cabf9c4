/- The stripped code of some functions of this seat's program, printed by a program; that it is that code is proved by the kernel. No condition. -/

import Derived.Test.YtohkbpnblkkdgaaProg

import Derived.Test.YtohkbpnblkkdgaaVcJ

set_option maxRecDepth 100000

set_option linter.defProp false

namespace Go.Proofs.Ytohkbpnblkkdgaa.C

open Go.Vc

/-! jvmcore/class.Write: function 16: slots [0, 1, 2, 3, 4, 5, 6, 9, 11, 36, 47, 84, 85, 86, 87, 101, 116, 117, 118, 119, 133, 148] -/
def class_Write_r0 : List Sop := [
  sa 1 (.box 43 (.tmp 0)) 0,
  sw 2 (.assign (.const (.string { data := #[] }))) 9,
  sw 3 (.assign (.const (.int .i64 0))) 27]
def class_Write_r1 : List Sop := [
  sq 12 (.load 43 (.tmp 1)) 43,
  sq 13 (.build 84 #[(1, .tmp 12)]) 84,
  sc 14 (.box 84 (.tmp 13)) 82,
  sa 4 (.alloc 82) 0,
  ss (.store 82 (.tmp 4) (.tmp 14))]
def class_Write_r2 : List Sop := [
  sq 15 (.load 82 (.tmp 4)) 82,
  sc 16 (.call { callee := .value (.func 37), args := #[.tmp 15, .const (.int .i64 3405691582), .const (.int .i64 4)], argTypes := #[82, 3, 3] }) 0]
def class_Write_r3 : List Sop := [
  sq 17 (.load 82 (.tmp 4)) 82,
  sq 18 (.fieldAddr 43 (.tmp 1) 0) 0,
  sq 19 (.load 38 (.tmp 18)) 38,
  sq 20 (.fieldAddr 43 (.tmp 1) 1) 0,
  sq 21 (.load 38 (.tmp 20)) 38,
  sc 22 (.buildSlice 39 2 #[(0, .tmp 19), (1, .tmp 21)]) 39,
  sc 23 (.call { callee := .value (.func 38), args := #[.tmp 17, .tmp 22], argTypes := #[82, 39] }) 0]
def class_Write_r4 : List Sop := [
  sq 24 (.fieldAddr 43 (.tmp 1) 1) 0,
  sq 25 (.load 38 (.tmp 24)) 38,
  sq 26 (.binOp .neq 38 (.tmp 25) (.const (.int .u16 50)) 38) 4,
  sq 27 (.move (.tmp 26)) 4,
  ⟨some (28, false), .fieldAddr 43 (.tmp 1) 1, 0, some (27, true), true⟩,
  ⟨some (29, false), .load 38 (.tmp 28), 38, some (27, true), true⟩,
  ⟨some (30, false), .binOp .neq 38 (.tmp 29) (.const (.int .u16 51)) 38, 4, some (27, true), true⟩,
  sq 31 (.pick (.tmp 27) (.tmp 30) (.const (.bool false))) 4,
  sq 32 (.move (.tmp 31)) 4,
  ⟨some (33, false), .fieldAddr 43 (.tmp 1) 0, 0, some (32, false), true⟩,
  ⟨some (34, false), .load 38 (.tmp 33), 38, some (32, false), true⟩,
  ⟨some (35, false), .binOp .neq 38 (.tmp 34) (.const (.int .u16 0)) 38, 4, some (32, false), true⟩,
  sw 36 (.pick (.tmp 32) (.const (.bool true)) (.tmp 35)) 4]
def class_Write_r5 : List Sop := [
  sq 37 (.load 82 (.tmp 4)) 82,
  sc 38 (.call { callee := .value (.func 39), args := #[.tmp 37, .const (.int .i64 4)], argTypes := #[82, 27] }) 0]
def class_Write_r6 : List Sop := [
  sq 40 (.fieldAddr 43 (.tmp 1) 5) 0,
  sq 41 (.load 22 (.tmp 40)) 22,
  sc 42 (.call { callee := .value (.func 40), args := #[.tmp 41], argTypes := #[22] }) 36,
  sq 39 (.move (.tmp 42)) 36,
  sq 43 (.extract (.tmp 39) 0) 9,
  sq 44 (.extract (.tmp 39) 1) 27,
  sq 45 (.extract (.tmp 39) 2) 3,
  sw 5 (.assign (.tmp 43)) 9,
  sw 6 (.assign (.tmp 44)) 27,
  sq 7 (.assign (.tmp 45)) 3]
def class_Write_r7 : List Sop := [
  sq 46 (.move (.tmp 6)) 27,
  sw 47 (.binOp .neq 27 (.tmp 46) (.const (.int .i64 0)) 27) 4]
def class_Write_r8 : List Sop := [
  sq 48 (.load 82 (.tmp 4)) 82,
  sq 49 (.move (.tmp 6)) 27,
  sc 50 (.call { callee := .value (.func 39), args := #[.tmp 48, .tmp 49], argTypes := #[82, 27] }) 0]
def class_Write_r9 : List (Sop × List Sop) := [
  (sq 51 (.load 82 (.tmp 4)) 82, []),
  (sq 52 (.load 82 (.tmp 4)) 82, []),
  (sq 53 (.nilCheck (.tmp 52)) 0, []),
  (sq 54 (.fieldAddr 84 (.tmp 53) 0) 0, []),
  (sq 55 (.load 69 (.tmp 54)) 69, []),
  (sq 56 (.move (.tmp 5)) 9, []),
  (sc 57 (.call { callee := .builtin .append, args := #[.tmp 55, .tmp 56], argTypes := #[69, 9] }) 69, [sq 51 (.load 82 (.tmp 4)) 82]),
  (sq 58 (.nilCheck (.tmp 51)) 0, []),
  (sq 59 (.fieldAddr 84 (.tmp 58) 0) 0, []),
  (ss (.store 69 (.tmp 59) (.tmp 57)), [])]
def class_Write_r10 : List Sop := [
  sq 60 (.load 82 (.tmp 4)) 82,
  sq 61 (.fieldAddr 43 (.tmp 1) 2) 0,
  sq 62 (.load 38 (.tmp 61)) 38,
  sq 63 (.fieldAddr 43 (.tmp 1) 3) 0,
  sq 64 (.load 38 (.tmp 63)) 38,
  sq 65 (.fieldAddr 43 (.tmp 1) 4) 0,
  sq 66 (.load 38 (.tmp 65)) 38,
  sc 67 (.buildSlice 39 3 #[(0, .tmp 62), (1, .tmp 64), (2, .tmp 66)]) 39,
  sc 68 (.call { callee := .value (.func 38), args := #[.tmp 60, .tmp 67], argTypes := #[82, 39] }) 0]
def class_Write_r11 : List Sop := [
  sq 69 (.load 82 (.tmp 4)) 82,
  sq 70 (.fieldAddr 43 (.tmp 1) 6) 0,
  sq 71 (.load 39 (.tmp 70)) 39,
  sq 72 (.call { callee := .builtin .len, args := #[.tmp 71], argTypes := #[39] }) 3,
  sc 73 (.call { callee := .value (.func 37), args := #[.tmp 69, .tmp 72, .const (.int .i64 2)], argTypes := #[82, 3, 3] }) 0]
def class_Write_r12 : List Sop := [
  sq 74 (.load 82 (.tmp 4)) 82,
  sq 75 (.fieldAddr 43 (.tmp 1) 6) 0,
  sq 76 (.load 39 (.tmp 75)) 39,
  sc 77 (.call { callee := .value (.func 38), args := #[.tmp 74, .tmp 76], argTypes := #[82, 39] }) 0]
def class_Write_r13 : List Sop := [
  sq 78 (.load 82 (.tmp 4)) 82,
  sq 79 (.fieldAddr 43 (.tmp 1) 7) 0,
  sq 80 (.load 40 (.tmp 79)) 40,
  sq 81 (.call { callee := .builtin .len, args := #[.tmp 80], argTypes := #[40] }) 3,
  sc 82 (.call { callee := .value (.func 37), args := #[.tmp 78, .tmp 81, .const (.int .i64 2)], argTypes := #[82, 3, 3] }) 0]
def class_Write_r14 : List Sop := [
  sq 83 (.fieldAddr 43 (.tmp 1) 7) 0,
  sw 84 (.load 40 (.tmp 83)) 40,
  sw 85 (.call { callee := .builtin .len, args := #[.tmp 84], argTypes := #[40] }) 3,
  sw 86 (.move (.const (.int .i64 0))) 3]
def class_Write_r15 : List Sop := [
  sw 87 (.binOp .lss 3 (.tmp 86) (.tmp 85) 3) 0]
def class_Write_r16 : List Sop := [
  sq 88 (.indexAddr 40 (.tmp 84) (.tmp 86)) 0,
  sq 89 (.load 89 (.tmp 88)) 89,
  sa 9 (.alloc 89) 0,
  ss (.store 89 (.tmp 9) (.tmp 89))]
def class_Write_r17 : List Sop := [
  sq 90 (.load 82 (.tmp 4)) 82,
  sq 91 (.fieldAddr 89 (.tmp 9) 0) 0,
  sq 92 (.load 38 (.tmp 91)) 38,
  sq 93 (.fieldAddr 89 (.tmp 9) 1) 0,
  sq 94 (.load 38 (.tmp 93)) 38,
  sq 95 (.fieldAddr 89 (.tmp 9) 2) 0,
  sq 96 (.load 38 (.tmp 95)) 38,
  sc 97 (.buildSlice 39 3 #[(0, .tmp 92), (1, .tmp 94), (2, .tmp 96)]) 39,
  sc 98 (.call { callee := .value (.func 38), args := #[.tmp 90, .tmp 97], argTypes := #[82, 39] }) 0]
def class_Write_r18 : List Sop := [
  sq 99 (.fieldAddr 89 (.tmp 9) 3) 0,
  sq 100 (.load 38 (.tmp 99)) 38,
  sw 101 (.binOp .eql 38 (.tmp 100) (.const (.int .u16 0)) 38) 4]
def class_Write_r19 : List Sop := [
  sq 102 (.load 82 (.tmp 4)) 82,
  sc 103 (.call { callee := .value (.func 37), args := #[.tmp 102, .const (.int .i64 0), .const (.int .i64 2)], argTypes := #[82, 3, 3] }) 0]
def class_Write_r20 : List Sop := [
  sq 104 (.load 82 (.tmp 4)) 82,
  sc 105 (.call { callee := .value (.func 37), args := #[.tmp 104, .const (.int .i64 1), .const (.int .i64 2)], argTypes := #[82, 3, 3] }) 0]
def class_Write_r21 : List Sop := [
  sq 106 (.load 82 (.tmp 4)) 82,
  sq 107 (.makeFunc (.func 42) #[] #[.tmp 4, .tmp 9]) 1,
  sc 108 (.call { callee := .value (.func 41), args := #[.tmp 106, .const (.string { data := #[67, 111, 110, 115, 116, 97, 110, 116, 86, 97, 108, 117, 101] }), .tmp 107], argTypes := #[82, 9, 1] }) 0]
def class_Write_r22 : List Sop := [
  sq 109 (.binOp .add 3 (.tmp 86) (.const (.int .i64 1)) 3) 3,
  sw 86 (.move (.tmp 109)) 3]
def class_Write_r23 : List Sop := [
  sq 110 (.load 82 (.tmp 4)) 82,
  sq 111 (.fieldAddr 43 (.tmp 1) 8) 0,
  sq 112 (.load 41 (.tmp 111)) 41,
  sq 113 (.call { callee := .builtin .len, args := #[.tmp 112], argTypes := #[41] }) 3,
  sc 114 (.call { callee := .value (.func 37), args := #[.tmp 110, .tmp 113, .const (.int .i64 2)], argTypes := #[82, 3, 3] }) 0]
def class_Write_r24 : List Sop := [
  sq 115 (.fieldAddr 43 (.tmp 1) 8) 0,
  sw 116 (.load 41 (.tmp 115)) 41,
  sw 117 (.call { callee := .builtin .len, args := #[.tmp 116], argTypes := #[41] }) 3,
  sw 118 (.move (.const (.int .i64 0))) 3]
def class_Write_r25 : List Sop := [
  sw 119 (.binOp .lss 3 (.tmp 118) (.tmp 117) 3) 0]
def class_Write_r26 : List Sop := [
  sq 120 (.indexAddr 41 (.tmp 116) (.tmp 118)) 0,
  sq 121 (.load 81 (.tmp 120)) 81,
  sa 11 (.alloc 81) 0,
  ss (.store 81 (.tmp 11) (.tmp 121))]
def class_Write_r27 : List Sop := [
  sq 122 (.load 82 (.tmp 4)) 82,
  sq 123 (.fieldAddr 81 (.tmp 11) 0) 0,
  sq 124 (.load 38 (.tmp 123)) 38,
  sq 125 (.fieldAddr 81 (.tmp 11) 1) 0,
  sq 126 (.load 38 (.tmp 125)) 38,
  sq 127 (.fieldAddr 81 (.tmp 11) 2) 0,
  sq 128 (.load 38 (.tmp 127)) 38,
  sc 129 (.buildSlice 39 3 #[(0, .tmp 124), (1, .tmp 126), (2, .tmp 128)]) 39,
  sc 130 (.call { callee := .value (.func 38), args := #[.tmp 122, .tmp 129], argTypes := #[82, 39] }) 0]
def class_Write_r28 : List Sop := [
  sq 131 (.fieldAddr 81 (.tmp 11) 3) 0,
  sq 132 (.load 4 (.tmp 131)) 4,
  sw 133 (.unOp .not 4 (.tmp 132)) 4]
def class_Write_r29 : List Sop := [
  sq 134 (.load 82 (.tmp 4)) 82,
  sc 135 (.call { callee := .value (.func 37), args := #[.tmp 134, .const (.int .i64 0), .const (.int .i64 2)], argTypes := #[82, 3, 3] }) 0]
def class_Write_r30 : List Sop := [
  sq 136 (.load 82 (.tmp 4)) 82,
  sc 137 (.call { callee := .value (.func 37), args := #[.tmp 136, .const (.int .i64 1), .const (.int .i64 2)], argTypes := #[82, 3, 3] }) 0]
def class_Write_r31 : List Sop := [
  sq 138 (.load 82 (.tmp 4)) 82,
  sq 139 (.makeFunc (.func 43) #[] #[.tmp 4, .tmp 11]) 1,
  sc 140 (.call { callee := .value (.func 41), args := #[.tmp 138, .const (.string { data := #[67, 111, 100, 101] }), .tmp 139], argTypes := #[82, 9, 1] }) 0]
def class_Write_r32 : List Sop := [
  sq 141 (.binOp .add 3 (.tmp 118) (.const (.int .i64 1)) 3) 3,
  sw 118 (.move (.tmp 141)) 3]
def class_Write_r33 : List Sop := [
  sq 142 (.load 82 (.tmp 4)) 82,
  sc 143 (.call { callee := .value (.func 37), args := #[.tmp 142, .const (.int .i64 0), .const (.int .i64 2)], argTypes := #[82, 3, 3] }) 0]
def class_Write_r34 : List Sop := [
  sq 144 (.load 82 (.tmp 4)) 82,
  sq 145 (.nilCheck (.tmp 144)) 0,
  sq 146 (.fieldAddr 84 (.tmp 145) 2) 0,
  sq 147 (.load 27 (.tmp 146)) 27,
  sw 148 (.binOp .neq 27 (.tmp 147) (.const (.int .i64 0)) 27) 4]
def class_Write_r35 : List (Sop × List Sop) := [
  (sq 149 (.load 82 (.tmp 4)) 82, []),
  (sq 150 (.nilCheck (.tmp 149)) 0, []),
  (sq 151 (.fieldAddr 84 (.tmp 150) 2) 0, []),
  (sq 152 (.load 27 (.tmp 151)) 27, []),
  (sw 2 (.assign (.const (.string { data := #[] }))) 9, []),
  (sw 3 (.assign (.tmp 152)) 27, [])]
def class_Write_r36 : List Sop := [
  sq 153 (.load 82 (.tmp 4)) 82,
  sq 154 (.nilCheck (.tmp 153)) 0,
  sq 155 (.fieldAddr 84 (.tmp 154) 0) 0,
  sq 156 (.load 69 (.tmp 155)) 69,
  sq 157 (.convert 69 9 (.tmp 156)) 9,
  sw 2 (.assign (.tmp 157)) 9,
  sw 3 (.assign (.const (.int .i64 0))) 27]
def class_Write_l0 : Cd := .seq (.region class_Write_r15) (.seq (.cond (.tmp 87) (.skip) (.exit 0)) (.seq (.block 1 (.seq (.region class_Write_r16) (.seq (.region class_Write_r17) (.seq (.seq (.region class_Write_r18) (.cond (.tmp 101) (.seq (.region class_Write_r19) (.exit 1)) (.skip))) (.seq (.region class_Write_r20) (.region class_Write_r21)))))) (.region class_Write_r22)))
def class_Write_l1 : Cd := .seq (.region class_Write_r25) (.seq (.cond (.tmp 119) (.skip) (.exit 2)) (.seq (.block 3 (.seq (.region class_Write_r26) (.seq (.region class_Write_r27) (.seq (.seq (.region class_Write_r28) (.cond (.tmp 133) (.seq (.region class_Write_r29) (.exit 3)) (.skip))) (.seq (.region class_Write_r30) (.region class_Write_r31)))))) (.region class_Write_r32)))
def class_Write_t0 : Cd := .seq (.draw class_Write_r9) (.seq (.region class_Write_r10) (.seq (.region class_Write_r11) (.seq (.region class_Write_r12) (.seq (.region class_Write_r13) (.seq (.seq (.region class_Write_r14) (.block 0 (.loop class_Write_l0))) (.seq (.region class_Write_r23) (.seq (.seq (.region class_Write_r24) (.block 2 (.loop class_Write_l1))) (.seq (.region class_Write_r33) (.seq (.seq (.region class_Write_r34) (.cond (.tmp 148) (.seq (.draw class_Write_r35) (.ret)) (.skip))) (.seq (.region class_Write_r36) (.ret)))))))))))
def class_Write_t0_go := @goVc Try.prog _ _ class_Write_t0.eq_1
def class_Write_t1 : Cd := .seq (.region class_Write_r6) (.seq (.seq (.region class_Write_r7) (.cond (.tmp 47) (.region class_Write_r8) (.skip))) (class_Write_t0))
def class_Write_t1_go := @goVc Try.prog _ _ class_Write_t1.eq_1
def class_Write : Cd := .seq (.region class_Write_r0) (.seq (.region class_Write_r1) (.seq (.region class_Write_r2) (.seq (.region class_Write_r3) (.seq (.seq (.region class_Write_r4) (.cond (.tmp 36) (.region class_Write_r5) (.skip))) (class_Write_t1)))))
theorem class_Write_calls {args : List Value} {h : Heap} {R : Value → Heap → Prop} (hl : args.length = 1) (hv : Cd.vc Try.prog class_Write (retQ Try.prog [(2, none), (3, none)] R) (initEnv args [0, 1, 2, 3, 4, 5, 6, 9, 11, 36, 47, 84, 85, 86, 87, 101, 116, 117, 118, 119, 133, 148]) h) : HCalls Try.prog 16 args.toArray h R :=
  hcalls_of_vc (by kernel_rfl) Try.func16 (cd := class_Write) (L := [0, 1, 2, 3, 4, 5, 6, 9, 11, 36, 47, 84, 85, 86, 87, 101, 116, 117, 118, 119, 133, 148]) (by kernel_rfl) (by kernel_rfl) ⟨by rw [hl, Try.ntmps16]; decide, by rw [Try.ntmps16]; decide⟩ hv
def class_Write_gos := And.intro (@goVc Try.prog _ _ class_Write.eq_1) (And.intro (@goOps Try.prog _ _ class_Write_r0.eq_1) (And.intro (@goOps Try.prog _ _ class_Write_r1.eq_1) (And.intro (@goOps Try.prog _ _ class_Write_r2.eq_1) (And.intro (@goOps Try.prog _ _ class_Write_r3.eq_1) (And.intro (@goOps Try.prog _ _ class_Write_r4.eq_1) (And.intro (@goOps Try.prog _ _ class_Write_r5.eq_1) (And.intro (@goOps Try.prog _ _ class_Write_r6.eq_1) (And.intro (@goOps Try.prog _ _ class_Write_r7.eq_1) (And.intro (@goOps Try.prog _ _ class_Write_r8.eq_1) (And.intro (@goDraw Try.prog _ _ class_Write_r9.eq_1) (And.intro (@goOps Try.prog _ _ class_Write_r10.eq_1) (And.intro (@goOps Try.prog _ _ class_Write_r11.eq_1) (And.intro (@goOps Try.prog _ _ class_Write_r12.eq_1) (And.intro (@goOps Try.prog _ _ class_Write_r13.eq_1) (And.intro (@goOps Try.prog _ _ class_Write_r14.eq_1) (And.intro (@goOps Try.prog _ _ class_Write_r15.eq_1) (And.intro (@goOps Try.prog _ _ class_Write_r16.eq_1) (And.intro (@goOps Try.prog _ _ class_Write_r17.eq_1) (And.intro (@goOps Try.prog _ _ class_Write_r18.eq_1) (And.intro (@goOps Try.prog _ _ class_Write_r19.eq_1) (And.intro (@goOps Try.prog _ _ class_Write_r20.eq_1) (And.intro (@goOps Try.prog _ _ class_Write_r21.eq_1) (And.intro (@goOps Try.prog _ _ class_Write_r22.eq_1) (And.intro (@goOps Try.prog _ _ class_Write_r23.eq_1) (And.intro (@goOps Try.prog _ _ class_Write_r24.eq_1) (And.intro (@goOps Try.prog _ _ class_Write_r25.eq_1) (And.intro (@goOps Try.prog _ _ class_Write_r26.eq_1) (And.intro (@goOps Try.prog _ _ class_Write_r27.eq_1) (And.intro (@goOps Try.prog _ _ class_Write_r28.eq_1) (And.intro (@goOps Try.prog _ _ class_Write_r29.eq_1) (And.intro (@goOps Try.prog _ _ class_Write_r30.eq_1) (And.intro (@goOps Try.prog _ _ class_Write_r31.eq_1) (And.intro (@goOps Try.prog _ _ class_Write_r32.eq_1) (And.intro (@goOps Try.prog _ _ class_Write_r33.eq_1) (And.intro (@goOps Try.prog _ _ class_Write_r34.eq_1) (And.intro (@goDraw Try.prog _ _ class_Write_r35.eq_1) (And.intro (@goOps Try.prog _ _ class_Write_r36.eq_1) (And.intro (@goVc Try.prog _ _ class_Write_l0.eq_1) (@goVc Try.prog _ _ class_Write_l1.eq_1)))))))))))))))))))))))))))))))))))))))

/-! jvmcore/class.Write.1: function 42: slots [0, 1] -/
def class_Write_1_r0 : List Sop := [
  sq 2 (.load 82 (.tmp 0)) 82,
  sq 3 (.fieldAddr 89 (.tmp 1) 3) 0,
  sq 4 (.load 38 (.tmp 3)) 38,
  sc 5 (.buildSlice 39 1 #[(0, .tmp 4)]) 39,
  sc 6 (.call { callee := .value (.func 38), args := #[.tmp 2, .tmp 5], argTypes := #[82, 39] }) 0]
def class_Write_1 : Cd := .region class_Write_1_r0
theorem class_Write_1_calls {args : List Value} {h : Heap} {R : Value → Heap → Prop} (hl : args.length = 2) (hv : Cd.vc Try.prog class_Write_1 (retQ Try.prog [] R) (initEnv args [0, 1]) h) : HCalls Try.prog 42 args.toArray h R :=
  hcalls_of_vc (by kernel_rfl) Try.func42 (cd := class_Write_1) (L := [0, 1]) (by kernel_rfl) (by kernel_rfl) ⟨by rw [hl, Try.ntmps42]; decide, by rw [Try.ntmps42]; decide⟩ hv
def class_Write_1_gos := And.intro (@goVc Try.prog _ _ class_Write_1.eq_1) (@goOps Try.prog _ _ class_Write_1_r0.eq_1)

/-! jvmcore/class.Write.2: function 43: slots [0, 1] -/
def class_Write_2_r0 : List Sop := [
  sq 2 (.load 82 (.tmp 0)) 82,
  sq 3 (.fieldAddr 81 (.tmp 1) 4) 0,
  sq 4 (.load 79 (.tmp 3)) 79,
  sc 5 (.call { callee := .value (.func 44), args := #[.tmp 2, .tmp 4], argTypes := #[82, 79] }) 0]
def class_Write_2 : Cd := .region class_Write_2_r0
theorem class_Write_2_calls {args : List Value} {h : Heap} {R : Value → Heap → Prop} (hl : args.length = 2) (hv : Cd.vc Try.prog class_Write_2 (retQ Try.prog [] R) (initEnv args [0, 1]) h) : HCalls Try.prog 43 args.toArray h R :=
  hcalls_of_vc (by kernel_rfl) Try.func43 (cd := class_Write_2) (L := [0, 1]) (by kernel_rfl) (by kernel_rfl) ⟨by rw [hl, Try.ntmps43]; decide, by rw [Try.ntmps43]; decide⟩ hv
def class_Write_2_gos := And.intro (@goVc Try.prog _ _ class_Write_2.eq_1) (@goOps Try.prog _ _ class_Write_2_r0.eq_1)

/-! (*jvmcore/class.writer).fail: function 39: slots [0, 1, 8] -/
def cw_fail_r0 : List Sop := [
  sq 4 (.move (.tmp 0)) 82,
  sq 5 (.nilCheck (.tmp 4)) 0,
  sq 6 (.fieldAddr 84 (.tmp 5) 2) 0,
  sq 7 (.load 27 (.tmp 6)) 27,
  sw 8 (.binOp .eql 27 (.tmp 7) (.const (.int .i64 0)) 27) 4]
def cw_fail_r1 : List Sop := [
  sq 9 (.move (.tmp 0)) 82,
  sq 10 (.move (.tmp 1)) 27,
  sq 11 (.nilCheck (.tmp 9)) 0,
  sq 12 (.fieldAddr 84 (.tmp 11) 2) 0,
  ss (.store 27 (.tmp 12) (.tmp 10))]
def cw_fail : Cd := .seq (.region cw_fail_r0) (.cond (.tmp 8) (.region cw_fail_r1) (.skip))
theorem cw_fail_calls {args : List Value} {h : Heap} {R : Value → Heap → Prop} (hl : args.length = 2) (hv : Cd.vc Try.prog cw_fail (retQ Try.prog [] R) (initEnv args [0, 1, 8]) h) : HCalls Try.prog 39 args.toArray h R :=
  hcalls_of_vc (by kernel_rfl) Try.func39 (cd := cw_fail) (L := [0, 1, 8]) (by kernel_rfl) (by kernel_rfl) ⟨by rw [hl, Try.ntmps39]; decide, by rw [Try.ntmps39]; decide⟩ hv
def cw_fail_gos := And.intro (@goVc Try.prog _ _ cw_fail.eq_1) (And.intro (@goOps Try.prog _ _ cw_fail_r0.eq_1) (@goOps Try.prog _ _ cw_fail_r1.eq_1))

/-! (*jvmcore/class.writer).num: function 37: slots [0, 1, 2, 14] -/
def cw_num_r0 : List Sop := [
  sq 6 (.move (.tmp 1)) 3,
  sq 7 (.binOp .lss 3 (.tmp 6) (.const (.int .i64 0)) 3) 4,
  sq 8 (.move (.tmp 7)) 4,
  ⟨some (9, false), .move (.tmp 1), 3, some (8, false), true⟩,
  ⟨some (10, false), .move (.tmp 2), 3, some (8, false), true⟩,
  ⟨some (11, false), .binOp .mul 3 (.const (.int .i64 8)) (.tmp 10) 3, 3, some (8, false), true⟩,
  ⟨some (12, false), .binOp .shr 3 (.tmp 9) (.tmp 11) 3, 3, some (8, false), true⟩,
  ⟨some (13, false), .binOp .neq 3 (.tmp 12) (.const (.int .i64 0)) 3, 4, some (8, false), true⟩,
  sw 14 (.pick (.tmp 8) (.const (.bool true)) (.tmp 13)) 4]
def cw_num_r1 : List Sop := [
  sq 15 (.move (.tmp 0)) 82,
  sc 16 (.call { callee := .value (.func 39), args := #[.tmp 15, .const (.int .i64 12)], argTypes := #[82, 27] }) 0]
def cw_num_r2 : List (Sop × List Sop) := [
  (sq 17 (.move (.tmp 0)) 82, []),
  (sq 18 (.move (.tmp 0)) 82, []),
  (sq 19 (.nilCheck (.tmp 18)) 0, []),
  (sq 20 (.fieldAddr 84 (.tmp 19) 0) 0, []),
  (sq 21 (.load 69 (.tmp 20)) 69, []),
  (sq 22 (.move (.tmp 1)) 3, []),
  (sq 23 (.convert 3 74 (.tmp 22)) 74, []),
  (sq 24 (.move (.tmp 2)) 3, []),
  (sc 25 (.call { callee := .value (.func 70), args := #[.tmp 23, .tmp 24], argTypes := #[74, 3] }) 9, [sq 19 (.nilCheck (.tmp 18)) 0, sq 20 (.fieldAddr 84 (.tmp 19) 0) 0, sq 21 (.load 69 (.tmp 20)) 69]),
  (sc 26 (.call { callee := .builtin .append, args := #[.tmp 21, .tmp 25], argTypes := #[69, 9] }) 69, []),
  (sq 27 (.nilCheck (.tmp 17)) 0, []),
  (sq 28 (.fieldAddr 84 (.tmp 27) 0) 0, []),
  (ss (.store 69 (.tmp 28) (.tmp 26)), [])]
def cw_num : Cd := .seq (.seq (.region cw_num_r0) (.cond (.tmp 14) (.region cw_num_r1) (.skip))) (.draw cw_num_r2)
theorem cw_num_calls {args : List Value} {h : Heap} {R : Value → Heap → Prop} (hl : args.length = 3) (hv : Cd.vc Try.prog cw_num (retQ Try.prog [] R) (initEnv args [0, 1, 2, 14]) h) : HCalls Try.prog 37 args.toArray h R :=
  hcalls_of_vc (by kernel_rfl) Try.func37 (cd := cw_num) (L := [0, 1, 2, 14]) (by kernel_rfl) (by kernel_rfl) ⟨by rw [hl, Try.ntmps37]; decide, by rw [Try.ntmps37]; decide⟩ hv
def cw_num_gos := And.intro (@goVc Try.prog _ _ cw_num.eq_1) (And.intro (@goOps Try.prog _ _ cw_num_r0.eq_1) (And.intro (@goOps Try.prog _ _ cw_num_r1.eq_1) (@goDraw Try.prog _ _ cw_num_r2.eq_1)))

/-! (*jvmcore/class.writer).index: function 38: slots [0, 1, 5, 6, 7, 8, 9] -/
def cw_index_r0 : List Sop := [
  sw 6 (.move (.tmp 1)) 39,
  sw 7 (.call { callee := .builtin .len, args := #[.tmp 6], argTypes := #[39] }) 3,
  sw 8 (.move (.const (.int .i64 0))) 3]
def cw_index_r1 : List Sop := [
  sw 9 (.binOp .lss 3 (.tmp 8) (.tmp 7) 3) 0]
def cw_index_r2 : List Sop := [
  sq 10 (.indexAddr 39 (.tmp 6) (.tmp 8)) 0,
  sq 11 (.load 38 (.tmp 10)) 38,
  sw 5 (.assign (.tmp 11)) 38]
def cw_index_r3 : List Sop := [
  sq 12 (.move (.tmp 0)) 82,
  sq 13 (.move (.tmp 5)) 38,
  sq 14 (.convert 38 3 (.tmp 13)) 3,
  sc 15 (.call { callee := .value (.func 37), args := #[.tmp 12, .tmp 14, .const (.int .i64 2)], argTypes := #[82, 3, 3] }) 0]
def cw_index_r4 : List Sop := [
  sq 16 (.binOp .add 3 (.tmp 8) (.const (.int .i64 1)) 3) 3,
  sw 8 (.move (.tmp 16)) 3]
def cw_index_l0 : Cd := .seq (.region cw_index_r1) (.seq (.cond (.tmp 9) (.skip) (.exit 0)) (.seq (.block 1 (.seq (.region cw_index_r2) (.region cw_index_r3))) (.region cw_index_r4)))
def cw_index : Cd := .seq (.region cw_index_r0) (.block 0 (.loop cw_index_l0))
theorem cw_index_calls {args : List Value} {h : Heap} {R : Value → Heap → Prop} (hl : args.length = 2) (hv : Cd.vc Try.prog cw_index (retQ Try.prog [] R) (initEnv args [0, 1, 5, 6, 7, 8, 9]) h) : HCalls Try.prog 38 args.toArray h R :=
  hcalls_of_vc (by kernel_rfl) Try.func38 (cd := cw_index) (L := [0, 1, 5, 6, 7, 8, 9]) (by kernel_rfl) (by kernel_rfl) ⟨by rw [hl, Try.ntmps38]; decide, by rw [Try.ntmps38]; decide⟩ hv
def cw_index_gos := And.intro (@goVc Try.prog _ _ cw_index.eq_1) (And.intro (@goOps Try.prog _ _ cw_index_r0.eq_1) (And.intro (@goOps Try.prog _ _ cw_index_r1.eq_1) (And.intro (@goOps Try.prog _ _ cw_index_r2.eq_1) (And.intro (@goOps Try.prog _ _ cw_index_r3.eq_1) (And.intro (@goOps Try.prog _ _ cw_index_r4.eq_1) (@goVc Try.prog _ _ cw_index_l0.eq_1))))))

/-! (*jvmcore/class.writer).attribute: function 41: slots [0, 1, 2, 6, 7, 8, 13, 14, 15, 16, 28] -/
def cw_attribute_r0 : List Sop := [
  sq 9 (.move (.tmp 0)) 82,
  sq 10 (.nilCheck (.tmp 9)) 0,
  sq 11 (.fieldAddr 84 (.tmp 10) 1) 0,
  sq 12 (.fieldAddr 43 (.tmp 11) 5) 0,
  sw 13 (.load 22 (.tmp 12)) 22,
  sw 14 (.call { callee := .builtin .len, args := #[.tmp 13], argTypes := #[22] }) 3,
  sw 15 (.move (.const (.int .i64 0))) 3]
def cw_attribute_r1 : List Sop := [
  sw 16 (.binOp .lss 3 (.tmp 15) (.tmp 14) 3) 0]
def cw_attribute_r2 : List Sop := [
  sq 17 (.move (.tmp 15)) 3,
  sq 18 (.indexAddr 22 (.tmp 13) (.tmp 15)) 0,
  sq 19 (.load 76 (.tmp 18)) 76,
  sa 7 (.alloc 76) 0,
  sw 6 (.assign (.tmp 17)) 3,
  ss (.store 76 (.tmp 7) (.tmp 19))]
def cw_attribute_r3 : List Sop := [
  sq 20 (.fieldAddr 76 (.tmp 7) 0) 0,
  sq 21 (.load 5 (.tmp 20)) 5,
  sq 22 (.binOp .eql 5 (.tmp 21) (.const (.int .u8 1)) 5) 4,
  sq 23 (.move (.tmp 22)) 4,
  ⟨some (24, false), .fieldAddr 76 (.tmp 7) 1, 0, some (23, true), true⟩,
  ⟨some (25, false), .load 9 (.tmp 24), 9, some (23, true), true⟩,
  ⟨some (26, false), .move (.tmp 1), 9, some (23, true), true⟩,
  ⟨some (27, false), .binOp .eql 9 (.tmp 25) (.tmp 26) 9, 4, some (23, true), true⟩,
  sw 28 (.pick (.tmp 23) (.tmp 27) (.const (.bool false))) 4]
def cw_attribute_r4 : List Sop := [
  sq 29 (.move (.tmp 0)) 82,
  sq 30 (.move (.tmp 6)) 3,
  sc 31 (.call { callee := .value (.func 37), args := #[.tmp 29, .tmp 30, .const (.int .i64 2)], argTypes := #[82, 3, 3] }) 0]
def cw_attribute_r5 : List Sop := [
  sq 32 (.move (.tmp 0)) 82,
  sq 33 (.nilCheck (.tmp 32)) 0,
  sq 34 (.fieldAddr 84 (.tmp 33) 0) 0,
  sq 35 (.load 69 (.tmp 34)) 69,
  sq 36 (.call { callee := .builtin .len, args := #[.tmp 35], argTypes := #[69] }) 3,
  sw 8 (.assign (.tmp 36)) 3]
def cw_attribute_r6 : List Sop := [
  sq 37 (.move (.tmp 0)) 82,
  sc 38 (.call { callee := .value (.func 37), args := #[.tmp 37, .const (.int .i64 0), .const (.int .i64 4)], argTypes := #[82, 3, 3] }) 0]
def cw_attribute_r7 : List Sop := [
  sq 39 (.move (.tmp 2)) 1,
  sc 40 (.call { callee := .value (.tmp 39), args := #[], argTypes := #[] }) 0]
def cw_attribute_r8 : List (Sop × List Sop) := [
  (sq 41 (.move (.tmp 0)) 82, []),
  (sq 42 (.nilCheck (.tmp 41)) 0, []),
  (sq 43 (.fieldAddr 84 (.tmp 42) 0) 0, []),
  (sq 44 (.load 69 (.tmp 43)) 69, []),
  (sq 45 (.move (.tmp 8)) 3, []),
  (sq 46 (.slice 69 (.tmp 44) (some (.tmp 45)) none none) 69, []),
  (sq 47 (.move (.tmp 0)) 82, []),
  (sq 48 (.nilCheck (.tmp 47)) 0, []),
  (sq 49 (.fieldAddr 84 (.tmp 48) 0) 0, []),
  (sq 50 (.load 69 (.tmp 49)) 69, []),
  (sq 51 (.call { callee := .builtin .len, args := #[.tmp 50], argTypes := #[69] }) 3, []),
  (sq 52 (.move (.tmp 8)) 3, []),
  (sq 53 (.binOp .sub 3 (.tmp 51) (.tmp 52) 3) 3, []),
  (sq 54 (.binOp .sub 3 (.tmp 53) (.const (.int .i64 4)) 3) 3, []),
  (sq 55 (.convert 3 74 (.tmp 54)) 74, []),
  (sc 56 (.call { callee := .value (.func 70), args := #[.tmp 55, .const (.int .i64 4)], argTypes := #[74, 3] }) 9, [sq 42 (.nilCheck (.tmp 41)) 0, sq 43 (.fieldAddr 84 (.tmp 42) 0) 0, sq 44 (.load 69 (.tmp 43)) 69, sq 46 (.slice 69 (.tmp 44) (some (.tmp 45)) none none) 69]),
  (sc 57 (.call { callee := .builtin .copy, args := #[.tmp 46, .tmp 56], argTypes := #[69, 9] }) 3, [])]
def cw_attribute_r9 : List Sop := [
  sq 58 (.binOp .add 3 (.tmp 15) (.const (.int .i64 1)) 3) 3,
  sw 15 (.move (.tmp 58)) 3]
def cw_attribute_r10 : List Sop := [
  sq 59 (.move (.tmp 0)) 82,
  sc 60 (.call { callee := .value (.func 39), args := #[.tmp 59, .const (.int .i64 8)], argTypes := #[82, 27] }) 0]
def cw_attribute_l0 : Cd := .seq (.region cw_attribute_r1) (.seq (.cond (.tmp 16) (.skip) (.exit 0)) (.seq (.block 1 (.seq (.region cw_attribute_r2) (.seq (.region cw_attribute_r3) (.cond (.tmp 28) (.seq (.region cw_attribute_r4) (.seq (.region cw_attribute_r5) (.seq (.region cw_attribute_r6) (.seq (.region cw_attribute_r7) (.seq (.draw cw_attribute_r8) (.ret)))))) (.skip))))) (.region cw_attribute_r9)))
def cw_attribute : Cd := .seq (.seq (.region cw_attribute_r0) (.block 0 (.loop cw_attribute_l0))) (.region cw_attribute_r10)
theorem cw_attribute_calls {args : List Value} {h : Heap} {R : Value → Heap → Prop} (hl : args.length = 3) (hv : Cd.vc Try.prog cw_attribute (retQ Try.prog [] R) (initEnv args [0, 1, 2, 6, 7, 8, 13, 14, 15, 16, 28]) h) : HCalls Try.prog 41 args.toArray h R :=
  hcalls_of_vc (by kernel_rfl) Try.func41 (cd := cw_attribute) (L := [0, 1, 2, 6, 7, 8, 13, 14, 15, 16, 28]) (by kernel_rfl) (by kernel_rfl) ⟨by rw [hl, Try.ntmps41]; decide, by rw [Try.ntmps41]; decide⟩ hv
def cw_attribute_gos := And.intro (@goVc Try.prog _ _ cw_attribute.eq_1) (And.intro (@goOps Try.prog _ _ cw_attribute_r0.eq_1) (And.intro (@goOps Try.prog _ _ cw_attribute_r1.eq_1) (And.intro (@goOps Try.prog _ _ cw_attribute_r2.eq_1) (And.intro (@goOps Try.prog _ _ cw_attribute_r3.eq_1) (And.intro (@goOps Try.prog _ _ cw_attribute_r4.eq_1) (And.intro (@goOps Try.prog _ _ cw_attribute_r5.eq_1) (And.intro (@goOps Try.prog _ _ cw_attribute_r6.eq_1) (And.intro (@goOps Try.prog _ _ cw_attribute_r7.eq_1) (And.intro (@goDraw Try.prog _ _ cw_attribute_r8.eq_1) (And.intro (@goOps Try.prog _ _ cw_attribute_r9.eq_1) (And.intro (@goOps Try.prog _ _ cw_attribute_r10.eq_1) (@goVc Try.prog _ _ cw_attribute_l0.eq_1))))))))))))

/-! (*jvmcore/class.writer).code: function 44: slots [0, 1, 2, 3, 5, 35, 36, 37, 38, 61] -/
def cw_code_r0 : List Sop := [
  sa 2 (.box 82 (.tmp 0)) 0,
  sa 3 (.box 79 (.tmp 1)) 0]
def cw_code_r1 : List Sop := [
  sq 6 (.load 82 (.tmp 2)) 82,
  sq 7 (.fieldAddr 79 (.tmp 3) 0) 0,
  sq 8 (.load 3 (.tmp 7)) 3,
  sc 9 (.call { callee := .value (.func 37), args := #[.tmp 6, .tmp 8, .const (.int .i64 2)], argTypes := #[82, 3, 3] }) 0]
def cw_code_r2 : List Sop := [
  sq 10 (.load 82 (.tmp 2)) 82,
  sq 11 (.fieldAddr 79 (.tmp 3) 1) 0,
  sq 12 (.load 3 (.tmp 11)) 3,
  sc 13 (.call { callee := .value (.func 37), args := #[.tmp 10, .tmp 12, .const (.int .i64 2)], argTypes := #[82, 3, 3] }) 0]
def cw_code_r3 : List Sop := [
  sq 14 (.load 82 (.tmp 2)) 82,
  sq 15 (.fieldAddr 79 (.tmp 3) 2) 0,
  sq 16 (.load 9 (.tmp 15)) 9,
  sq 17 (.call { callee := .builtin .len, args := #[.tmp 16], argTypes := #[9] }) 3,
  sc 18 (.call { callee := .value (.func 37), args := #[.tmp 14, .tmp 17, .const (.int .i64 4)], argTypes := #[82, 3, 3] }) 0]
def cw_code_r4 : List (Sop × List Sop) := [
  (sq 19 (.load 82 (.tmp 2)) 82, []),
  (sq 20 (.load 82 (.tmp 2)) 82, []),
  (sq 21 (.nilCheck (.tmp 20)) 0, []),
  (sq 22 (.fieldAddr 84 (.tmp 21) 0) 0, []),
  (sq 23 (.load 69 (.tmp 22)) 69, []),
  (sq 24 (.fieldAddr 79 (.tmp 3) 2) 0, []),
  (sq 25 (.load 9 (.tmp 24)) 9, []),
  (sc 26 (.call { callee := .builtin .append, args := #[.tmp 23, .tmp 25], argTypes := #[69, 9] }) 69, [sq 19 (.load 82 (.tmp 2)) 82]),
  (sq 27 (.nilCheck (.tmp 19)) 0, []),
  (sq 28 (.fieldAddr 84 (.tmp 27) 0) 0, []),
  (ss (.store 69 (.tmp 28) (.tmp 26)), [])]
def cw_code_r5 : List Sop := [
  sq 29 (.load 82 (.tmp 2)) 82,
  sq 30 (.fieldAddr 79 (.tmp 3) 3) 0,
  sq 31 (.load 77 (.tmp 30)) 77,
  sq 32 (.call { callee := .builtin .len, args := #[.tmp 31], argTypes := #[77] }) 3,
  sc 33 (.call { callee := .value (.func 37), args := #[.tmp 29, .tmp 32, .const (.int .i64 2)], argTypes := #[82, 3, 3] }) 0]
def cw_code_r6 : List Sop := [
  sq 34 (.fieldAddr 79 (.tmp 3) 3) 0,
  sw 35 (.load 77 (.tmp 34)) 77,
  sw 36 (.call { callee := .builtin .len, args := #[.tmp 35], argTypes := #[77] }) 3,
  sw 37 (.move (.const (.int .i64 0))) 3]
def cw_code_r7 : List Sop := [
  sw 38 (.binOp .lss 3 (.tmp 37) (.tmp 36) 3) 0]
def cw_code_r8 : List Sop := [
  sq 39 (.indexAddr 77 (.tmp 35) (.tmp 37)) 0,
  sq 40 (.load 132 (.tmp 39)) 132,
  sa 5 (.alloc 132) 0,
  ss (.store 132 (.tmp 5) (.tmp 40))]
def cw_code_r9 : List Sop := [
  sq 41 (.load 82 (.tmp 2)) 82,
  sq 42 (.fieldAddr 132 (.tmp 5) 0) 0,
  sq 43 (.load 3 (.tmp 42)) 3,
  sc 44 (.call { callee := .value (.func 37), args := #[.tmp 41, .tmp 43, .const (.int .i64 2)], argTypes := #[82, 3, 3] }) 0]
def cw_code_r10 : List Sop := [
  sq 45 (.load 82 (.tmp 2)) 82,
  sq 46 (.fieldAddr 132 (.tmp 5) 1) 0,
  sq 47 (.load 3 (.tmp 46)) 3,
  sc 48 (.call { callee := .value (.func 37), args := #[.tmp 45, .tmp 47, .const (.int .i64 2)], argTypes := #[82, 3, 3] }) 0]
def cw_code_r11 : List Sop := [
  sq 49 (.load 82 (.tmp 2)) 82,
  sq 50 (.fieldAddr 132 (.tmp 5) 2) 0,
  sq 51 (.load 3 (.tmp 50)) 3,
  sc 52 (.call { callee := .value (.func 37), args := #[.tmp 49, .tmp 51, .const (.int .i64 2)], argTypes := #[82, 3, 3] }) 0]
def cw_code_r12 : List Sop := [
  sq 53 (.load 82 (.tmp 2)) 82,
  sq 54 (.fieldAddr 132 (.tmp 5) 3) 0,
  sq 55 (.load 38 (.tmp 54)) 38,
  sc 56 (.buildSlice 39 1 #[(0, .tmp 55)]) 39,
  sc 57 (.call { callee := .value (.func 38), args := #[.tmp 53, .tmp 56], argTypes := #[82, 39] }) 0]
def cw_code_r13 : List Sop := [
  sq 58 (.binOp .add 3 (.tmp 37) (.const (.int .i64 1)) 3) 3,
  sw 37 (.move (.tmp 58)) 3]
def cw_code_r14 : List Sop := [
  sq 59 (.fieldAddr 79 (.tmp 3) 4) 0,
  sq 60 (.load 9 (.tmp 59)) 9,
  sw 61 (.binOp .eql 9 (.tmp 60) (.const (.string { data := #[] })) 9) 4]
def cw_code_r15 : List Sop := [
  sq 62 (.load 82 (.tmp 2)) 82,
  sc 63 (.call { callee := .value (.func 37), args := #[.tmp 62, .const (.int .i64 0), .const (.int .i64 2)], argTypes := #[82, 3, 3] }) 0]
def cw_code_r16 : List Sop := [
  sq 64 (.load 82 (.tmp 2)) 82,
  sc 65 (.call { callee := .value (.func 37), args := #[.tmp 64, .const (.int .i64 1), .const (.int .i64 2)], argTypes := #[82, 3, 3] }) 0]
def cw_code_r17 : List Sop := [
  sq 66 (.load 82 (.tmp 2)) 82,
  sq 67 (.makeFunc (.func 74) #[] #[.tmp 2, .tmp 3]) 1,
  sc 68 (.call { callee := .value (.func 41), args := #[.tmp 66, .const (.string { data := #[83, 116, 97, 99, 107, 77, 97, 112, 84, 97, 98, 108, 101] }), .tmp 67], argTypes := #[82, 9, 1] }) 0]
def cw_code_l0 : Cd := .seq (.region cw_code_r7) (.seq (.cond (.tmp 38) (.skip) (.exit 0)) (.seq (.block 1 (.seq (.region cw_code_r8) (.seq (.region cw_code_r9) (.seq (.region cw_code_r10) (.seq (.region cw_code_r11) (.region cw_code_r12)))))) (.region cw_code_r13)))
def cw_code : Cd := .seq (.region cw_code_r0) (.seq (.region cw_code_r1) (.seq (.region cw_code_r2) (.seq (.region cw_code_r3) (.seq (.draw cw_code_r4) (.seq (.region cw_code_r5) (.seq (.seq (.region cw_code_r6) (.block 0 (.loop cw_code_l0))) (.seq (.seq (.region cw_code_r14) (.cond (.tmp 61) (.seq (.region cw_code_r15) (.ret)) (.skip))) (.seq (.region cw_code_r16) (.region cw_code_r17)))))))))
theorem cw_code_calls {args : List Value} {h : Heap} {R : Value → Heap → Prop} (hl : args.length = 2) (hv : Cd.vc Try.prog cw_code (retQ Try.prog [] R) (initEnv args [0, 1, 2, 3, 5, 35, 36, 37, 38, 61]) h) : HCalls Try.prog 44 args.toArray h R :=
  hcalls_of_vc (by kernel_rfl) Try.func44 (cd := cw_code) (L := [0, 1, 2, 3, 5, 35, 36, 37, 38, 61]) (by kernel_rfl) (by kernel_rfl) ⟨by rw [hl, Try.ntmps44]; decide, by rw [Try.ntmps44]; decide⟩ hv
def cw_code_gos := And.intro (@goVc Try.prog _ _ cw_code.eq_1) (And.intro (@goOps Try.prog _ _ cw_code_r0.eq_1) (And.intro (@goOps Try.prog _ _ cw_code_r1.eq_1) (And.intro (@goOps Try.prog _ _ cw_code_r2.eq_1) (And.intro (@goOps Try.prog _ _ cw_code_r3.eq_1) (And.intro (@goDraw Try.prog _ _ cw_code_r4.eq_1) (And.intro (@goOps Try.prog _ _ cw_code_r5.eq_1) (And.intro (@goOps Try.prog _ _ cw_code_r6.eq_1) (And.intro (@goOps Try.prog _ _ cw_code_r7.eq_1) (And.intro (@goOps Try.prog _ _ cw_code_r8.eq_1) (And.intro (@goOps Try.prog _ _ cw_code_r9.eq_1) (And.intro (@goOps Try.prog _ _ cw_code_r10.eq_1) (And.intro (@goOps Try.prog _ _ cw_code_r11.eq_1) (And.intro (@goOps Try.prog _ _ cw_code_r12.eq_1) (And.intro (@goOps Try.prog _ _ cw_code_r13.eq_1) (And.intro (@goOps Try.prog _ _ cw_code_r14.eq_1) (And.intro (@goOps Try.prog _ _ cw_code_r15.eq_1) (And.intro (@goOps Try.prog _ _ cw_code_r16.eq_1) (And.intro (@goOps Try.prog _ _ cw_code_r17.eq_1) (@goVc Try.prog _ _ cw_code_l0.eq_1)))))))))))))))))))

/-! (*jvmcore/class.writer).code.1: function 74: slots [0, 1] -/
def cw_code_1_r0 : List (Sop × List Sop) := [
  (sq 2 (.load 82 (.tmp 0)) 82, []),
  (sq 3 (.load 82 (.tmp 0)) 82, []),
  (sq 4 (.nilCheck (.tmp 3)) 0, []),
  (sq 5 (.fieldAddr 84 (.tmp 4) 0) 0, []),
  (sq 6 (.load 69 (.tmp 5)) 69, []),
  (sq 7 (.fieldAddr 79 (.tmp 1) 4) 0, []),
  (sq 8 (.load 9 (.tmp 7)) 9, []),
  (sc 9 (.call { callee := .builtin .append, args := #[.tmp 6, .tmp 8], argTypes := #[69, 9] }) 69, [sq 2 (.load 82 (.tmp 0)) 82]),
  (sq 10 (.nilCheck (.tmp 2)) 0, []),
  (sq 11 (.fieldAddr 84 (.tmp 10) 0) 0, []),
  (ss (.store 69 (.tmp 11) (.tmp 9)), [])]
def cw_code_1 : Cd := .draw cw_code_1_r0
theorem cw_code_1_calls {args : List Value} {h : Heap} {R : Value → Heap → Prop} (hl : args.length = 2) (hv : Cd.vc Try.prog cw_code_1 (retQ Try.prog [] R) (initEnv args [0, 1]) h) : HCalls Try.prog 74 args.toArray h R :=
  hcalls_of_vc (by kernel_rfl) Try.func74 (cd := cw_code_1) (L := [0, 1]) (by kernel_rfl) (by kernel_rfl) ⟨by rw [hl, Try.ntmps74]; decide, by rw [Try.ntmps74]; decide⟩ hv
def cw_code_1_gos := And.intro (@goVc Try.prog _ _ cw_code_1.eq_1) (@goDraw Try.prog _ _ cw_code_1_r0.eq_1)

end Go.Proofs.Ytohkbpnblkkdgaa.C
