/- The stripped code of some functions of this seat's program, printed by a program; that it is that code is proved by the kernel. No condition. -/

import Derived.Test.YtjpcpkhegjndeaaProg

import Derived.Test.YtjpcpkhegjndeaaVcH

set_option maxRecDepth 100000

set_option linter.defProp false

namespace Go.Proofs.Ytjpcpkhegjndeaa.C

open Go.Vc

/-! jvmcore/code.form: function 14: slots [0, 2, 3, 6, 9, 12, 43, 58, 61, 76, 79, 82, 85, 88, 91, 94, 97] -/
def code_form_r0 : List Sop := [
  ⟨some (2, true), .assign (.const (.int .i64 0)), 3, none, true⟩]
theorem code_form_r0_go {K : Env → Heap → Prop} {τ ρ : Env} {h : Heap} : vcOps Try.prog K code_form_r0 τ ρ h = vcOps Try.prog K [
  ⟨some (2, true), .assign (.const (.int .i64 0)), 3, none, true⟩] τ ρ h := _root_.id rfl
def code_form_r1 : List Sop := [
  ⟨some (4, false), .move (.tmp 0), 5, none, true⟩,
  ⟨some (5, false), .binOp .eql 5 (.tmp 4) (.const (.int .u8 16)) 5, 4, none, true⟩,
  ⟨some (3, true), .assign (.tmp 5), 4, none, true⟩]
theorem code_form_r1_go {K : Env → Heap → Prop} {τ ρ : Env} {h : Heap} : vcOps Try.prog K code_form_r1 τ ρ h = vcOps Try.prog K [
  ⟨some (4, false), .move (.tmp 0), 5, none, true⟩,
  ⟨some (5, false), .binOp .eql 5 (.tmp 4) (.const (.int .u8 16)) 5, 4, none, true⟩,
  ⟨some (3, true), .assign (.tmp 5), 4, none, true⟩] τ ρ h := _root_.id rfl
def code_form_r2 : List Sop := [
  ⟨some (2, true), .assign (.const (.int .i64 2)), 3, none, true⟩]
theorem code_form_r2_go {K : Env → Heap → Prop} {τ ρ : Env} {h : Heap} : vcOps Try.prog K code_form_r2 τ ρ h = vcOps Try.prog K [
  ⟨some (2, true), .assign (.const (.int .i64 2)), 3, none, true⟩] τ ρ h := _root_.id rfl
def code_form_r3 : List Sop := [
  ⟨some (7, false), .move (.tmp 0), 5, none, true⟩,
  ⟨some (8, false), .binOp .eql 5 (.tmp 7) (.const (.int .u8 17)) 5, 4, none, true⟩,
  ⟨some (6, true), .assign (.tmp 8), 4, none, true⟩]
theorem code_form_r3_go {K : Env → Heap → Prop} {τ ρ : Env} {h : Heap} : vcOps Try.prog K code_form_r3 τ ρ h = vcOps Try.prog K [
  ⟨some (7, false), .move (.tmp 0), 5, none, true⟩,
  ⟨some (8, false), .binOp .eql 5 (.tmp 7) (.const (.int .u8 17)) 5, 4, none, true⟩,
  ⟨some (6, true), .assign (.tmp 8), 4, none, true⟩] τ ρ h := _root_.id rfl
def code_form_r4 : List Sop := [
  ⟨some (2, true), .assign (.const (.int .i64 3)), 3, none, true⟩]
theorem code_form_r4_go {K : Env → Heap → Prop} {τ ρ : Env} {h : Heap} : vcOps Try.prog K code_form_r4 τ ρ h = vcOps Try.prog K [
  ⟨some (2, true), .assign (.const (.int .i64 3)), 3, none, true⟩] τ ρ h := _root_.id rfl
def code_form_r5 : List Sop := [
  ⟨some (10, false), .move (.tmp 0), 5, none, true⟩,
  ⟨some (11, false), .binOp .eql 5 (.tmp 10) (.const (.int .u8 18)) 5, 4, none, true⟩,
  ⟨some (9, true), .assign (.tmp 11), 4, none, true⟩]
theorem code_form_r5_go {K : Env → Heap → Prop} {τ ρ : Env} {h : Heap} : vcOps Try.prog K code_form_r5 τ ρ h = vcOps Try.prog K [
  ⟨some (10, false), .move (.tmp 0), 5, none, true⟩,
  ⟨some (11, false), .binOp .eql 5 (.tmp 10) (.const (.int .u8 18)) 5, 4, none, true⟩,
  ⟨some (9, true), .assign (.tmp 11), 4, none, true⟩] τ ρ h := _root_.id rfl
def code_form_r6 : List Sop := [
  ⟨some (2, true), .assign (.const (.int .i64 4)), 3, none, true⟩]
theorem code_form_r6_go {K : Env → Heap → Prop} {τ ρ : Env} {h : Heap} : vcOps Try.prog K code_form_r6 τ ρ h = vcOps Try.prog K [
  ⟨some (2, true), .assign (.const (.int .i64 4)), 3, none, true⟩] τ ρ h := _root_.id rfl
def code_form_r7 : List Sop := [
  ⟨some (13, false), .move (.tmp 0), 5, none, true⟩,
  ⟨some (14, false), .binOp .eql 5 (.tmp 13) (.const (.int .u8 19)) 5, 4, none, true⟩,
  ⟨some (15, false), .move (.tmp 14), 4, none, true⟩,
  ⟨some (16, false), .move (.tmp 0), 5, some (15, false), true⟩,
  ⟨some (17, false), .binOp .eql 5 (.tmp 16) (.const (.int .u8 20)) 5, 4, some (15, false), true⟩,
  ⟨some (18, false), .pick (.tmp 15) (.const (.bool true)) (.tmp 17), 4, none, true⟩,
  ⟨some (19, false), .move (.tmp 18), 4, none, true⟩,
  ⟨some (20, false), .move (.tmp 0), 5, some (19, false), true⟩,
  ⟨some (21, false), .binOp .geq 5 (.tmp 20) (.const (.int .u8 178)) 5, 4, some (19, false), true⟩,
  ⟨some (22, false), .move (.tmp 21), 4, some (19, false), true⟩,
  ⟨some (23, false), .move (.tmp 0), 5, some (22, true), true⟩,
  ⟨some (24, false), .binOp .leq 5 (.tmp 23) (.const (.int .u8 184)) 5, 4, some (22, true), true⟩,
  ⟨some (25, false), .pick (.tmp 22) (.tmp 24) (.const (.bool false)), 4, some (19, false), true⟩,
  ⟨some (26, false), .pick (.tmp 19) (.const (.bool true)) (.tmp 25), 4, none, true⟩,
  ⟨some (27, false), .move (.tmp 26), 4, none, true⟩,
  ⟨some (28, false), .move (.tmp 0), 5, some (27, false), true⟩,
  ⟨some (29, false), .binOp .eql 5 (.tmp 28) (.const (.int .u8 187)) 5, 4, some (27, false), true⟩,
  ⟨some (30, false), .pick (.tmp 27) (.const (.bool true)) (.tmp 29), 4, none, true⟩,
  ⟨some (31, false), .move (.tmp 30), 4, none, true⟩,
  ⟨some (32, false), .move (.tmp 0), 5, some (31, false), true⟩,
  ⟨some (33, false), .binOp .eql 5 (.tmp 32) (.const (.int .u8 189)) 5, 4, some (31, false), true⟩,
  ⟨some (34, false), .pick (.tmp 31) (.const (.bool true)) (.tmp 33), 4, none, true⟩,
  ⟨some (35, false), .move (.tmp 34), 4, none, true⟩,
  ⟨some (36, false), .move (.tmp 0), 5, some (35, false), true⟩,
  ⟨some (37, false), .binOp .eql 5 (.tmp 36) (.const (.int .u8 192)) 5, 4, some (35, false), true⟩,
  ⟨some (38, false), .pick (.tmp 35) (.const (.bool true)) (.tmp 37), 4, none, true⟩,
  ⟨some (39, false), .move (.tmp 38), 4, none, true⟩,
  ⟨some (40, false), .move (.tmp 0), 5, some (39, false), true⟩,
  ⟨some (41, false), .binOp .eql 5 (.tmp 40) (.const (.int .u8 193)) 5, 4, some (39, false), true⟩,
  ⟨some (42, false), .pick (.tmp 39) (.const (.bool true)) (.tmp 41), 4, none, true⟩,
  ⟨some (12, true), .assign (.tmp 42), 4, none, true⟩]
theorem code_form_r7_go {K : Env → Heap → Prop} {τ ρ : Env} {h : Heap} : vcOps Try.prog K code_form_r7 τ ρ h = vcOps Try.prog K [
  ⟨some (13, false), .move (.tmp 0), 5, none, true⟩,
  ⟨some (14, false), .binOp .eql 5 (.tmp 13) (.const (.int .u8 19)) 5, 4, none, true⟩,
  ⟨some (15, false), .move (.tmp 14), 4, none, true⟩,
  ⟨some (16, false), .move (.tmp 0), 5, some (15, false), true⟩,
  ⟨some (17, false), .binOp .eql 5 (.tmp 16) (.const (.int .u8 20)) 5, 4, some (15, false), true⟩,
  ⟨some (18, false), .pick (.tmp 15) (.const (.bool true)) (.tmp 17), 4, none, true⟩,
  ⟨some (19, false), .move (.tmp 18), 4, none, true⟩,
  ⟨some (20, false), .move (.tmp 0), 5, some (19, false), true⟩,
  ⟨some (21, false), .binOp .geq 5 (.tmp 20) (.const (.int .u8 178)) 5, 4, some (19, false), true⟩,
  ⟨some (22, false), .move (.tmp 21), 4, some (19, false), true⟩,
  ⟨some (23, false), .move (.tmp 0), 5, some (22, true), true⟩,
  ⟨some (24, false), .binOp .leq 5 (.tmp 23) (.const (.int .u8 184)) 5, 4, some (22, true), true⟩,
  ⟨some (25, false), .pick (.tmp 22) (.tmp 24) (.const (.bool false)), 4, some (19, false), true⟩,
  ⟨some (26, false), .pick (.tmp 19) (.const (.bool true)) (.tmp 25), 4, none, true⟩,
  ⟨some (27, false), .move (.tmp 26), 4, none, true⟩,
  ⟨some (28, false), .move (.tmp 0), 5, some (27, false), true⟩,
  ⟨some (29, false), .binOp .eql 5 (.tmp 28) (.const (.int .u8 187)) 5, 4, some (27, false), true⟩,
  ⟨some (30, false), .pick (.tmp 27) (.const (.bool true)) (.tmp 29), 4, none, true⟩,
  ⟨some (31, false), .move (.tmp 30), 4, none, true⟩,
  ⟨some (32, false), .move (.tmp 0), 5, some (31, false), true⟩,
  ⟨some (33, false), .binOp .eql 5 (.tmp 32) (.const (.int .u8 189)) 5, 4, some (31, false), true⟩,
  ⟨some (34, false), .pick (.tmp 31) (.const (.bool true)) (.tmp 33), 4, none, true⟩,
  ⟨some (35, false), .move (.tmp 34), 4, none, true⟩,
  ⟨some (36, false), .move (.tmp 0), 5, some (35, false), true⟩,
  ⟨some (37, false), .binOp .eql 5 (.tmp 36) (.const (.int .u8 192)) 5, 4, some (35, false), true⟩,
  ⟨some (38, false), .pick (.tmp 35) (.const (.bool true)) (.tmp 37), 4, none, true⟩,
  ⟨some (39, false), .move (.tmp 38), 4, none, true⟩,
  ⟨some (40, false), .move (.tmp 0), 5, some (39, false), true⟩,
  ⟨some (41, false), .binOp .eql 5 (.tmp 40) (.const (.int .u8 193)) 5, 4, some (39, false), true⟩,
  ⟨some (42, false), .pick (.tmp 39) (.const (.bool true)) (.tmp 41), 4, none, true⟩,
  ⟨some (12, true), .assign (.tmp 42), 4, none, true⟩] τ ρ h := _root_.id rfl
def code_form_r8 : List Sop := [
  ⟨some (2, true), .assign (.const (.int .i64 5)), 3, none, true⟩]
theorem code_form_r8_go {K : Env → Heap → Prop} {τ ρ : Env} {h : Heap} : vcOps Try.prog K code_form_r8 τ ρ h = vcOps Try.prog K [
  ⟨some (2, true), .assign (.const (.int .i64 5)), 3, none, true⟩] τ ρ h := _root_.id rfl
def code_form_r9 : List Sop := [
  ⟨some (44, false), .move (.tmp 0), 5, none, true⟩,
  ⟨some (45, false), .binOp .geq 5 (.tmp 44) (.const (.int .u8 21)) 5, 4, none, true⟩,
  ⟨some (46, false), .move (.tmp 45), 4, none, true⟩,
  ⟨some (47, false), .move (.tmp 0), 5, some (46, true), true⟩,
  ⟨some (48, false), .binOp .leq 5 (.tmp 47) (.const (.int .u8 25)) 5, 4, some (46, true), true⟩,
  ⟨some (49, false), .pick (.tmp 46) (.tmp 48) (.const (.bool false)), 4, none, true⟩,
  ⟨some (50, false), .move (.tmp 49), 4, none, true⟩,
  ⟨some (51, false), .move (.tmp 0), 5, some (50, false), true⟩,
  ⟨some (52, false), .binOp .geq 5 (.tmp 51) (.const (.int .u8 54)) 5, 4, some (50, false), true⟩,
  ⟨some (53, false), .move (.tmp 52), 4, some (50, false), true⟩,
  ⟨some (54, false), .move (.tmp 0), 5, some (53, true), true⟩,
  ⟨some (55, false), .binOp .leq 5 (.tmp 54) (.const (.int .u8 58)) 5, 4, some (53, true), true⟩,
  ⟨some (56, false), .pick (.tmp 53) (.tmp 55) (.const (.bool false)), 4, some (50, false), true⟩,
  ⟨some (57, false), .pick (.tmp 50) (.const (.bool true)) (.tmp 56), 4, none, true⟩,
  ⟨some (43, true), .assign (.tmp 57), 4, none, true⟩]
theorem code_form_r9_go {K : Env → Heap → Prop} {τ ρ : Env} {h : Heap} : vcOps Try.prog K code_form_r9 τ ρ h = vcOps Try.prog K [
  ⟨some (44, false), .move (.tmp 0), 5, none, true⟩,
  ⟨some (45, false), .binOp .geq 5 (.tmp 44) (.const (.int .u8 21)) 5, 4, none, true⟩,
  ⟨some (46, false), .move (.tmp 45), 4, none, true⟩,
  ⟨some (47, false), .move (.tmp 0), 5, some (46, true), true⟩,
  ⟨some (48, false), .binOp .leq 5 (.tmp 47) (.const (.int .u8 25)) 5, 4, some (46, true), true⟩,
  ⟨some (49, false), .pick (.tmp 46) (.tmp 48) (.const (.bool false)), 4, none, true⟩,
  ⟨some (50, false), .move (.tmp 49), 4, none, true⟩,
  ⟨some (51, false), .move (.tmp 0), 5, some (50, false), true⟩,
  ⟨some (52, false), .binOp .geq 5 (.tmp 51) (.const (.int .u8 54)) 5, 4, some (50, false), true⟩,
  ⟨some (53, false), .move (.tmp 52), 4, some (50, false), true⟩,
  ⟨some (54, false), .move (.tmp 0), 5, some (53, true), true⟩,
  ⟨some (55, false), .binOp .leq 5 (.tmp 54) (.const (.int .u8 58)) 5, 4, some (53, true), true⟩,
  ⟨some (56, false), .pick (.tmp 53) (.tmp 55) (.const (.bool false)), 4, some (50, false), true⟩,
  ⟨some (57, false), .pick (.tmp 50) (.const (.bool true)) (.tmp 56), 4, none, true⟩,
  ⟨some (43, true), .assign (.tmp 57), 4, none, true⟩] τ ρ h := _root_.id rfl
def code_form_r10 : List Sop := [
  ⟨some (2, true), .assign (.const (.int .i64 6)), 3, none, true⟩]
theorem code_form_r10_go {K : Env → Heap → Prop} {τ ρ : Env} {h : Heap} : vcOps Try.prog K code_form_r10 τ ρ h = vcOps Try.prog K [
  ⟨some (2, true), .assign (.const (.int .i64 6)), 3, none, true⟩] τ ρ h := _root_.id rfl
def code_form_r11 : List Sop := [
  ⟨some (59, false), .move (.tmp 0), 5, none, true⟩,
  ⟨some (60, false), .binOp .eql 5 (.tmp 59) (.const (.int .u8 132)) 5, 4, none, true⟩,
  ⟨some (58, true), .assign (.tmp 60), 4, none, true⟩]
theorem code_form_r11_go {K : Env → Heap → Prop} {τ ρ : Env} {h : Heap} : vcOps Try.prog K code_form_r11 τ ρ h = vcOps Try.prog K [
  ⟨some (59, false), .move (.tmp 0), 5, none, true⟩,
  ⟨some (60, false), .binOp .eql 5 (.tmp 59) (.const (.int .u8 132)) 5, 4, none, true⟩,
  ⟨some (58, true), .assign (.tmp 60), 4, none, true⟩] τ ρ h := _root_.id rfl
def code_form_r12 : List Sop := [
  ⟨some (2, true), .assign (.const (.int .i64 7)), 3, none, true⟩]
theorem code_form_r12_go {K : Env → Heap → Prop} {τ ρ : Env} {h : Heap} : vcOps Try.prog K code_form_r12 τ ρ h = vcOps Try.prog K [
  ⟨some (2, true), .assign (.const (.int .i64 7)), 3, none, true⟩] τ ρ h := _root_.id rfl
def code_form_r13 : List Sop := [
  ⟨some (62, false), .move (.tmp 0), 5, none, true⟩,
  ⟨some (63, false), .binOp .geq 5 (.tmp 62) (.const (.int .u8 153)) 5, 4, none, true⟩,
  ⟨some (64, false), .move (.tmp 63), 4, none, true⟩,
  ⟨some (65, false), .move (.tmp 0), 5, some (64, true), true⟩,
  ⟨some (66, false), .binOp .leq 5 (.tmp 65) (.const (.int .u8 167)) 5, 4, some (64, true), true⟩,
  ⟨some (67, false), .pick (.tmp 64) (.tmp 66) (.const (.bool false)), 4, none, true⟩,
  ⟨some (68, false), .move (.tmp 67), 4, none, true⟩,
  ⟨some (69, false), .move (.tmp 0), 5, some (68, false), true⟩,
  ⟨some (70, false), .binOp .eql 5 (.tmp 69) (.const (.int .u8 198)) 5, 4, some (68, false), true⟩,
  ⟨some (71, false), .pick (.tmp 68) (.const (.bool true)) (.tmp 70), 4, none, true⟩,
  ⟨some (72, false), .move (.tmp 71), 4, none, true⟩,
  ⟨some (73, false), .move (.tmp 0), 5, some (72, false), true⟩,
  ⟨some (74, false), .binOp .eql 5 (.tmp 73) (.const (.int .u8 199)) 5, 4, some (72, false), true⟩,
  ⟨some (75, false), .pick (.tmp 72) (.const (.bool true)) (.tmp 74), 4, none, true⟩,
  ⟨some (61, true), .assign (.tmp 75), 4, none, true⟩]
theorem code_form_r13_go {K : Env → Heap → Prop} {τ ρ : Env} {h : Heap} : vcOps Try.prog K code_form_r13 τ ρ h = vcOps Try.prog K [
  ⟨some (62, false), .move (.tmp 0), 5, none, true⟩,
  ⟨some (63, false), .binOp .geq 5 (.tmp 62) (.const (.int .u8 153)) 5, 4, none, true⟩,
  ⟨some (64, false), .move (.tmp 63), 4, none, true⟩,
  ⟨some (65, false), .move (.tmp 0), 5, some (64, true), true⟩,
  ⟨some (66, false), .binOp .leq 5 (.tmp 65) (.const (.int .u8 167)) 5, 4, some (64, true), true⟩,
  ⟨some (67, false), .pick (.tmp 64) (.tmp 66) (.const (.bool false)), 4, none, true⟩,
  ⟨some (68, false), .move (.tmp 67), 4, none, true⟩,
  ⟨some (69, false), .move (.tmp 0), 5, some (68, false), true⟩,
  ⟨some (70, false), .binOp .eql 5 (.tmp 69) (.const (.int .u8 198)) 5, 4, some (68, false), true⟩,
  ⟨some (71, false), .pick (.tmp 68) (.const (.bool true)) (.tmp 70), 4, none, true⟩,
  ⟨some (72, false), .move (.tmp 71), 4, none, true⟩,
  ⟨some (73, false), .move (.tmp 0), 5, some (72, false), true⟩,
  ⟨some (74, false), .binOp .eql 5 (.tmp 73) (.const (.int .u8 199)) 5, 4, some (72, false), true⟩,
  ⟨some (75, false), .pick (.tmp 72) (.const (.bool true)) (.tmp 74), 4, none, true⟩,
  ⟨some (61, true), .assign (.tmp 75), 4, none, true⟩] τ ρ h := _root_.id rfl
def code_form_r14 : List Sop := [
  ⟨some (2, true), .assign (.const (.int .i64 8)), 3, none, true⟩]
theorem code_form_r14_go {K : Env → Heap → Prop} {τ ρ : Env} {h : Heap} : vcOps Try.prog K code_form_r14 τ ρ h = vcOps Try.prog K [
  ⟨some (2, true), .assign (.const (.int .i64 8)), 3, none, true⟩] τ ρ h := _root_.id rfl
def code_form_r15 : List Sop := [
  ⟨some (77, false), .move (.tmp 0), 5, none, true⟩,
  ⟨some (78, false), .binOp .eql 5 (.tmp 77) (.const (.int .u8 200)) 5, 4, none, true⟩,
  ⟨some (76, true), .assign (.tmp 78), 4, none, true⟩]
theorem code_form_r15_go {K : Env → Heap → Prop} {τ ρ : Env} {h : Heap} : vcOps Try.prog K code_form_r15 τ ρ h = vcOps Try.prog K [
  ⟨some (77, false), .move (.tmp 0), 5, none, true⟩,
  ⟨some (78, false), .binOp .eql 5 (.tmp 77) (.const (.int .u8 200)) 5, 4, none, true⟩,
  ⟨some (76, true), .assign (.tmp 78), 4, none, true⟩] τ ρ h := _root_.id rfl
def code_form_r16 : List Sop := [
  ⟨some (2, true), .assign (.const (.int .i64 9)), 3, none, true⟩]
theorem code_form_r16_go {K : Env → Heap → Prop} {τ ρ : Env} {h : Heap} : vcOps Try.prog K code_form_r16 τ ρ h = vcOps Try.prog K [
  ⟨some (2, true), .assign (.const (.int .i64 9)), 3, none, true⟩] τ ρ h := _root_.id rfl
def code_form_r17 : List Sop := [
  ⟨some (80, false), .move (.tmp 0), 5, none, true⟩,
  ⟨some (81, false), .binOp .eql 5 (.tmp 80) (.const (.int .u8 170)) 5, 4, none, true⟩,
  ⟨some (79, true), .assign (.tmp 81), 4, none, true⟩]
theorem code_form_r17_go {K : Env → Heap → Prop} {τ ρ : Env} {h : Heap} : vcOps Try.prog K code_form_r17 τ ρ h = vcOps Try.prog K [
  ⟨some (80, false), .move (.tmp 0), 5, none, true⟩,
  ⟨some (81, false), .binOp .eql 5 (.tmp 80) (.const (.int .u8 170)) 5, 4, none, true⟩,
  ⟨some (79, true), .assign (.tmp 81), 4, none, true⟩] τ ρ h := _root_.id rfl
def code_form_r18 : List Sop := [
  ⟨some (2, true), .assign (.const (.int .i64 10)), 3, none, true⟩]
theorem code_form_r18_go {K : Env → Heap → Prop} {τ ρ : Env} {h : Heap} : vcOps Try.prog K code_form_r18 τ ρ h = vcOps Try.prog K [
  ⟨some (2, true), .assign (.const (.int .i64 10)), 3, none, true⟩] τ ρ h := _root_.id rfl
def code_form_r19 : List Sop := [
  ⟨some (83, false), .move (.tmp 0), 5, none, true⟩,
  ⟨some (84, false), .binOp .eql 5 (.tmp 83) (.const (.int .u8 171)) 5, 4, none, true⟩,
  ⟨some (82, true), .assign (.tmp 84), 4, none, true⟩]
theorem code_form_r19_go {K : Env → Heap → Prop} {τ ρ : Env} {h : Heap} : vcOps Try.prog K code_form_r19 τ ρ h = vcOps Try.prog K [
  ⟨some (83, false), .move (.tmp 0), 5, none, true⟩,
  ⟨some (84, false), .binOp .eql 5 (.tmp 83) (.const (.int .u8 171)) 5, 4, none, true⟩,
  ⟨some (82, true), .assign (.tmp 84), 4, none, true⟩] τ ρ h := _root_.id rfl
def code_form_r20 : List Sop := [
  ⟨some (2, true), .assign (.const (.int .i64 11)), 3, none, true⟩]
theorem code_form_r20_go {K : Env → Heap → Prop} {τ ρ : Env} {h : Heap} : vcOps Try.prog K code_form_r20 τ ρ h = vcOps Try.prog K [
  ⟨some (2, true), .assign (.const (.int .i64 11)), 3, none, true⟩] τ ρ h := _root_.id rfl
def code_form_r21 : List Sop := [
  ⟨some (86, false), .move (.tmp 0), 5, none, true⟩,
  ⟨some (87, false), .binOp .eql 5 (.tmp 86) (.const (.int .u8 185)) 5, 4, none, true⟩,
  ⟨some (85, true), .assign (.tmp 87), 4, none, true⟩]
theorem code_form_r21_go {K : Env → Heap → Prop} {τ ρ : Env} {h : Heap} : vcOps Try.prog K code_form_r21 τ ρ h = vcOps Try.prog K [
  ⟨some (86, false), .move (.tmp 0), 5, none, true⟩,
  ⟨some (87, false), .binOp .eql 5 (.tmp 86) (.const (.int .u8 185)) 5, 4, none, true⟩,
  ⟨some (85, true), .assign (.tmp 87), 4, none, true⟩] τ ρ h := _root_.id rfl
def code_form_r22 : List Sop := [
  ⟨some (2, true), .assign (.const (.int .i64 12)), 3, none, true⟩]
theorem code_form_r22_go {K : Env → Heap → Prop} {τ ρ : Env} {h : Heap} : vcOps Try.prog K code_form_r22 τ ρ h = vcOps Try.prog K [
  ⟨some (2, true), .assign (.const (.int .i64 12)), 3, none, true⟩] τ ρ h := _root_.id rfl
def code_form_r23 : List Sop := [
  ⟨some (89, false), .move (.tmp 0), 5, none, true⟩,
  ⟨some (90, false), .binOp .eql 5 (.tmp 89) (.const (.int .u8 188)) 5, 4, none, true⟩,
  ⟨some (88, true), .assign (.tmp 90), 4, none, true⟩]
theorem code_form_r23_go {K : Env → Heap → Prop} {τ ρ : Env} {h : Heap} : vcOps Try.prog K code_form_r23 τ ρ h = vcOps Try.prog K [
  ⟨some (89, false), .move (.tmp 0), 5, none, true⟩,
  ⟨some (90, false), .binOp .eql 5 (.tmp 89) (.const (.int .u8 188)) 5, 4, none, true⟩,
  ⟨some (88, true), .assign (.tmp 90), 4, none, true⟩] τ ρ h := _root_.id rfl
def code_form_r24 : List Sop := [
  ⟨some (2, true), .assign (.const (.int .i64 13)), 3, none, true⟩]
theorem code_form_r24_go {K : Env → Heap → Prop} {τ ρ : Env} {h : Heap} : vcOps Try.prog K code_form_r24 τ ρ h = vcOps Try.prog K [
  ⟨some (2, true), .assign (.const (.int .i64 13)), 3, none, true⟩] τ ρ h := _root_.id rfl
def code_form_r25 : List Sop := [
  ⟨some (92, false), .move (.tmp 0), 5, none, true⟩,
  ⟨some (93, false), .binOp .eql 5 (.tmp 92) (.const (.int .u8 197)) 5, 4, none, true⟩,
  ⟨some (91, true), .assign (.tmp 93), 4, none, true⟩]
theorem code_form_r25_go {K : Env → Heap → Prop} {τ ρ : Env} {h : Heap} : vcOps Try.prog K code_form_r25 τ ρ h = vcOps Try.prog K [
  ⟨some (92, false), .move (.tmp 0), 5, none, true⟩,
  ⟨some (93, false), .binOp .eql 5 (.tmp 92) (.const (.int .u8 197)) 5, 4, none, true⟩,
  ⟨some (91, true), .assign (.tmp 93), 4, none, true⟩] τ ρ h := _root_.id rfl
def code_form_r26 : List Sop := [
  ⟨some (2, true), .assign (.const (.int .i64 14)), 3, none, true⟩]
theorem code_form_r26_go {K : Env → Heap → Prop} {τ ρ : Env} {h : Heap} : vcOps Try.prog K code_form_r26 τ ρ h = vcOps Try.prog K [
  ⟨some (2, true), .assign (.const (.int .i64 14)), 3, none, true⟩] τ ρ h := _root_.id rfl
def code_form_r27 : List Sop := [
  ⟨some (95, false), .move (.tmp 0), 5, none, true⟩,
  ⟨some (96, false), .binOp .eql 5 (.tmp 95) (.const (.int .u8 196)) 5, 4, none, true⟩,
  ⟨some (94, true), .assign (.tmp 96), 4, none, true⟩]
theorem code_form_r27_go {K : Env → Heap → Prop} {τ ρ : Env} {h : Heap} : vcOps Try.prog K code_form_r27 τ ρ h = vcOps Try.prog K [
  ⟨some (95, false), .move (.tmp 0), 5, none, true⟩,
  ⟨some (96, false), .binOp .eql 5 (.tmp 95) (.const (.int .u8 196)) 5, 4, none, true⟩,
  ⟨some (94, true), .assign (.tmp 96), 4, none, true⟩] τ ρ h := _root_.id rfl
def code_form_r28 : List Sop := [
  ⟨some (2, true), .assign (.const (.int .i64 15)), 3, none, true⟩]
theorem code_form_r28_go {K : Env → Heap → Prop} {τ ρ : Env} {h : Heap} : vcOps Try.prog K code_form_r28 τ ρ h = vcOps Try.prog K [
  ⟨some (2, true), .assign (.const (.int .i64 15)), 3, none, true⟩] τ ρ h := _root_.id rfl
def code_form_r29 : List Sop := [
  ⟨some (98, false), .move (.tmp 0), 5, none, true⟩,
  ⟨some (99, false), .binOp .eql 5 (.tmp 98) (.const (.int .u8 168)) 5, 4, none, true⟩,
  ⟨some (100, false), .move (.tmp 99), 4, none, true⟩,
  ⟨some (101, false), .move (.tmp 0), 5, some (100, false), true⟩,
  ⟨some (102, false), .binOp .eql 5 (.tmp 101) (.const (.int .u8 169)) 5, 4, some (100, false), true⟩,
  ⟨some (103, false), .pick (.tmp 100) (.const (.bool true)) (.tmp 102), 4, none, true⟩,
  ⟨some (104, false), .move (.tmp 103), 4, none, true⟩,
  ⟨some (105, false), .move (.tmp 0), 5, some (104, false), true⟩,
  ⟨some (106, false), .binOp .eql 5 (.tmp 105) (.const (.int .u8 186)) 5, 4, some (104, false), true⟩,
  ⟨some (107, false), .pick (.tmp 104) (.const (.bool true)) (.tmp 106), 4, none, true⟩,
  ⟨some (108, false), .move (.tmp 107), 4, none, true⟩,
  ⟨some (109, false), .move (.tmp 0), 5, some (108, false), true⟩,
  ⟨some (110, false), .binOp .gtr 5 (.tmp 109) (.const (.int .u8 200)) 5, 4, some (108, false), true⟩,
  ⟨some (111, false), .pick (.tmp 108) (.const (.bool true)) (.tmp 110), 4, none, true⟩,
  ⟨some (97, true), .assign (.tmp 111), 4, none, true⟩]
theorem code_form_r29_go {K : Env → Heap → Prop} {τ ρ : Env} {h : Heap} : vcOps Try.prog K code_form_r29 τ ρ h = vcOps Try.prog K [
  ⟨some (98, false), .move (.tmp 0), 5, none, true⟩,
  ⟨some (99, false), .binOp .eql 5 (.tmp 98) (.const (.int .u8 168)) 5, 4, none, true⟩,
  ⟨some (100, false), .move (.tmp 99), 4, none, true⟩,
  ⟨some (101, false), .move (.tmp 0), 5, some (100, false), true⟩,
  ⟨some (102, false), .binOp .eql 5 (.tmp 101) (.const (.int .u8 169)) 5, 4, some (100, false), true⟩,
  ⟨some (103, false), .pick (.tmp 100) (.const (.bool true)) (.tmp 102), 4, none, true⟩,
  ⟨some (104, false), .move (.tmp 103), 4, none, true⟩,
  ⟨some (105, false), .move (.tmp 0), 5, some (104, false), true⟩,
  ⟨some (106, false), .binOp .eql 5 (.tmp 105) (.const (.int .u8 186)) 5, 4, some (104, false), true⟩,
  ⟨some (107, false), .pick (.tmp 104) (.const (.bool true)) (.tmp 106), 4, none, true⟩,
  ⟨some (108, false), .move (.tmp 107), 4, none, true⟩,
  ⟨some (109, false), .move (.tmp 0), 5, some (108, false), true⟩,
  ⟨some (110, false), .binOp .gtr 5 (.tmp 109) (.const (.int .u8 200)) 5, 4, some (108, false), true⟩,
  ⟨some (111, false), .pick (.tmp 108) (.const (.bool true)) (.tmp 110), 4, none, true⟩,
  ⟨some (97, true), .assign (.tmp 111), 4, none, true⟩] τ ρ h := _root_.id rfl
def code_form_r30 : List Sop := [
  ⟨some (2, true), .assign (.const (.int .i64 1)), 3, none, true⟩]
theorem code_form_r30_go {K : Env → Heap → Prop} {τ ρ : Env} {h : Heap} : vcOps Try.prog K code_form_r30 τ ρ h = vcOps Try.prog K [
  ⟨some (2, true), .assign (.const (.int .i64 1)), 3, none, true⟩] τ ρ h := _root_.id rfl
def code_form_r31 : List Sop := [
  ⟨some (2, true), .assign (.const (.int .i64 0)), 3, none, true⟩]
theorem code_form_r31_go {K : Env → Heap → Prop} {τ ρ : Env} {h : Heap} : vcOps Try.prog K code_form_r31 τ ρ h = vcOps Try.prog K [
  ⟨some (2, true), .assign (.const (.int .i64 0)), 3, none, true⟩] τ ρ h := _root_.id rfl
def code_form : Cd := .seq (.region code_form_r0) (.seq (.block 0 (.seq (.region code_form_r1) (.cond (.tmp 3) (.seq (.region code_form_r2) (.ret)) (.seq (.region code_form_r3) (.cond (.tmp 6) (.seq (.region code_form_r4) (.ret)) (.seq (.region code_form_r5) (.cond (.tmp 9) (.seq (.region code_form_r6) (.ret)) (.seq (.region code_form_r7) (.cond (.tmp 12) (.seq (.region code_form_r8) (.ret)) (.seq (.region code_form_r9) (.cond (.tmp 43) (.seq (.region code_form_r10) (.ret)) (.seq (.region code_form_r11) (.cond (.tmp 58) (.seq (.region code_form_r12) (.ret)) (.seq (.region code_form_r13) (.cond (.tmp 61) (.seq (.region code_form_r14) (.ret)) (.seq (.region code_form_r15) (.cond (.tmp 76) (.seq (.region code_form_r16) (.ret)) (.seq (.region code_form_r17) (.cond (.tmp 79) (.seq (.region code_form_r18) (.ret)) (.seq (.region code_form_r19) (.cond (.tmp 82) (.seq (.region code_form_r20) (.ret)) (.seq (.region code_form_r21) (.cond (.tmp 85) (.seq (.region code_form_r22) (.ret)) (.seq (.region code_form_r23) (.cond (.tmp 88) (.seq (.region code_form_r24) (.ret)) (.seq (.region code_form_r25) (.cond (.tmp 91) (.seq (.region code_form_r26) (.ret)) (.seq (.region code_form_r27) (.cond (.tmp 94) (.seq (.region code_form_r28) (.ret)) (.seq (.region code_form_r29) (.cond (.tmp 97) (.seq (.region code_form_r30) (.ret)) (.skip)))))))))))))))))))))))))))))))) (.seq (.region code_form_r31) (.ret)))
theorem code_form_go {Q : Ex → Env → Heap → Prop} {ρ : Env} {h : Heap} : Cd.vc Try.prog code_form Q ρ h = Cd.vc Try.prog (.seq (.region code_form_r0) (.seq (.block 0 (.seq (.region code_form_r1) (.cond (.tmp 3) (.seq (.region code_form_r2) (.ret)) (.seq (.region code_form_r3) (.cond (.tmp 6) (.seq (.region code_form_r4) (.ret)) (.seq (.region code_form_r5) (.cond (.tmp 9) (.seq (.region code_form_r6) (.ret)) (.seq (.region code_form_r7) (.cond (.tmp 12) (.seq (.region code_form_r8) (.ret)) (.seq (.region code_form_r9) (.cond (.tmp 43) (.seq (.region code_form_r10) (.ret)) (.seq (.region code_form_r11) (.cond (.tmp 58) (.seq (.region code_form_r12) (.ret)) (.seq (.region code_form_r13) (.cond (.tmp 61) (.seq (.region code_form_r14) (.ret)) (.seq (.region code_form_r15) (.cond (.tmp 76) (.seq (.region code_form_r16) (.ret)) (.seq (.region code_form_r17) (.cond (.tmp 79) (.seq (.region code_form_r18) (.ret)) (.seq (.region code_form_r19) (.cond (.tmp 82) (.seq (.region code_form_r20) (.ret)) (.seq (.region code_form_r21) (.cond (.tmp 85) (.seq (.region code_form_r22) (.ret)) (.seq (.region code_form_r23) (.cond (.tmp 88) (.seq (.region code_form_r24) (.ret)) (.seq (.region code_form_r25) (.cond (.tmp 91) (.seq (.region code_form_r26) (.ret)) (.seq (.region code_form_r27) (.cond (.tmp 94) (.seq (.region code_form_r28) (.ret)) (.seq (.region code_form_r29) (.cond (.tmp 97) (.seq (.region code_form_r30) (.ret)) (.skip)))))))))))))))))))))))))))))))) (.seq (.region code_form_r31) (.ret)))) Q ρ h := _root_.id rfl
theorem code_form_calls {args : List Value} {h : Heap} {R : Value → Heap → Prop} (hl : args.length = 1) (hv : Cd.vc Try.prog code_form (retQ Try.prog [(2, none)] R) (initEnv args [0, 2, 3, 6, 9, 12, 43, 58, 61, 76, 79, 82, 85, 88, 91, 94, 97]) h) : HCalls Try.prog 14 args.toArray h R :=
  hcalls_of_vc (by kernel_rfl) Try.func14 (cd := code_form) (L := [0, 2, 3, 6, 9, 12, 43, 58, 61, 76, 79, 82, 85, 88, 91, 94, 97]) (by kernel_rfl) (by kernel_rfl) ⟨by rw [hl, Try.ntmps14]; decide, by rw [Try.ntmps14]; decide⟩ hv
def code_form_gos := And.intro @code_form_go (And.intro @code_form_r0_go (And.intro @code_form_r1_go (And.intro @code_form_r2_go (And.intro @code_form_r3_go (And.intro @code_form_r4_go (And.intro @code_form_r5_go (And.intro @code_form_r6_go (And.intro @code_form_r7_go (And.intro @code_form_r8_go (And.intro @code_form_r9_go (And.intro @code_form_r10_go (And.intro @code_form_r11_go (And.intro @code_form_r12_go (And.intro @code_form_r13_go (And.intro @code_form_r14_go (And.intro @code_form_r15_go (And.intro @code_form_r16_go (And.intro @code_form_r17_go (And.intro @code_form_r18_go (And.intro @code_form_r19_go (And.intro @code_form_r20_go (And.intro @code_form_r21_go (And.intro @code_form_r22_go (And.intro @code_form_r23_go (And.intro @code_form_r24_go (And.intro @code_form_r25_go (And.intro @code_form_r26_go (And.intro @code_form_r27_go (And.intro @code_form_r28_go (And.intro @code_form_r29_go (And.intro @code_form_r30_go (@code_form_r31_go))))))))))))))))))))))))))))))))

/-! jvmcore/jvmcoreref2.form: function 16: slots [0, 2, 4] -/
def ref2_form_r0 : List Sop := [
  ⟨some (2, true), .assign (.const (.string { data := #[] })), 9, none, true⟩]
theorem ref2_form_r0_go {K : Env → Heap → Prop} {τ ρ : Env} {h : Heap} : vcOps Try.prog K ref2_form_r0 τ ρ h = vcOps Try.prog K [
  ⟨some (2, true), .assign (.const (.string { data := #[] })), 9, none, true⟩] τ ρ h := _root_.id rfl
def ref2_form_r1 : List Sop := [
  ⟨some (3, false), .move (.tmp 0), 3, none, true⟩,
  ⟨some (4, true), .binOp .geq 3 (.tmp 3) (.const (.int .i64 201)) 3, 4, none, true⟩]
theorem ref2_form_r1_go {K : Env → Heap → Prop} {τ ρ : Env} {h : Heap} : vcOps Try.prog K ref2_form_r1 τ ρ h = vcOps Try.prog K [
  ⟨some (3, false), .move (.tmp 0), 3, none, true⟩,
  ⟨some (4, true), .binOp .geq 3 (.tmp 3) (.const (.int .i64 201)) 3, 4, none, true⟩] τ ρ h := _root_.id rfl
def ref2_form_r2 : List Sop := [
  ⟨some (2, true), .assign (.const (.string { data := #[120] })), 9, none, true⟩]
theorem ref2_form_r2_go {K : Env → Heap → Prop} {τ ρ : Env} {h : Heap} : vcOps Try.prog K ref2_form_r2 τ ρ h = vcOps Try.prog K [
  ⟨some (2, true), .assign (.const (.string { data := #[120] })), 9, none, true⟩] τ ρ h := _root_.id rfl
def ref2_form_r3 : List Sop := [
  ⟨some (5, false), .move (.tmp 0), 3, none, true⟩,
  ⟨some (6, false), .move (.tmp 0), 3, none, true⟩,
  ⟨some (7, false), .binOp .add 3 (.tmp 6) (.const (.int .i64 1)) 3, 3, none, true⟩,
  ⟨some (8, false), .slice 9 (.const (.string { data := List.toArray (List.append (List.append [46, 46, 46, 46, 46, 46, 46, 46, 46, 46, 46, 46, 46, 46, 46, 46, 98, 115, 99, 105, 105, 108, 108, 108, 108, 108, 46, 46, 46, 46, 46, 46, 46, 46, 46, 46, 46, 46, 46, 46, 46, 46, 46, 46, 46, 46, 46, 46, 46, 46] [46, 46, 46, 46, 108, 108, 108, 108, 108, 46, 46, 46, 46, 46, 46, 46, 46, 46, 46, 46, 46, 46, 46, 46, 46, 46, 46, 46, 46, 46, 46, 46, 46, 46, 46, 46, 46, 46, 46, 46, 46, 46, 46, 46, 46, 46, 46, 46, 46, 46]) (List.append [46, 46, 46, 46, 46, 46, 46, 46, 46, 46, 46, 46, 46, 46, 46, 46, 46, 46, 46, 46, 46, 46, 46, 46, 46, 46, 46, 46, 46, 46, 46, 46, 110, 46, 46, 46, 46, 46, 46, 46, 46, 46, 46, 46, 46, 46, 46, 46, 46, 46] [46, 46, 46, 106, 106, 106, 106, 106, 106, 106, 106, 106, 106, 106, 106, 106, 106, 106, 120, 120, 116, 107, 46, 46, 46, 46, 46, 46, 105, 105, 105, 105, 105, 105, 105, 102, 120, 105, 97, 105, 46, 46, 105, 105, 46, 46, 119, 109, 106, 106, 74])) })) (some (.tmp 5)) (some (.tmp 7)) none, 9, none, true⟩,
  ⟨some (2, true), .assign (.tmp 8), 9, none, true⟩]
theorem ref2_form_r3_go {K : Env → Heap → Prop} {τ ρ : Env} {h : Heap} : vcOps Try.prog K ref2_form_r3 τ ρ h = vcOps Try.prog K [
  ⟨some (5, false), .move (.tmp 0), 3, none, true⟩,
  ⟨some (6, false), .move (.tmp 0), 3, none, true⟩,
  ⟨some (7, false), .binOp .add 3 (.tmp 6) (.const (.int .i64 1)) 3, 3, none, true⟩,
  ⟨some (8, false), .slice 9 (.const (.string { data := List.toArray (List.append (List.append [46, 46, 46, 46, 46, 46, 46, 46, 46, 46, 46, 46, 46, 46, 46, 46, 98, 115, 99, 105, 105, 108, 108, 108, 108, 108, 46, 46, 46, 46, 46, 46, 46, 46, 46, 46, 46, 46, 46, 46, 46, 46, 46, 46, 46, 46, 46, 46, 46, 46] [46, 46, 46, 46, 108, 108, 108, 108, 108, 46, 46, 46, 46, 46, 46, 46, 46, 46, 46, 46, 46, 46, 46, 46, 46, 46, 46, 46, 46, 46, 46, 46, 46, 46, 46, 46, 46, 46, 46, 46, 46, 46, 46, 46, 46, 46, 46, 46, 46, 46]) (List.append [46, 46, 46, 46, 46, 46, 46, 46, 46, 46, 46, 46, 46, 46, 46, 46, 46, 46, 46, 46, 46, 46, 46, 46, 46, 46, 46, 46, 46, 46, 46, 46, 110, 46, 46, 46, 46, 46, 46, 46, 46, 46, 46, 46, 46, 46, 46, 46, 46, 46] [46, 46, 46, 106, 106, 106, 106, 106, 106, 106, 106, 106, 106, 106, 106, 106, 106, 106, 120, 120, 116, 107, 46, 46, 46, 46, 46, 46, 105, 105, 105, 105, 105, 105, 105, 102, 120, 105, 97, 105, 46, 46, 105, 105, 46, 46, 119, 109, 106, 106, 74])) })) (some (.tmp 5)) (some (.tmp 7)) none, 9, none, true⟩,
  ⟨some (2, true), .assign (.tmp 8), 9, none, true⟩] τ ρ h := _root_.id rfl
def ref2_form : Cd := .seq (.region ref2_form_r0) (.seq (.seq (.region ref2_form_r1) (.cond (.tmp 4) (.seq (.region ref2_form_r2) (.ret)) (.skip))) (.seq (.region ref2_form_r3) (.ret)))
theorem ref2_form_go {Q : Ex → Env → Heap → Prop} {ρ : Env} {h : Heap} : Cd.vc Try.prog ref2_form Q ρ h = Cd.vc Try.prog (.seq (.region ref2_form_r0) (.seq (.seq (.region ref2_form_r1) (.cond (.tmp 4) (.seq (.region ref2_form_r2) (.ret)) (.skip))) (.seq (.region ref2_form_r3) (.ret)))) Q ρ h := _root_.id rfl
theorem ref2_form_calls {args : List Value} {h : Heap} {R : Value → Heap → Prop} (hl : args.length = 1) (hv : Cd.vc Try.prog ref2_form (retQ Try.prog [(2, none)] R) (initEnv args [0, 2, 4]) h) : HCalls Try.prog 16 args.toArray h R :=
  hcalls_of_vc (by kernel_rfl) Try.func16 (cd := ref2_form) (L := [0, 2, 4]) (by kernel_rfl) (by kernel_rfl) ⟨by rw [hl, Try.ntmps16]; decide, by rw [Try.ntmps16]; decide⟩ hv
def ref2_form_gos := And.intro @ref2_form_go (And.intro @ref2_form_r0_go (And.intro @ref2_form_r1_go (And.intro @ref2_form_r2_go (@ref2_form_r3_go))))

end Go.Proofs.Ytjpcpkhegjndeaa.C
