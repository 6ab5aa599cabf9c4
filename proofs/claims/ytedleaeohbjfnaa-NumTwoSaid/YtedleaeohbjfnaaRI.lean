/- The law NumTwo on heaps: it returns true. No condition. -/
import Derived.Test.YtedleaeohbjfnaaRH
namespace Go.Proofs.Ytedleaeohbjfnaa
open Go.Vc Go.Num
set_option maxRecDepth 100000
set_option linter.unusedSimpArgs false
set_option linter.unusedVariables false

set_option maxHeartbeats 2000000 in
theorem rtwo_120 {h : Heap} {a b : Nat} (ha : a < 18446744073709551616) (hb : b < 18446744073709551616) :
    HCalls Try.prog 5 #[.int .u8 ((120 : Nat) : Int), .int .u64 (a : Int), .int .u64 (b : Int)] h fun v h' => Ext h h' ∧ v = .tuple #[.int .u64 ((bitS 120 a b : Nat) : Int), .int .i64 0] := by
  refine C.ref6_Two_calls (args := [.int .u8 ((120 : Nat) : Int), .int .u64 (a : Int), .int .u64 (b : Int)]) rfl ?_
  have zn : ((120 : Nat) : Int) = 120 := rfl
  have ia : (a : Int) % 4294967296 = ((a % 4294967296 : Nat) : Int) := by omega
  have ib : (b : Int) % 4294967296 = ((b % 4294967296 : Nat) : Int) := by omega
  generalize hR : bitS 120 a b = R
  have hR' : shS 4294967296 0 (a % 4294967296) (b % 32) = R := hR
  clear hR
  have bk : (b : Int) % 32 = ((b % 32 : Nat) : Int) := by omega
  have wk : IntKind.i64.wrap ((b % 32 : Nat) : Int) = ((b % 32 : Nat) : Int) := wrap_i64 (by omega) (by omega)
  have sh : HCalls Try.prog 15 #[.int .i64 0, .int .u64 (((a % 4294967296) : Nat) : Int), .int .i64 ((b % 32 : Nat) : Int), .int .i64 32] h fun v h' => h' = h ∧ v = .int .u64 ((shS 4294967296 0 (a % 4294967296) (b % 32) : Nat) : Int) := rshift32_any (n := 0) (x := (a % 4294967296)) (k := b % 32) (by decide) (by omega) (by omega)
  simp (disch := first | omega | assumption) only [C.ref6_Two_gos, T.tv, ↓reduceIte, Nat.reduceEqDiff, reduceCtorEq, Nat.reduceLeDiff, Nat.reducePow, Int.reducePow, Int.reduceToNat, Nat.reduceAdd, zn, vf, ia, ib, bk, wk, Int.reduceMod, Int.reduceDiv, Int.reduceEq, Int.reduceSub, Int.reduceMul, Int.reduceAdd, Int.reduceNeg, Int.reduceLT, Int.reduceLE]

  refine eff_callF rfl (sh.mono ?_)
  rintro v1 h1 ⟨rfl, rfl⟩
  rw [hR']
  simp (disch := first | omega | assumption) only [C.ref6_Two_gos, T.tv, ↓reduceIte, Nat.reduceEqDiff, reduceCtorEq, Nat.reduceLeDiff, Nat.reducePow, Int.reducePow, Int.reduceToNat, Nat.reduceAdd]
  first | exact Ext.refl _ | exact ⟨Ext.refl _, rfl⟩
set_option maxHeartbeats 2000000 in
theorem rtwo_121 {h : Heap} {a b : Nat} (ha : a < 18446744073709551616) (hb : b < 18446744073709551616) :
    HCalls Try.prog 5 #[.int .u8 ((121 : Nat) : Int), .int .u64 (a : Int), .int .u64 (b : Int)] h fun v h' => Ext h h' ∧ v = .tuple #[.int .u64 ((bitS 121 a b : Nat) : Int), .int .i64 0] := by
  refine C.ref6_Two_calls (args := [.int .u8 ((121 : Nat) : Int), .int .u64 (a : Int), .int .u64 (b : Int)]) rfl ?_
  have zn : ((121 : Nat) : Int) = 121 := rfl
  have ia : (a : Int) % 4294967296 = ((a % 4294967296 : Nat) : Int) := by omega
  have ib : (b : Int) % 4294967296 = ((b % 4294967296 : Nat) : Int) := by omega
  generalize hR : bitS 121 a b = R
  have hR' : shS 18446744073709551616 0 a (b % 64) = R := hR
  clear hR
  have bk : (b : Int) % 64 = ((b % 64 : Nat) : Int) := by omega
  have wk : IntKind.i64.wrap ((b % 64 : Nat) : Int) = ((b % 64 : Nat) : Int) := wrap_i64 (by omega) (by omega)
  have sh : HCalls Try.prog 15 #[.int .i64 0, .int .u64 ((a : Nat) : Int), .int .i64 ((b % 64 : Nat) : Int), .int .i64 64] h fun v h' => h' = h ∧ v = .int .u64 ((shS 18446744073709551616 0 a (b % 64) : Nat) : Int) := rshift64_any (n := 0) (x := a) (k := b % 64) (by decide) (by omega) (by omega)
  simp (disch := first | omega | assumption) only [C.ref6_Two_gos, T.tv, ↓reduceIte, Nat.reduceEqDiff, reduceCtorEq, Nat.reduceLeDiff, Nat.reducePow, Int.reducePow, Int.reduceToNat, Nat.reduceAdd, zn, vf, ia, ib, bk, wk, Int.reduceMod, Int.reduceDiv, Int.reduceEq, Int.reduceSub, Int.reduceMul, Int.reduceAdd, Int.reduceNeg, Int.reduceLT, Int.reduceLE]

  refine eff_callF rfl (sh.mono ?_)
  rintro v1 h1 ⟨rfl, rfl⟩
  rw [hR']
  simp (disch := first | omega | assumption) only [C.ref6_Two_gos, T.tv, ↓reduceIte, Nat.reduceEqDiff, reduceCtorEq, Nat.reduceLeDiff, Nat.reducePow, Int.reducePow, Int.reduceToNat, Nat.reduceAdd]
  first | exact Ext.refl _ | exact ⟨Ext.refl _, rfl⟩
set_option maxHeartbeats 2000000 in
theorem rtwo_122 {h : Heap} {a b : Nat} (ha : a < 18446744073709551616) (hb : b < 18446744073709551616) :
    HCalls Try.prog 5 #[.int .u8 ((122 : Nat) : Int), .int .u64 (a : Int), .int .u64 (b : Int)] h fun v h' => Ext h h' ∧ v = .tuple #[.int .u64 ((bitS 122 a b : Nat) : Int), .int .i64 0] := by
  refine C.ref6_Two_calls (args := [.int .u8 ((122 : Nat) : Int), .int .u64 (a : Int), .int .u64 (b : Int)]) rfl ?_
  have zn : ((122 : Nat) : Int) = 122 := rfl
  have ia : (a : Int) % 4294967296 = ((a % 4294967296 : Nat) : Int) := by omega
  have ib : (b : Int) % 4294967296 = ((b % 4294967296 : Nat) : Int) := by omega
  generalize hR : bitS 122 a b = R
  have hR' : shS 4294967296 1 (a % 4294967296) (b % 32) = R := hR
  clear hR
  have bk : (b : Int) % 32 = ((b % 32 : Nat) : Int) := by omega
  have wk : IntKind.i64.wrap ((b % 32 : Nat) : Int) = ((b % 32 : Nat) : Int) := wrap_i64 (by omega) (by omega)
  have sh : HCalls Try.prog 15 #[.int .i64 1, .int .u64 (((a % 4294967296) : Nat) : Int), .int .i64 ((b % 32 : Nat) : Int), .int .i64 32] h fun v h' => h' = h ∧ v = .int .u64 ((shS 4294967296 1 (a % 4294967296) (b % 32) : Nat) : Int) := rshift32_any (n := 1) (x := (a % 4294967296)) (k := b % 32) (by decide) (by omega) (by omega)
  simp (disch := first | omega | assumption) only [C.ref6_Two_gos, T.tv, ↓reduceIte, Nat.reduceEqDiff, reduceCtorEq, Nat.reduceLeDiff, Nat.reducePow, Int.reducePow, Int.reduceToNat, Nat.reduceAdd, zn, vf, ia, ib, bk, wk, Int.reduceMod, Int.reduceDiv, Int.reduceEq, Int.reduceSub, Int.reduceMul, Int.reduceAdd, Int.reduceNeg, Int.reduceLT, Int.reduceLE]

  refine eff_callF rfl (sh.mono ?_)
  rintro v1 h1 ⟨rfl, rfl⟩
  rw [hR']
  simp (disch := first | omega | assumption) only [C.ref6_Two_gos, T.tv, ↓reduceIte, Nat.reduceEqDiff, reduceCtorEq, Nat.reduceLeDiff, Nat.reducePow, Int.reducePow, Int.reduceToNat, Nat.reduceAdd]
  first | exact Ext.refl _ | exact ⟨Ext.refl _, rfl⟩
set_option maxHeartbeats 2000000 in
theorem rtwo_123 {h : Heap} {a b : Nat} (ha : a < 18446744073709551616) (hb : b < 18446744073709551616) :
    HCalls Try.prog 5 #[.int .u8 ((123 : Nat) : Int), .int .u64 (a : Int), .int .u64 (b : Int)] h fun v h' => Ext h h' ∧ v = .tuple #[.int .u64 ((bitS 123 a b : Nat) : Int), .int .i64 0] := by
  refine C.ref6_Two_calls (args := [.int .u8 ((123 : Nat) : Int), .int .u64 (a : Int), .int .u64 (b : Int)]) rfl ?_
  have zn : ((123 : Nat) : Int) = 123 := rfl
  have ia : (a : Int) % 4294967296 = ((a % 4294967296 : Nat) : Int) := by omega
  have ib : (b : Int) % 4294967296 = ((b % 4294967296 : Nat) : Int) := by omega
  generalize hR : bitS 123 a b = R
  have hR' : shS 18446744073709551616 1 a (b % 64) = R := hR
  clear hR
  have bk : (b : Int) % 64 = ((b % 64 : Nat) : Int) := by omega
  have wk : IntKind.i64.wrap ((b % 64 : Nat) : Int) = ((b % 64 : Nat) : Int) := wrap_i64 (by omega) (by omega)
  have sh : HCalls Try.prog 15 #[.int .i64 1, .int .u64 ((a : Nat) : Int), .int .i64 ((b % 64 : Nat) : Int), .int .i64 64] h fun v h' => h' = h ∧ v = .int .u64 ((shS 18446744073709551616 1 a (b % 64) : Nat) : Int) := rshift64_any (n := 1) (x := a) (k := b % 64) (by decide) (by omega) (by omega)
  simp (disch := first | omega | assumption) only [C.ref6_Two_gos, T.tv, ↓reduceIte, Nat.reduceEqDiff, reduceCtorEq, Nat.reduceLeDiff, Nat.reducePow, Int.reducePow, Int.reduceToNat, Nat.reduceAdd, zn, vf, ia, ib, bk, wk, Int.reduceMod, Int.reduceDiv, Int.reduceEq, Int.reduceSub, Int.reduceMul, Int.reduceAdd, Int.reduceNeg, Int.reduceLT, Int.reduceLE]

  refine eff_callF rfl (sh.mono ?_)
  rintro v1 h1 ⟨rfl, rfl⟩
  rw [hR']
  simp (disch := first | omega | assumption) only [C.ref6_Two_gos, T.tv, ↓reduceIte, Nat.reduceEqDiff, reduceCtorEq, Nat.reduceLeDiff, Nat.reducePow, Int.reducePow, Int.reduceToNat, Nat.reduceAdd]
  first | exact Ext.refl _ | exact ⟨Ext.refl _, rfl⟩
set_option maxHeartbeats 2000000 in
theorem rtwo_124 {h : Heap} {a b : Nat} (ha : a < 18446744073709551616) (hb : b < 18446744073709551616) :
    HCalls Try.prog 5 #[.int .u8 ((124 : Nat) : Int), .int .u64 (a : Int), .int .u64 (b : Int)] h fun v h' => Ext h h' ∧ v = .tuple #[.int .u64 ((bitS 124 a b : Nat) : Int), .int .i64 0] := by
  refine C.ref6_Two_calls (args := [.int .u8 ((124 : Nat) : Int), .int .u64 (a : Int), .int .u64 (b : Int)]) rfl ?_
  have zn : ((124 : Nat) : Int) = 124 := rfl
  have ia : (a : Int) % 4294967296 = ((a % 4294967296 : Nat) : Int) := by omega
  have ib : (b : Int) % 4294967296 = ((b % 4294967296 : Nat) : Int) := by omega
  generalize hR : bitS 124 a b = R
  have hR' : shS 4294967296 2 (a % 4294967296) (b % 32) = R := hR
  clear hR
  have bk : (b : Int) % 32 = ((b % 32 : Nat) : Int) := by omega
  have wk : IntKind.i64.wrap ((b % 32 : Nat) : Int) = ((b % 32 : Nat) : Int) := wrap_i64 (by omega) (by omega)
  have sh : HCalls Try.prog 15 #[.int .i64 2, .int .u64 (((a % 4294967296) : Nat) : Int), .int .i64 ((b % 32 : Nat) : Int), .int .i64 32] h fun v h' => h' = h ∧ v = .int .u64 ((shS 4294967296 2 (a % 4294967296) (b % 32) : Nat) : Int) := rshift32_any (n := 2) (x := (a % 4294967296)) (k := b % 32) (by decide) (by omega) (by omega)
  simp (disch := first | omega | assumption) only [C.ref6_Two_gos, T.tv, ↓reduceIte, Nat.reduceEqDiff, reduceCtorEq, Nat.reduceLeDiff, Nat.reducePow, Int.reducePow, Int.reduceToNat, Nat.reduceAdd, zn, vf, ia, ib, bk, wk, Int.reduceMod, Int.reduceDiv, Int.reduceEq, Int.reduceSub, Int.reduceMul, Int.reduceAdd, Int.reduceNeg, Int.reduceLT, Int.reduceLE]

  refine eff_callF rfl (sh.mono ?_)
  rintro v1 h1 ⟨rfl, rfl⟩
  rw [hR']
  simp (disch := first | omega | assumption) only [C.ref6_Two_gos, T.tv, ↓reduceIte, Nat.reduceEqDiff, reduceCtorEq, Nat.reduceLeDiff, Nat.reducePow, Int.reducePow, Int.reduceToNat, Nat.reduceAdd]
  first | exact Ext.refl _ | exact ⟨Ext.refl _, rfl⟩
set_option maxHeartbeats 2000000 in
theorem rtwo_125 {h : Heap} {a b : Nat} (ha : a < 18446744073709551616) (hb : b < 18446744073709551616) :
    HCalls Try.prog 5 #[.int .u8 ((125 : Nat) : Int), .int .u64 (a : Int), .int .u64 (b : Int)] h fun v h' => Ext h h' ∧ v = .tuple #[.int .u64 ((bitS 125 a b : Nat) : Int), .int .i64 0] := by
  refine C.ref6_Two_calls (args := [.int .u8 ((125 : Nat) : Int), .int .u64 (a : Int), .int .u64 (b : Int)]) rfl ?_
  have zn : ((125 : Nat) : Int) = 125 := rfl
  have ia : (a : Int) % 4294967296 = ((a % 4294967296 : Nat) : Int) := by omega
  have ib : (b : Int) % 4294967296 = ((b % 4294967296 : Nat) : Int) := by omega
  generalize hR : bitS 125 a b = R
  have hR' : shS 18446744073709551616 2 a (b % 64) = R := hR
  clear hR
  have bk : (b : Int) % 64 = ((b % 64 : Nat) : Int) := by omega
  have wk : IntKind.i64.wrap ((b % 64 : Nat) : Int) = ((b % 64 : Nat) : Int) := wrap_i64 (by omega) (by omega)
  have sh : HCalls Try.prog 15 #[.int .i64 2, .int .u64 ((a : Nat) : Int), .int .i64 ((b % 64 : Nat) : Int), .int .i64 64] h fun v h' => h' = h ∧ v = .int .u64 ((shS 18446744073709551616 2 a (b % 64) : Nat) : Int) := rshift64_any (n := 2) (x := a) (k := b % 64) (by decide) (by omega) (by omega)
  simp (disch := first | omega | assumption) only [C.ref6_Two_gos, T.tv, ↓reduceIte, Nat.reduceEqDiff, reduceCtorEq, Nat.reduceLeDiff, Nat.reducePow, Int.reducePow, Int.reduceToNat, Nat.reduceAdd, zn, vf, ia, ib, bk, wk, Int.reduceMod, Int.reduceDiv, Int.reduceEq, Int.reduceSub, Int.reduceMul, Int.reduceAdd, Int.reduceNeg, Int.reduceLT, Int.reduceLE]

  refine eff_callF rfl (sh.mono ?_)
  rintro v1 h1 ⟨rfl, rfl⟩
  rw [hR']
  simp (disch := first | omega | assumption) only [C.ref6_Two_gos, T.tv, ↓reduceIte, Nat.reduceEqDiff, reduceCtorEq, Nat.reduceLeDiff, Nat.reducePow, Int.reducePow, Int.reduceToNat, Nat.reduceAdd]
  first | exact Ext.refl _ | exact ⟨Ext.refl _, rfl⟩
set_option maxHeartbeats 2000000 in
theorem rtwo_126 {h : Heap} {a b : Nat} (ha : a < 18446744073709551616) (hb : b < 18446744073709551616) :
    HCalls Try.prog 5 #[.int .u8 ((126 : Nat) : Int), .int .u64 (a : Int), .int .u64 (b : Int)] h fun v h' => Ext h h' ∧ v = .tuple #[.int .u64 ((bitS 126 a b : Nat) : Int), .int .i64 0] := by
  refine C.ref6_Two_calls (args := [.int .u8 ((126 : Nat) : Int), .int .u64 (a : Int), .int .u64 (b : Int)]) rfl ?_
  have zn : ((126 : Nat) : Int) = 126 := rfl
  have ia : (a : Int) % 4294967296 = ((a % 4294967296 : Nat) : Int) := by omega
  have ib : (b : Int) % 4294967296 = ((b % 4294967296 : Nat) : Int) := by omega
  generalize hR : bitS 126 a b = R
  have hR' : a &&& b = R := hR
  clear hR
  have bv := (bv_nat (op := .and) ha hb).1
  rw [hR'] at bv
  simp (disch := first | omega | assumption) only [C.ref6_Two_gos, T.tv, ↓reduceIte, Nat.reduceEqDiff, reduceCtorEq, Nat.reduceLeDiff, Nat.reducePow, Int.reducePow, Int.reduceToNat, Nat.reduceAdd, zn, vf, ia, ib, bv, Int.reduceEq, Int.reduceSub, Int.reduceMul, Int.reduceAdd, Int.reduceNeg, Int.reduceLT, Int.reduceLE]
  first | exact Ext.refl _ | exact ⟨Ext.refl _, rfl⟩
set_option maxHeartbeats 2000000 in
theorem rtwo_127 {h : Heap} {a b : Nat} (ha : a < 18446744073709551616) (hb : b < 18446744073709551616) :
    HCalls Try.prog 5 #[.int .u8 ((127 : Nat) : Int), .int .u64 (a : Int), .int .u64 (b : Int)] h fun v h' => Ext h h' ∧ v = .tuple #[.int .u64 ((bitS 127 a b : Nat) : Int), .int .i64 0] := by
  refine C.ref6_Two_calls (args := [.int .u8 ((127 : Nat) : Int), .int .u64 (a : Int), .int .u64 (b : Int)]) rfl ?_
  have zn : ((127 : Nat) : Int) = 127 := rfl
  have ia : (a : Int) % 4294967296 = ((a % 4294967296 : Nat) : Int) := by omega
  have ib : (b : Int) % 4294967296 = ((b % 4294967296 : Nat) : Int) := by omega
  generalize hR : bitS 127 a b = R
  have hR' : a &&& b = R := hR
  clear hR
  have bv := (bv_nat (op := .and) ha hb).1
  rw [hR'] at bv
  simp (disch := first | omega | assumption) only [C.ref6_Two_gos, T.tv, ↓reduceIte, Nat.reduceEqDiff, reduceCtorEq, Nat.reduceLeDiff, Nat.reducePow, Int.reducePow, Int.reduceToNat, Nat.reduceAdd, zn, vf, ia, ib, bv, Int.reduceEq, Int.reduceSub, Int.reduceMul, Int.reduceAdd, Int.reduceNeg, Int.reduceLT, Int.reduceLE]
  first | exact Ext.refl _ | exact ⟨Ext.refl _, rfl⟩
set_option maxHeartbeats 2000000 in
theorem rtwo_128 {h : Heap} {a b : Nat} (ha : a < 18446744073709551616) (hb : b < 18446744073709551616) :
    HCalls Try.prog 5 #[.int .u8 ((128 : Nat) : Int), .int .u64 (a : Int), .int .u64 (b : Int)] h fun v h' => Ext h h' ∧ v = .tuple #[.int .u64 ((bitS 128 a b : Nat) : Int), .int .i64 0] := by
  refine C.ref6_Two_calls (args := [.int .u8 ((128 : Nat) : Int), .int .u64 (a : Int), .int .u64 (b : Int)]) rfl ?_
  have zn : ((128 : Nat) : Int) = 128 := rfl
  have ia : (a : Int) % 4294967296 = ((a % 4294967296 : Nat) : Int) := by omega
  have ib : (b : Int) % 4294967296 = ((b % 4294967296 : Nat) : Int) := by omega
  generalize hR : bitS 128 a b = R
  have hR' : a ||| b = R := hR
  clear hR
  have bv := (bv_nat (op := .and) ha hb).2.1
  rw [hR'] at bv
  simp (disch := first | omega | assumption) only [C.ref6_Two_gos, T.tv, ↓reduceIte, Nat.reduceEqDiff, reduceCtorEq, Nat.reduceLeDiff, Nat.reducePow, Int.reducePow, Int.reduceToNat, Nat.reduceAdd, zn, vf, ia, ib, bv, Int.reduceEq, Int.reduceSub, Int.reduceMul, Int.reduceAdd, Int.reduceNeg, Int.reduceLT, Int.reduceLE]
  first | exact Ext.refl _ | exact ⟨Ext.refl _, rfl⟩
set_option maxHeartbeats 2000000 in
theorem rtwo_129 {h : Heap} {a b : Nat} (ha : a < 18446744073709551616) (hb : b < 18446744073709551616) :
    HCalls Try.prog 5 #[.int .u8 ((129 : Nat) : Int), .int .u64 (a : Int), .int .u64 (b : Int)] h fun v h' => Ext h h' ∧ v = .tuple #[.int .u64 ((bitS 129 a b : Nat) : Int), .int .i64 0] := by
  refine C.ref6_Two_calls (args := [.int .u8 ((129 : Nat) : Int), .int .u64 (a : Int), .int .u64 (b : Int)]) rfl ?_
  have zn : ((129 : Nat) : Int) = 129 := rfl
  have ia : (a : Int) % 4294967296 = ((a % 4294967296 : Nat) : Int) := by omega
  have ib : (b : Int) % 4294967296 = ((b % 4294967296 : Nat) : Int) := by omega
  generalize hR : bitS 129 a b = R
  have hR' : a ||| b = R := hR
  clear hR
  have bv := (bv_nat (op := .and) ha hb).2.1
  rw [hR'] at bv
  simp (disch := first | omega | assumption) only [C.ref6_Two_gos, T.tv, ↓reduceIte, Nat.reduceEqDiff, reduceCtorEq, Nat.reduceLeDiff, Nat.reducePow, Int.reducePow, Int.reduceToNat, Nat.reduceAdd, zn, vf, ia, ib, bv, Int.reduceEq, Int.reduceSub, Int.reduceMul, Int.reduceAdd, Int.reduceNeg, Int.reduceLT, Int.reduceLE]
  first | exact Ext.refl _ | exact ⟨Ext.refl _, rfl⟩
set_option maxHeartbeats 2000000 in
theorem rtwo_130 {h : Heap} {a b : Nat} (ha : a < 18446744073709551616) (hb : b < 18446744073709551616) :
    HCalls Try.prog 5 #[.int .u8 ((130 : Nat) : Int), .int .u64 (a : Int), .int .u64 (b : Int)] h fun v h' => Ext h h' ∧ v = .tuple #[.int .u64 ((bitS 130 a b : Nat) : Int), .int .i64 0] := by
  refine C.ref6_Two_calls (args := [.int .u8 ((130 : Nat) : Int), .int .u64 (a : Int), .int .u64 (b : Int)]) rfl ?_
  have zn : ((130 : Nat) : Int) = 130 := rfl
  have ia : (a : Int) % 4294967296 = ((a % 4294967296 : Nat) : Int) := by omega
  have ib : (b : Int) % 4294967296 = ((b % 4294967296 : Nat) : Int) := by omega
  generalize hR : bitS 130 a b = R
  have hR' : a ^^^ b = R := hR
  clear hR
  have bv := (bv_nat (op := .and) ha hb).2.2.1
  rw [hR'] at bv
  simp (disch := first | omega | assumption) only [C.ref6_Two_gos, T.tv, ↓reduceIte, Nat.reduceEqDiff, reduceCtorEq, Nat.reduceLeDiff, Nat.reducePow, Int.reducePow, Int.reduceToNat, Nat.reduceAdd, zn, vf, ia, ib, bv, Int.reduceEq, Int.reduceSub, Int.reduceMul, Int.reduceAdd, Int.reduceNeg, Int.reduceLT, Int.reduceLE]
  first | exact Ext.refl _ | exact ⟨Ext.refl _, rfl⟩
set_option maxHeartbeats 2000000 in
theorem rtwo_131 {h : Heap} {a b : Nat} (ha : a < 18446744073709551616) (hb : b < 18446744073709551616) :
    HCalls Try.prog 5 #[.int .u8 ((131 : Nat) : Int), .int .u64 (a : Int), .int .u64 (b : Int)] h fun v h' => Ext h h' ∧ v = .tuple #[.int .u64 ((bitS 131 a b : Nat) : Int), .int .i64 0] := by
  refine C.ref6_Two_calls (args := [.int .u8 ((131 : Nat) : Int), .int .u64 (a : Int), .int .u64 (b : Int)]) rfl ?_
  have zn : ((131 : Nat) : Int) = 131 := rfl
  have ia : (a : Int) % 4294967296 = ((a % 4294967296 : Nat) : Int) := by omega
  have ib : (b : Int) % 4294967296 = ((b % 4294967296 : Nat) : Int) := by omega
  generalize hR : bitS 131 a b = R
  have hR' : a ^^^ b = R := hR
  clear hR
  have bv := (bv_nat (op := .and) ha hb).2.2.1
  rw [hR'] at bv
  simp (disch := first | omega | assumption) only [C.ref6_Two_gos, T.tv, ↓reduceIte, Nat.reduceEqDiff, reduceCtorEq, Nat.reduceLeDiff, Nat.reducePow, Int.reducePow, Int.reduceToNat, Nat.reduceAdd, zn, vf, ia, ib, bv, Int.reduceEq, Int.reduceSub, Int.reduceMul, Int.reduceAdd, Int.reduceNeg, Int.reduceLT, Int.reduceLE]
  first | exact Ext.refl _ | exact ⟨Ext.refl _, rfl⟩
set_option maxHeartbeats 2000000 in
theorem rtwo_148 {h : Heap} {a b : Nat} (ha : a < 18446744073709551616) (hb : b < 18446744073709551616) :
    HCalls Try.prog 5 #[.int .u8 ((148 : Nat) : Int), .int .u64 (a : Int), .int .u64 (b : Int)] h fun v h' => Ext h h' ∧ v = .tuple #[.int .u64 (cmpS (sgI 18446744073709551616 a) (sgI 18446744073709551616 b)), .int .i64 0] := by
  refine C.ref6_Two_calls (args := [.int .u8 ((148 : Nat) : Int), .int .u64 (a : Int), .int .u64 (b : Int)]) rfl ?_
  have zn : ((148 : Nat) : Int) = 148 := rfl
  have ia : (a : Int) % 4294967296 = ((a % 4294967296 : Nat) : Int) := by omega
  have ib : (b : Int) % 4294967296 = ((b % 4294967296 : Nat) : Int) := by omega
  have xa := (bv_nat (op := .and) ha (show 9223372036854775808 < 18446744073709551616 by decide)).2.2.1
  have xb := (bv_nat (op := .and) hb (show 9223372036854775808 < 18446744073709551616 by decide)).2.2.1
  have xl := xor_lt ha hb
  rw [show (((9223372036854775808 : Nat) : Int)) = 9223372036854775808 from rfl] at xa xb
  have dl : decide (((a ^^^ 9223372036854775808 : Nat) : Int) < ((b ^^^ 9223372036854775808 : Nat) : Int)) = decide (sgI 18446744073709551616 a < sgI 18446744073709551616 b) := decide_eq_decide.mpr xl
  have de : ((a : Int) = (b : Int)) ↔ sgI 18446744073709551616 a = sgI 18446744073709551616 b := by
    unfold sgI; split <;> split <;> omega
  have de' : decide ((a : Int) = (b : Int)) = decide (sgI 18446744073709551616 a = sgI 18446744073709551616 b) := decide_eq_decide.mpr de
  clear xl de
  generalize sgI 18446744073709551616 a = x at *
  generalize sgI 18446744073709551616 b = y at *
  generalize (a ^^^ 9223372036854775808) = u at *
  generalize (b ^^^ 9223372036854775808) = v at *
  simp (disch := first | omega | assumption) only [C.ref6_Two_gos, T.tv, ↓reduceIte, Nat.reduceEqDiff, reduceCtorEq, Nat.reduceLeDiff, Nat.reducePow, Int.reducePow, Int.reduceToNat, Nat.reduceAdd, zn, vf, xa, xb, Int.reduceEq, Int.reduceSub, Int.reduceMul, Int.reduceAdd, Int.reduceNeg, Int.reduceLT, Int.reduceLE]
  refine eff_callF rfl (rorder_any.mono ?_)
  rintro v1 h1 ⟨rfl, rfl⟩
  have e : (if decide ((a : Int) = (b : Int)) = true then 0 else if decide ((u : Int) < (v : Int)) = true then 4294967295 else 1 : Int) = cmpS x y := by
    rw [dl, de']
    unfold cmpS
    simp only [decide_eq_true_eq]
    split <;> split <;> (try split) <;> omega
  rw [e]
  simp (disch := first | omega | assumption) only [C.ref6_Two_gos, T.tv, ↓reduceIte, Nat.reduceEqDiff, reduceCtorEq, Nat.reduceLeDiff, Nat.reducePow, Int.reducePow, Int.reduceToNat, Nat.reduceAdd]
  first | exact Ext.refl _ | exact ⟨Ext.refl _, rfl⟩
set_option maxHeartbeats 2000000 in
theorem rtwo_149 {h : Heap} {a b : Nat} (ha : a < 18446744073709551616) (hb : b < 18446744073709551616) :
    HCalls Try.prog 5 #[.int .u8 ((149 : Nat) : Int), .int .u64 (a : Int), .int .u64 (b : Int)] h fun v h' => Ext h h' ∧ v = .tuple #[.int .u64 (rordS SG (a % 4294967296) (b % 4294967296) false), .int .i64 0] := by
  refine C.ref6_Two_calls (args := [.int .u8 ((149 : Nat) : Int), .int .u64 (a : Int), .int .u64 (b : Int)]) rfl ?_
  have zn : ((149 : Nat) : Int) = 149 := rfl
  have ia : (a : Int) % 4294967296 = ((a % 4294967296 : Nat) : Int) := by omega
  have ib : (b : Int) % 4294967296 = ((b % 4294967296 : Nat) : Int) := by omega
  simp (disch := first | omega | assumption) only [C.ref6_Two_gos, T.tv, ↓reduceIte, Nat.reduceEqDiff, reduceCtorEq, Nat.reduceLeDiff, Nat.reducePow, Int.reducePow, Int.reduceToNat, Nat.reduceAdd, zn, vf, ia, ib, Int.reduceEq, Int.reduceSub, Int.reduceMul, Int.reduceAdd, Int.reduceNeg, Int.reduceLT, Int.reduceLE]
  refine eff_callF rfl (single_any.mono ?_)
  rintro v1 h1 ⟨x1, rfl⟩
  simp (disch := first | omega | assumption) only [C.ref6_Two_gos, T.tv, ↓reduceIte, Nat.reduceEqDiff, reduceCtorEq, Nat.reduceLeDiff, Nat.reducePow, Int.reducePow, Int.reduceToNat, Nat.reduceAdd, zn, vf, ia, ib, Int.reduceEq, Int.reduceSub, Int.reduceMul, Int.reduceAdd, Int.reduceNeg, Int.reduceLT, Int.reduceLE]
  have oa := fun (h' : Heap) => ordered_any (h := h') (m := 23) (e := 8) (x := (a % 4294967296)) (y := (b % 4294967296)) (more := false) (.inl ⟨rfl, rfl⟩) (show _ < 2 ^ Ieee.single.width by rw [show (2 : Nat) ^ Ieee.single.width = 4294967296 by decide]; omega) (show _ < 2 ^ Ieee.single.width by rw [show (2 : Nat) ^ Ieee.single.width = 4294967296 by decide]; omega) (by omega) (by omega)
  rw [show fmt 23 8 = SG from rfl] at oa
  generalize rordS SG (a % 4294967296) (b % 4294967296) false = R at *
  refine eff_callF rfl ((oa _).mono ?_)
  rintro v2 h2 ⟨x2, rfl⟩
  simp (disch := first | omega | assumption) only [C.ref6_Two_gos, T.tv, ↓reduceIte, Nat.reduceEqDiff, reduceCtorEq, Nat.reduceLeDiff, Nat.reducePow, Int.reducePow, Int.reduceToNat, Nat.reduceAdd]
  first | exact x1.trans x2 | exact ⟨x1.trans x2, rfl⟩
set_option maxHeartbeats 2000000 in
theorem rtwo_150 {h : Heap} {a b : Nat} (ha : a < 18446744073709551616) (hb : b < 18446744073709551616) :
    HCalls Try.prog 5 #[.int .u8 ((150 : Nat) : Int), .int .u64 (a : Int), .int .u64 (b : Int)] h fun v h' => Ext h h' ∧ v = .tuple #[.int .u64 (rordS SG (a % 4294967296) (b % 4294967296) true), .int .i64 0] := by
  refine C.ref6_Two_calls (args := [.int .u8 ((150 : Nat) : Int), .int .u64 (a : Int), .int .u64 (b : Int)]) rfl ?_
  have zn : ((150 : Nat) : Int) = 150 := rfl
  have ia : (a : Int) % 4294967296 = ((a % 4294967296 : Nat) : Int) := by omega
  have ib : (b : Int) % 4294967296 = ((b % 4294967296 : Nat) : Int) := by omega
  simp (disch := first | omega | assumption) only [C.ref6_Two_gos, T.tv, ↓reduceIte, Nat.reduceEqDiff, reduceCtorEq, Nat.reduceLeDiff, Nat.reducePow, Int.reducePow, Int.reduceToNat, Nat.reduceAdd, zn, vf, ia, ib, Int.reduceEq, Int.reduceSub, Int.reduceMul, Int.reduceAdd, Int.reduceNeg, Int.reduceLT, Int.reduceLE]
  refine eff_callF rfl (single_any.mono ?_)
  rintro v1 h1 ⟨x1, rfl⟩
  simp (disch := first | omega | assumption) only [C.ref6_Two_gos, T.tv, ↓reduceIte, Nat.reduceEqDiff, reduceCtorEq, Nat.reduceLeDiff, Nat.reducePow, Int.reducePow, Int.reduceToNat, Nat.reduceAdd, zn, vf, ia, ib, Int.reduceEq, Int.reduceSub, Int.reduceMul, Int.reduceAdd, Int.reduceNeg, Int.reduceLT, Int.reduceLE]
  have oa := fun (h' : Heap) => ordered_any (h := h') (m := 23) (e := 8) (x := (a % 4294967296)) (y := (b % 4294967296)) (more := true) (.inl ⟨rfl, rfl⟩) (show _ < 2 ^ Ieee.single.width by rw [show (2 : Nat) ^ Ieee.single.width = 4294967296 by decide]; omega) (show _ < 2 ^ Ieee.single.width by rw [show (2 : Nat) ^ Ieee.single.width = 4294967296 by decide]; omega) (by omega) (by omega)
  rw [show fmt 23 8 = SG from rfl] at oa
  generalize rordS SG (a % 4294967296) (b % 4294967296) true = R at *
  refine eff_callF rfl ((oa _).mono ?_)
  rintro v2 h2 ⟨x2, rfl⟩
  simp (disch := first | omega | assumption) only [C.ref6_Two_gos, T.tv, ↓reduceIte, Nat.reduceEqDiff, reduceCtorEq, Nat.reduceLeDiff, Nat.reducePow, Int.reducePow, Int.reduceToNat, Nat.reduceAdd]
  first | exact x1.trans x2 | exact ⟨x1.trans x2, rfl⟩
set_option maxHeartbeats 2000000 in
theorem rtwo_151 {h : Heap} {a b : Nat} (ha : a < 18446744073709551616) (hb : b < 18446744073709551616) :
    HCalls Try.prog 5 #[.int .u8 ((151 : Nat) : Int), .int .u64 (a : Int), .int .u64 (b : Int)] h fun v h' => Ext h h' ∧ v = .tuple #[.int .u64 (rordS D a b false), .int .i64 0] := by
  refine C.ref6_Two_calls (args := [.int .u8 ((151 : Nat) : Int), .int .u64 (a : Int), .int .u64 (b : Int)]) rfl ?_
  have zn : ((151 : Nat) : Int) = 151 := rfl
  have ia : (a : Int) % 4294967296 = ((a % 4294967296 : Nat) : Int) := by omega
  have ib : (b : Int) % 4294967296 = ((b % 4294967296 : Nat) : Int) := by omega
  simp (disch := first | omega | assumption) only [C.ref6_Two_gos, T.tv, ↓reduceIte, Nat.reduceEqDiff, reduceCtorEq, Nat.reduceLeDiff, Nat.reducePow, Int.reducePow, Int.reduceToNat, Nat.reduceAdd, zn, vf, ia, ib, Int.reduceEq, Int.reduceSub, Int.reduceMul, Int.reduceAdd, Int.reduceNeg, Int.reduceLT, Int.reduceLE]
  refine eff_callF rfl (double_any.mono ?_)
  rintro v1 h1 ⟨x1, rfl⟩
  simp (disch := first | omega | assumption) only [C.ref6_Two_gos, T.tv, ↓reduceIte, Nat.reduceEqDiff, reduceCtorEq, Nat.reduceLeDiff, Nat.reducePow, Int.reducePow, Int.reduceToNat, Nat.reduceAdd, zn, vf, ia, ib, Int.reduceEq, Int.reduceSub, Int.reduceMul, Int.reduceAdd, Int.reduceNeg, Int.reduceLT, Int.reduceLE]
  have oa := fun (h' : Heap) => ordered_any (h := h') (m := 52) (e := 11) (x := a) (y := b) (more := false) (.inr ⟨rfl, rfl⟩) (show _ < 2 ^ Ieee.double.width by rw [show (2 : Nat) ^ Ieee.double.width = 18446744073709551616 by decide]; omega) (show _ < 2 ^ Ieee.double.width by rw [show (2 : Nat) ^ Ieee.double.width = 18446744073709551616 by decide]; omega) (by omega) (by omega)
  rw [show fmt 52 11 = D from rfl] at oa
  generalize rordS D a b false = R at *
  refine eff_callF rfl ((oa _).mono ?_)
  rintro v2 h2 ⟨x2, rfl⟩
  simp (disch := first | omega | assumption) only [C.ref6_Two_gos, T.tv, ↓reduceIte, Nat.reduceEqDiff, reduceCtorEq, Nat.reduceLeDiff, Nat.reducePow, Int.reducePow, Int.reduceToNat, Nat.reduceAdd]
  first | exact x1.trans x2 | exact ⟨x1.trans x2, rfl⟩
set_option maxHeartbeats 2000000 in
theorem rtwo_152 {h : Heap} {a b : Nat} (ha : a < 18446744073709551616) (hb : b < 18446744073709551616) :
    HCalls Try.prog 5 #[.int .u8 ((152 : Nat) : Int), .int .u64 (a : Int), .int .u64 (b : Int)] h fun v h' => Ext h h' ∧ v = .tuple #[.int .u64 (rordS D a b true), .int .i64 0] := by
  refine C.ref6_Two_calls (args := [.int .u8 ((152 : Nat) : Int), .int .u64 (a : Int), .int .u64 (b : Int)]) rfl ?_
  have zn : ((152 : Nat) : Int) = 152 := rfl
  have ia : (a : Int) % 4294967296 = ((a % 4294967296 : Nat) : Int) := by omega
  have ib : (b : Int) % 4294967296 = ((b % 4294967296 : Nat) : Int) := by omega
  simp (disch := first | omega | assumption) only [C.ref6_Two_gos, T.tv, ↓reduceIte, Nat.reduceEqDiff, reduceCtorEq, Nat.reduceLeDiff, Nat.reducePow, Int.reducePow, Int.reduceToNat, Nat.reduceAdd, zn, vf, ia, ib, Int.reduceEq, Int.reduceSub, Int.reduceMul, Int.reduceAdd, Int.reduceNeg, Int.reduceLT, Int.reduceLE]
  refine eff_callF rfl (double_any.mono ?_)
  rintro v1 h1 ⟨x1, rfl⟩
  simp (disch := first | omega | assumption) only [C.ref6_Two_gos, T.tv, ↓reduceIte, Nat.reduceEqDiff, reduceCtorEq, Nat.reduceLeDiff, Nat.reducePow, Int.reducePow, Int.reduceToNat, Nat.reduceAdd, zn, vf, ia, ib, Int.reduceEq, Int.reduceSub, Int.reduceMul, Int.reduceAdd, Int.reduceNeg, Int.reduceLT, Int.reduceLE]
  have oa := fun (h' : Heap) => ordered_any (h := h') (m := 52) (e := 11) (x := a) (y := b) (more := true) (.inr ⟨rfl, rfl⟩) (show _ < 2 ^ Ieee.double.width by rw [show (2 : Nat) ^ Ieee.double.width = 18446744073709551616 by decide]; omega) (show _ < 2 ^ Ieee.double.width by rw [show (2 : Nat) ^ Ieee.double.width = 18446744073709551616 by decide]; omega) (by omega) (by omega)
  rw [show fmt 52 11 = D from rfl] at oa
  generalize rordS D a b true = R at *
  refine eff_callF rfl ((oa _).mono ?_)
  rintro v2 h2 ⟨x2, rfl⟩
  simp (disch := first | omega | assumption) only [C.ref6_Two_gos, T.tv, ↓reduceIte, Nat.reduceEqDiff, reduceCtorEq, Nat.reduceLeDiff, Nat.reducePow, Int.reducePow, Int.reduceToNat, Nat.reduceAdd]
  first | exact x1.trans x2 | exact ⟨x1.trans x2, rfl⟩
theorem rbasic_all {h : Heap} {o a b : Nat} (ho : 96 ≤ o ∧ o ≤ 115) (ha : a < 18446744073709551616) (hb : b < 18446744073709551616) :
    HCalls Try.prog 5 #[.int .u8 (o : Int), .int .u64 (a : Int), .int .u64 (b : Int)] h fun v h' => Ext h h' ∧ v = .tuple #[.int .u64 (basS ((o - 96) % 4) ((o - 96) / 4) a b).1, .int .i64 (basS ((o - 96) % 4) ((o - 96) / 4) a b).2] := by
  obtain ⟨k, hk⟩ : ∃ k, k = (o - 96) % 4 := ⟨_, rfl⟩
  obtain ⟨w, hw⟩ : ∃ w, w = (o - 96) / 4 := ⟨_, rfl⟩
  rw [← hk, ← hw]
  rcases (by omega : k = 0 ∨ k = 1 ∨ k = 2 ∨ k = 3) with rfl | rfl | rfl | rfl
  · exact rtwo_b0 (by omega) (by omega) ha hb
  · exact rtwo_b1 (by omega) (by omega) ha hb
  · exact rtwo_b2 (by omega) (by omega) ha hb
  · exact rtwo_b3 (by omega) (by omega) ha hb
set_option maxHeartbeats 2000000 in
theorem rtwo_any {h : Heap} {o a b : Nat} (ha : a < 18446744073709551616) (hb : b < 18446744073709551616) :
    HCalls Try.prog 5 #[.int .u8 (o : Int), .int .u64 (a : Int), .int .u64 (b : Int)] h fun v h' => Ext h h' ∧ v = .tuple #[.int .u64 (twoS o a b).1, .int .i64 (twoS o a b).2] := by
  by_cases c1 : 96 ≤ o ∧ o ≤ 115
  · have e : twoS o a b = basS ((o - 96) % 4) ((o - 96) / 4) a b := by unfold twoS; rw [if_pos c1]
    rw [e]; exact rbasic_all c1 ha hb
  by_cases c2 : 120 ≤ o ∧ o ≤ 131
  · have e : twoS o a b = (((bitS o a b : Nat) : Int), 0) := by unfold twoS; rw [if_neg c1, if_pos c2]
    rw [e]
    rcases (by omega : o = 120 ∨ o = 121 ∨ o = 122 ∨ o = 123 ∨ o = 124 ∨ o = 125 ∨ o = 126 ∨ o = 127 ∨ o = 128 ∨ o = 129 ∨ o = 130 ∨ o = 131) with rfl | rfl | rfl | rfl | rfl | rfl | rfl | rfl | rfl | rfl | rfl | rfl

    · exact rtwo_120 ha hb
    · exact rtwo_121 ha hb
    · exact rtwo_122 ha hb
    · exact rtwo_123 ha hb
    · exact rtwo_124 ha hb
    · exact rtwo_125 ha hb
    · exact rtwo_126 ha hb
    · exact rtwo_127 ha hb
    · exact rtwo_128 ha hb
    · exact rtwo_129 ha hb
    · exact rtwo_130 ha hb
    · exact rtwo_131 ha hb
  by_cases c3 : o = 148
  · subst c3; exact rtwo_148 ha hb
  by_cases c4 : o = 149
  · subst c4; exact rtwo_149 ha hb
  by_cases c5 : o = 150
  · subst c5; exact rtwo_150 ha hb
  by_cases c6 : o = 151
  · subst c6; exact rtwo_151 ha hb
  by_cases c7 : o = 152
  · subst c7; exact rtwo_152 ha hb
  have e : twoS o a b = (0, 14) := by
    unfold twoS; rw [if_neg c1, if_neg c2, if_neg c3, if_neg (by omega), if_neg (by omega)]
  rw [e]
  refine C.ref6_Two_calls (args := [.int .u8 (o : Int), .int .u64 (a : Int), .int .u64 (b : Int)]) rfl ?_
  have d3 : ¬ (o : Int) = 148 := by omega
  have d4 : ¬ (o : Int) = 149 := by omega
  have d5 : ¬ (o : Int) = 150 := by omega
  have d6 : ¬ (o : Int) = 151 := by omega
  have d7 : ¬ (o : Int) = 152 := by omega
  have g1 : ¬ (o : Int) = 126 := by omega
  have g2 : ¬ (o : Int) = 127 := by omega
  have g3 : ¬ (o : Int) = 128 := by omega
  have g4 : ¬ (o : Int) = 129 := by omega
  have g5 : ¬ (o : Int) = 130 := by omega
  have g6 : ¬ (o : Int) = 131 := by omega
  by_cases x1 : (96 : Int) ≤ (o : Int)
  · have d2 : ¬ (o : Int) ≤ 115 := by omega
    by_cases x2 : (120 : Int) ≤ (o : Int)
    · have x3 : ¬ (o : Int) ≤ 125 := by omega
      simp (disch := first | omega | assumption) only [C.ref6_Two_gos, T.tv, ↓reduceIte, Nat.reduceEqDiff, reduceCtorEq, Nat.reduceLeDiff, Nat.reducePow, Int.reducePow, Int.reduceToNat, Nat.reduceAdd, x1, d2, x2, x3, d3, d4, d5, d6, d7, g1, g2, g3, g4, g5, g6]
      first | exact Ext.refl _ | exact ⟨Ext.refl _, rfl⟩
    · simp (disch := first | omega | assumption) only [C.ref6_Two_gos, T.tv, ↓reduceIte, Nat.reduceEqDiff, reduceCtorEq, Nat.reduceLeDiff, Nat.reducePow, Int.reducePow, Int.reduceToNat, Nat.reduceAdd, x1, d2, x2, d3, d4, d5, d6, d7, g1, g2, g3, g4, g5, g6]
      first | exact Ext.refl _ | exact ⟨Ext.refl _, rfl⟩
  · have x2 : ¬ (120 : Int) ≤ (o : Int) := by omega
    simp (disch := first | omega | assumption) only [C.ref6_Two_gos, T.tv, ↓reduceIte, Nat.reduceEqDiff, reduceCtorEq, Nat.reduceLeDiff, Nat.reducePow, Int.reducePow, Int.reduceToNat, Nat.reduceAdd, x1, x2, d3, d4, d5, d6, d7, g1, g2, g3, g4, g5, g6]
    first | exact Ext.refl _ | exact ⟨Ext.refl _, rfl⟩
/-- The law on heaps. -/
theorem numTwo_any {h : Heap} {o a b : Nat} (ha : a < 18446744073709551616) (hb : b < 18446744073709551616) :
    HCalls Try.prog 3 #[.int .u8 (o : Int), .int .u64 (a : Int), .int .u64 (b : Int)] h fun v h' => Ext h h' ∧ v = .bool true := by
  refine C.law5_NumTwo_calls (args := [.int .u8 (o : Int), .int .u64 (a : Int), .int .u64 (b : Int)]) rfl ?_
  have P1 := fun (h' : Heap) => two_any (h := h') (o := o) ha hb
  have P2 := fun (h' : Heap) => rtwo_any (h := h') (o := o) ha hb
  generalize twoS o a b = z at *
  obtain ⟨z1, z2⟩ := z
  simp (disch := first | omega | assumption) only [C.law5_NumTwo_gos, T.tv, ↓reduceIte, Nat.reduceEqDiff, reduceCtorEq, Nat.reduceLeDiff, Nat.reducePow, Int.reducePow, Int.reduceToNat, Nat.reduceAdd]
  refine eff_callF rfl ((P1 _).mono ?_)
  rintro v1 h1 ⟨rfl, rfl⟩
  simp (disch := first | omega | assumption) only [C.law5_NumTwo_gos, T.tv, ↓reduceIte, Nat.reduceEqDiff, reduceCtorEq, Nat.reduceLeDiff, Nat.reducePow, Int.reducePow, Int.reduceToNat, Nat.reduceAdd]
  refine eff_callF rfl ((P2 _).mono ?_)
  rintro v2 h2 ⟨x2, rfl⟩
  simp (disch := first | omega | assumption) only [C.law5_NumTwo_gos, T.tv, ↓reduceIte, Nat.reduceEqDiff, reduceCtorEq, Nat.reduceLeDiff, Nat.reducePow, Int.reducePow, Int.reduceToNat, Nat.reduceAdd]
  first | exact x2 | exact ⟨x2, rfl⟩
end Go.Proofs.Ytedleaeohbjfnaa
