/- The reference's Two: what it gives. No condition. -/
import Derived.Test.YtedleaeohbjfnaaRG
namespace Go.Proofs.Ytedleaeohbjfnaa
open Go.Vc Go.Num
set_option maxRecDepth 100000
set_option linter.unusedSimpArgs false
set_option linter.unusedVariables false

theorem xor_two {n x : Nat} (h : x < 2 ^ n) : x ^^^ 2 ^ n = 2 ^ n + x := by
  apply Nat.eq_of_testBit_eq
  intro i
  rw [Nat.testBit_xor]
  rcases Nat.lt_trichotomy i n with c | c | c
  · rw [Nat.testBit_two_pow_add_gt c, Nat.testBit_two_pow_of_ne (by omega), Bool.xor_false]
  · subst c
    rw [Nat.testBit_two_pow_add_eq, Nat.testBit_two_pow_self, Bool.xor_true]
  · have l1 : x < 2 ^ i := Nat.lt_trans h (Nat.pow_lt_pow_right (by decide) c)
    have l2 : 2 ^ n + x < 2 ^ i := Nat.lt_of_lt_of_le (show 2 ^ n + x < 2 ^ (n + 1) by rw [Nat.pow_succ]; omega) (Nat.pow_le_pow_right (by decide) c)
    rw [Nat.testBit_lt_two_pow l1, Nat.testBit_lt_two_pow l2, Nat.testBit_two_pow_of_ne (by omega)]
    rfl
theorem xor_top {x : Nat} (h : x < 18446744073709551616) : x ^^^ 9223372036854775808 = if x < 9223372036854775808 then x + 9223372036854775808 else x - 9223372036854775808 := by
  have p : (2 : Nat) ^ 63 = 9223372036854775808 := by decide
  split
  · next c =>
    have := xor_two (n := 63) (x := x) (by rw [p]; exact c)
    rw [p] at this
    omega
  · next c =>
    have := xor_two (n := 63) (x := x - 9223372036854775808) (by rw [p]; omega)
    rw [p, show 9223372036854775808 + (x - 9223372036854775808) = x by omega] at this
    rw [← this, Nat.xor_assoc, Nat.xor_self, Nat.xor_zero]
    omega
theorem xor_lt {x y : Nat} (hx : x < 18446744073709551616) (hy : y < 18446744073709551616) : (((x ^^^ 9223372036854775808 : Nat) : Int) < ((y ^^^ 9223372036854775808 : Nat) : Int)) ↔ sgI 18446744073709551616 x < sgI 18446744073709551616 y := by
  rw [xor_top hx, xor_top hy]
  unfold sgI
  split <;> split <;> omega

theorem rwhole32_any {h : Heap} {w a b : Nat} (hw : w ≤ 4) (ha : a < 4294967296) (hb : b < 4294967296) (h0 : 3 ≤ w → b ≠ 0) :
    HCalls Try.prog 11 #[.int .i64 (w : Int), .int .u64 (a : Int), .int .u64 (b : Int), .int .i64 32] h fun v h' => h' = h ∧ v = .int .u64 (whS 4294967296 w (sgI 4294967296 a) (sgI 4294967296 b)) := by
  rcases (by omega : w = 0 ∨ w = 1 ∨ w = 2 ∨ w = 3 ∨ w = 4) with rfl | rfl | rfl | rfl | rfl
  · exact rwhole32_0 ha hb h0
  · exact rwhole32_1 ha hb h0
  · exact rwhole32_2 ha hb h0
  · exact rwhole32_3 ha hb h0
  · exact rwhole32_4 ha hb h0
theorem rwhole64_any {h : Heap} {w a b : Nat} (hw : w ≤ 4) (ha : a < 18446744073709551616) (hb : b < 18446744073709551616) (h0 : 3 ≤ w → b ≠ 0) :
    HCalls Try.prog 11 #[.int .i64 (w : Int), .int .u64 (a : Int), .int .u64 (b : Int), .int .i64 64] h fun v h' => h' = h ∧ v = .int .u64 (whS 18446744073709551616 w (sgI 18446744073709551616 a) (sgI 18446744073709551616 b)) := by
  rcases (by omega : w = 0 ∨ w = 1 ∨ w = 2 ∨ w = 3 ∨ w = 4) with rfl | rfl | rfl | rfl | rfl
  · exact rwhole64_0 ha hb h0
  · exact rwhole64_1 ha hb h0
  · exact rwhole64_2 ha hb h0
  · exact rwhole64_3 ha hb h0
  · exact rwhole64_4 ha hb h0
set_option maxHeartbeats 2000000 in
theorem rtwo_b0 {h : Heap} {o w a b : Nat} (hw : w ≤ 4) (ho : o = 96 + 4 * w + 0) (ha : a < 18446744073709551616) (hb : b < 18446744073709551616) :
    HCalls Try.prog 5 #[.int .u8 (o : Int), .int .u64 (a : Int), .int .u64 (b : Int)] h fun v h' => Ext h h' ∧ v = .tuple #[.int .u64 (basS 0 w a b).1, .int .i64 (basS 0 w a b).2] := by
  refine C.ref6_Two_calls (args := [.int .u8 (o : Int), .int .u64 (a : Int), .int .u64 (b : Int)]) rfl ?_
  have ia : (a : Int) % 4294967296 = ((a % 4294967296 : Nat) : Int) := by omega
  have ib : (b : Int) % 4294967296 = ((b % 4294967296 : Nat) : Int) := by omega
  have c1 : (96 : Int) ≤ (o : Int) := by omega
  have c2 : (o : Int) ≤ 115 := by omega
  have e1 : (o : Int) - 96 = ((4 * w + 0 : Nat) : Int) := by omega
  have e0 : IntKind.u8.wrap ((4 * w + 0 : Nat) : Int) = ((4 * w + 0 : Nat) : Int) := wrap_u8 (by omega) (by omega)
  have e5 : IntKind.i64.wrap ((4 * w + 0 : Nat) : Int) = ((4 * w + 0 : Nat) : Int) := wrap_i64 (by omega) (by omega)
  have e3 : ((4 * w + 0 : Nat) : Int) / 4 = (w : Int) := by omega
  have e4 : IntKind.i64.wrap (w : Int) = (w : Int) := wrap_i64 (by omega) (by omega)
  have e2 : (o : Int) % 4 = 0 := by omega
  clear ho
  generalize ((4 * w + 0 : Nat) : Int) = z at *

  have f0 : basS 0 w a b = if 2 < w ∧ (b % 4294967296) = 0 then (0, 27) else (whS 4294967296 w (sgI 4294967296 (a % 4294967296)) (sgI 4294967296 (b % 4294967296)), 0) := rfl
  by_cases d1 : (2 : Int) < (w : Int)
  · by_cases d2 : ((b % 4294967296 : Nat) : Int) = 0
    · rw [f0, if_pos ⟨by omega, by omega⟩]
      simp (disch := first | omega | assumption) only [C.ref6_Two_gos, T.tv, ↓reduceIte, Nat.reduceEqDiff, reduceCtorEq, Nat.reduceLeDiff, Nat.reducePow, Int.reducePow, Int.reduceToNat, Nat.reduceAdd, vf, c1, c2, e0, e1, e2, e3, e4, e5, ia, ib, d1, d2, Int.reduceEq, Int.reduceSub, Int.reduceMul, Int.reduceAdd, Int.reduceNeg, Int.reduceLT, Int.reduceLE]
      first | exact Ext.refl _ | exact ⟨Ext.refl _, rfl⟩
    · rw [f0, if_neg (by omega)]
      simp (disch := first | omega | assumption) only [C.ref6_Two_gos, T.tv, ↓reduceIte, Nat.reduceEqDiff, reduceCtorEq, Nat.reduceLeDiff, Nat.reducePow, Int.reducePow, Int.reduceToNat, Nat.reduceAdd, vf, c1, c2, e0, e1, e2, e3, e4, e5, ia, ib, d1, d2, Int.reduceEq, Int.reduceSub, Int.reduceMul, Int.reduceAdd, Int.reduceNeg, Int.reduceLT, Int.reduceLE]
      refine eff_callF rfl ((rwhole32_any hw (Nat.mod_lt _ (by decide)) (Nat.mod_lt _ (by decide)) (fun _ => by omega)).mono ?_)
      rintro v1 h1 ⟨rfl, rfl⟩
      simp (disch := first | omega | assumption) only [C.ref6_Two_gos, T.tv, ↓reduceIte, Nat.reduceEqDiff, reduceCtorEq, Nat.reduceLeDiff, Nat.reducePow, Int.reducePow, Int.reduceToNat, Nat.reduceAdd]
      first | exact Ext.refl _ | exact ⟨Ext.refl _, rfl⟩
  · rw [f0, if_neg (by omega)]
    simp (disch := first | omega | assumption) only [C.ref6_Two_gos, T.tv, ↓reduceIte, Nat.reduceEqDiff, reduceCtorEq, Nat.reduceLeDiff, Nat.reducePow, Int.reducePow, Int.reduceToNat, Nat.reduceAdd, vf, c1, c2, e0, e1, e2, e3, e4, e5, ia, ib, d1, Int.reduceEq, Int.reduceSub, Int.reduceMul, Int.reduceAdd, Int.reduceNeg, Int.reduceLT, Int.reduceLE]
    refine eff_callF rfl ((rwhole32_any hw (Nat.mod_lt _ (by decide)) (Nat.mod_lt _ (by decide)) (fun _ => by omega)).mono ?_)
    rintro v1 h1 ⟨rfl, rfl⟩
    simp (disch := first | omega | assumption) only [C.ref6_Two_gos, T.tv, ↓reduceIte, Nat.reduceEqDiff, reduceCtorEq, Nat.reduceLeDiff, Nat.reducePow, Int.reducePow, Int.reduceToNat, Nat.reduceAdd]
    first | exact Ext.refl _ | exact ⟨Ext.refl _, rfl⟩
set_option maxHeartbeats 2000000 in
theorem rtwo_b1 {h : Heap} {o w a b : Nat} (hw : w ≤ 4) (ho : o = 96 + 4 * w + 1) (ha : a < 18446744073709551616) (hb : b < 18446744073709551616) :
    HCalls Try.prog 5 #[.int .u8 (o : Int), .int .u64 (a : Int), .int .u64 (b : Int)] h fun v h' => Ext h h' ∧ v = .tuple #[.int .u64 (basS 1 w a b).1, .int .i64 (basS 1 w a b).2] := by
  refine C.ref6_Two_calls (args := [.int .u8 (o : Int), .int .u64 (a : Int), .int .u64 (b : Int)]) rfl ?_
  have ia : (a : Int) % 4294967296 = ((a % 4294967296 : Nat) : Int) := by omega
  have ib : (b : Int) % 4294967296 = ((b % 4294967296 : Nat) : Int) := by omega
  have c1 : (96 : Int) ≤ (o : Int) := by omega
  have c2 : (o : Int) ≤ 115 := by omega
  have e1 : (o : Int) - 96 = ((4 * w + 1 : Nat) : Int) := by omega
  have e0 : IntKind.u8.wrap ((4 * w + 1 : Nat) : Int) = ((4 * w + 1 : Nat) : Int) := wrap_u8 (by omega) (by omega)
  have e5 : IntKind.i64.wrap ((4 * w + 1 : Nat) : Int) = ((4 * w + 1 : Nat) : Int) := wrap_i64 (by omega) (by omega)
  have e3 : ((4 * w + 1 : Nat) : Int) / 4 = (w : Int) := by omega
  have e4 : IntKind.i64.wrap (w : Int) = (w : Int) := wrap_i64 (by omega) (by omega)
  have e2 : (o : Int) % 4 = 1 := by omega
  clear ho
  generalize ((4 * w + 1 : Nat) : Int) = z at *

  have f0 : basS 1 w a b = if 2 < w ∧ b = 0 then (0, 27) else (whS 18446744073709551616 w (sgI 18446744073709551616 a) (sgI 18446744073709551616 b), 0) := rfl
  by_cases d1 : (2 : Int) < (w : Int)
  · by_cases d2 : (b : Int) = 0
    · rw [f0, if_pos ⟨by omega, by omega⟩]
      simp (disch := first | omega | assumption) only [C.ref6_Two_gos, T.tv, ↓reduceIte, Nat.reduceEqDiff, reduceCtorEq, Nat.reduceLeDiff, Nat.reducePow, Int.reducePow, Int.reduceToNat, Nat.reduceAdd, vf, c1, c2, e0, e1, e2, e3, e4, e5, ia, ib, d1, d2, Int.reduceEq, Int.reduceSub, Int.reduceMul, Int.reduceAdd, Int.reduceNeg, Int.reduceLT, Int.reduceLE]
      first | exact Ext.refl _ | exact ⟨Ext.refl _, rfl⟩
    · rw [f0, if_neg (by omega)]
      simp (disch := first | omega | assumption) only [C.ref6_Two_gos, T.tv, ↓reduceIte, Nat.reduceEqDiff, reduceCtorEq, Nat.reduceLeDiff, Nat.reducePow, Int.reducePow, Int.reduceToNat, Nat.reduceAdd, vf, c1, c2, e0, e1, e2, e3, e4, e5, ia, ib, d1, d2, Int.reduceEq, Int.reduceSub, Int.reduceMul, Int.reduceAdd, Int.reduceNeg, Int.reduceLT, Int.reduceLE]
      refine eff_callF rfl ((rwhole64_any hw ha hb (fun _ => by omega)).mono ?_)
      rintro v1 h1 ⟨rfl, rfl⟩
      simp (disch := first | omega | assumption) only [C.ref6_Two_gos, T.tv, ↓reduceIte, Nat.reduceEqDiff, reduceCtorEq, Nat.reduceLeDiff, Nat.reducePow, Int.reducePow, Int.reduceToNat, Nat.reduceAdd]
      first | exact Ext.refl _ | exact ⟨Ext.refl _, rfl⟩
  · rw [f0, if_neg (by omega)]
    simp (disch := first | omega | assumption) only [C.ref6_Two_gos, T.tv, ↓reduceIte, Nat.reduceEqDiff, reduceCtorEq, Nat.reduceLeDiff, Nat.reducePow, Int.reducePow, Int.reduceToNat, Nat.reduceAdd, vf, c1, c2, e0, e1, e2, e3, e4, e5, ia, ib, d1, Int.reduceEq, Int.reduceSub, Int.reduceMul, Int.reduceAdd, Int.reduceNeg, Int.reduceLT, Int.reduceLE]
    refine eff_callF rfl ((rwhole64_any hw ha hb (fun _ => by omega)).mono ?_)
    rintro v1 h1 ⟨rfl, rfl⟩
    simp (disch := first | omega | assumption) only [C.ref6_Two_gos, T.tv, ↓reduceIte, Nat.reduceEqDiff, reduceCtorEq, Nat.reduceLeDiff, Nat.reducePow, Int.reducePow, Int.reduceToNat, Nat.reduceAdd]
    first | exact Ext.refl _ | exact ⟨Ext.refl _, rfl⟩
set_option maxHeartbeats 2000000 in
theorem rtwo_b2 {h : Heap} {o w a b : Nat} (hw : w ≤ 4) (ho : o = 96 + 4 * w + 2) (ha : a < 18446744073709551616) (hb : b < 18446744073709551616) :
    HCalls Try.prog 5 #[.int .u8 (o : Int), .int .u64 (a : Int), .int .u64 (b : Int)] h fun v h' => Ext h h' ∧ v = .tuple #[.int .u64 (basS 2 w a b).1, .int .i64 (basS 2 w a b).2] := by
  refine C.ref6_Two_calls (args := [.int .u8 (o : Int), .int .u64 (a : Int), .int .u64 (b : Int)]) rfl ?_
  have ia : (a : Int) % 4294967296 = ((a % 4294967296 : Nat) : Int) := by omega
  have ib : (b : Int) % 4294967296 = ((b % 4294967296 : Nat) : Int) := by omega
  have c1 : (96 : Int) ≤ (o : Int) := by omega
  have c2 : (o : Int) ≤ 115 := by omega
  have e1 : (o : Int) - 96 = ((4 * w + 2 : Nat) : Int) := by omega
  have e0 : IntKind.u8.wrap ((4 * w + 2 : Nat) : Int) = ((4 * w + 2 : Nat) : Int) := wrap_u8 (by omega) (by omega)
  have e5 : IntKind.i64.wrap ((4 * w + 2 : Nat) : Int) = ((4 * w + 2 : Nat) : Int) := wrap_i64 (by omega) (by omega)
  have e3 : ((4 * w + 2 : Nat) : Int) / 4 = (w : Int) := by omega
  have e4 : IntKind.i64.wrap (w : Int) = (w : Int) := wrap_i64 (by omega) (by omega)
  have e2 : (o : Int) % 4 = 2 := by omega
  clear ho
  generalize ((4 * w + 2 : Nat) : Int) = z at *

  have spec : refOp (fmt 23 8) w (a % 4294967296) (b % 4294967296) = opS SG w (a % 4294967296) (b % 4294967296) := refOp_spec (.inl ⟨rfl, rfl⟩) w (a % 4294967296) (b % 4294967296)
  have f0 : basS 2 w a b = (((opS SG w (a % 4294967296) (b % 4294967296) : Nat) : Int), 0) := rfl
  rw [f0]
  generalize opS SG w (a % 4294967296) (b % 4294967296) = R at *
  simp (disch := first | omega | assumption) only [C.ref6_Two_gos, T.tv, ↓reduceIte, Nat.reduceEqDiff, reduceCtorEq, Nat.reduceLeDiff, Nat.reducePow, Int.reducePow, Int.reduceToNat, Nat.reduceAdd, vf, c1, c2, e0, e1, e2, e3, e4, e5, ia, ib, Int.reduceEq, Int.reduceSub, Int.reduceMul, Int.reduceAdd, Int.reduceNeg, Int.reduceLT, Int.reduceLE]
  refine eff_callF rfl (single_any.mono ?_)
  rintro v1 h1 ⟨x1, rfl⟩
  simp (disch := first | omega | assumption) only [C.ref6_Two_gos, T.tv, ↓reduceIte, Nat.reduceEqDiff, reduceCtorEq, Nat.reduceLeDiff, Nat.reducePow, Int.reducePow, Int.reduceToNat, Nat.reduceAdd]
  refine eff_callF rfl ((basic_any (m := 23) (e := 8) (w := w) (x := (a % 4294967296)) (y := (b % 4294967296)) (.inl ⟨rfl, rfl⟩) (by omega) (by omega) (by omega)).mono ?_)
  rintro v2 h2 ⟨x2, rfl⟩
  rw [spec]
  simp (disch := first | omega | assumption) only [C.ref6_Two_gos, T.tv, ↓reduceIte, Nat.reduceEqDiff, reduceCtorEq, Nat.reduceLeDiff, Nat.reducePow, Int.reducePow, Int.reduceToNat, Nat.reduceAdd]
  first | exact x1.trans x2 | exact ⟨x1.trans x2, rfl⟩
set_option maxHeartbeats 2000000 in
theorem rtwo_b3 {h : Heap} {o w a b : Nat} (hw : w ≤ 4) (ho : o = 96 + 4 * w + 3) (ha : a < 18446744073709551616) (hb : b < 18446744073709551616) :
    HCalls Try.prog 5 #[.int .u8 (o : Int), .int .u64 (a : Int), .int .u64 (b : Int)] h fun v h' => Ext h h' ∧ v = .tuple #[.int .u64 (basS 3 w a b).1, .int .i64 (basS 3 w a b).2] := by
  refine C.ref6_Two_calls (args := [.int .u8 (o : Int), .int .u64 (a : Int), .int .u64 (b : Int)]) rfl ?_
  have ia : (a : Int) % 4294967296 = ((a % 4294967296 : Nat) : Int) := by omega
  have ib : (b : Int) % 4294967296 = ((b % 4294967296 : Nat) : Int) := by omega
  have c1 : (96 : Int) ≤ (o : Int) := by omega
  have c2 : (o : Int) ≤ 115 := by omega
  have e1 : (o : Int) - 96 = ((4 * w + 3 : Nat) : Int) := by omega
  have e0 : IntKind.u8.wrap ((4 * w + 3 : Nat) : Int) = ((4 * w + 3 : Nat) : Int) := wrap_u8 (by omega) (by omega)
  have e5 : IntKind.i64.wrap ((4 * w + 3 : Nat) : Int) = ((4 * w + 3 : Nat) : Int) := wrap_i64 (by omega) (by omega)
  have e3 : ((4 * w + 3 : Nat) : Int) / 4 = (w : Int) := by omega
  have e4 : IntKind.i64.wrap (w : Int) = (w : Int) := wrap_i64 (by omega) (by omega)
  have e2 : (o : Int) % 4 = 3 := by omega
  clear ho
  generalize ((4 * w + 3 : Nat) : Int) = z at *

  have spec : refOp (fmt 52 11) w a b = opS D w a b := refOp_spec (.inr ⟨rfl, rfl⟩) w a b
  have f0 : basS 3 w a b = (((opS D w a b : Nat) : Int), 0) := rfl
  rw [f0]
  generalize opS D w a b = R at *
  simp (disch := first | omega | assumption) only [C.ref6_Two_gos, T.tv, ↓reduceIte, Nat.reduceEqDiff, reduceCtorEq, Nat.reduceLeDiff, Nat.reducePow, Int.reducePow, Int.reduceToNat, Nat.reduceAdd, vf, c1, c2, e0, e1, e2, e3, e4, e5, ia, ib, Int.reduceEq, Int.reduceSub, Int.reduceMul, Int.reduceAdd, Int.reduceNeg, Int.reduceLT, Int.reduceLE]
  refine eff_callF rfl (double_any.mono ?_)
  rintro v1 h1 ⟨x1, rfl⟩
  simp (disch := first | omega | assumption) only [C.ref6_Two_gos, T.tv, ↓reduceIte, Nat.reduceEqDiff, reduceCtorEq, Nat.reduceLeDiff, Nat.reducePow, Int.reducePow, Int.reduceToNat, Nat.reduceAdd]
  refine eff_callF rfl ((basic_any (m := 52) (e := 11) (w := w) (x := a) (y := b) (.inr ⟨rfl, rfl⟩) (by omega) (by omega) (by omega)).mono ?_)
  rintro v2 h2 ⟨x2, rfl⟩
  rw [spec]
  simp (disch := first | omega | assumption) only [C.ref6_Two_gos, T.tv, ↓reduceIte, Nat.reduceEqDiff, reduceCtorEq, Nat.reduceLeDiff, Nat.reducePow, Int.reducePow, Int.reduceToNat, Nat.reduceAdd]
  first | exact x1.trans x2 | exact ⟨x1.trans x2, rfl⟩
end Go.Proofs.Ytedleaeohbjfnaa
