/- num.Two: what it gives. No condition. -/
import Derived.Test.YtedleaeohbjfnaaRF
namespace Go.Proofs.Ytedleaeohbjfnaa
open Go.Vc Go.Num
set_option maxRecDepth 100000
set_option linter.unusedSimpArgs false
set_option linter.unusedVariables false

/-- The order of two whole numbers as a word. -/
def cmpS (x y : Int) : Int := if x < y then 4294967295 else if y < x then 1 else 0
/-- What an instruction of two values gives: a word and an error's number. -/
def twoS (o a b : Nat) : Int × Int :=
  if 96 ≤ o ∧ o ≤ 115 then basS ((o - 96) % 4) ((o - 96) / 4) a b
  else if 120 ≤ o ∧ o ≤ 131 then (((bitS o a b : Nat) : Int), 0)
  else if o = 148 then (cmpS (sgI 18446744073709551616 a) (sgI 18446744073709551616 b), 0)
  else if o = 149 ∨ o = 150 then (rordS SG (a % 4294967296) (b % 4294967296) (decide (o = 150)), 0)
  else if o = 151 ∨ o = 152 then (rordS D a b (decide (o = 152)), 0)
  else (0, 14)
theorem basic_all {h : Heap} {o a b : Nat} (ho : 96 ≤ o ∧ o ≤ 115) (ha : a < 18446744073709551616) (hb : b < 18446744073709551616) :
    HCalls Try.prog 6 #[.int .u8 (o : Int), .int .u64 (a : Int), .int .u64 (b : Int)] h fun v h' => h' = h ∧ v = .tuple #[.int .u64 (basS ((o - 96) % 4) ((o - 96) / 4) a b).1, .int .i64 (basS ((o - 96) % 4) ((o - 96) / 4) a b).2] := by
  obtain ⟨k, hk⟩ : ∃ k, k = (o - 96) % 4 := ⟨_, rfl⟩
  obtain ⟨w, hw⟩ : ∃ w, w = (o - 96) / 4 := ⟨_, rfl⟩
  rw [← hk, ← hw]
  rcases (by omega : k = 0 ∨ k = 1 ∨ k = 2 ∨ k = 3) with rfl | rfl | rfl | rfl
  · exact basic_0 (by omega) (by omega) ha hb
  · exact basic_1 (by omega) (by omega) ha hb
  · exact basic_2 (by omega) (by omega) ha hb
  · exact basic_3 (by omega) (by omega) ha hb
theorem bits_all {h : Heap} {o a b : Nat} (ho : 120 ≤ o ∧ o ≤ 131) (ha : a < 18446744073709551616) (hb : b < 18446744073709551616) :
    HCalls Try.prog 7 #[.int .u8 (o : Int), .int .u64 (a : Int), .int .u64 (b : Int)] h fun v h' => h' = h ∧ v = .int .u64 ((bitS o a b : Nat) : Int) := by
  rcases (by omega : o = 120 ∨ o = 121 ∨ o = 122 ∨ o = 123 ∨ o = 124 ∨ o = 125 ∨ o = 126 ∨ o = 127 ∨ o = 128 ∨ o = 129 ∨ o = 130 ∨ o = 131) with rfl | rfl | rfl | rfl | rfl | rfl | rfl | rfl | rfl | rfl | rfl | rfl

  · exact bits_120 ha hb
  · exact bits_121 ha hb
  · exact bits_122 ha hb
  · exact bits_123 ha hb
  · exact bits_124 ha hb
  · exact bits_125 ha hb
  · exact bits_126 ha hb
  · exact bits_127 ha hb
  · exact bits_128 ha hb
  · exact bits_129 ha hb
  · exact bits_130 ha hb
  · exact bits_131 ha hb
theorem ord_law {f : Ieee.Format} (hf : 2 ≤ f.exponentBits) (x y : Nat) (more : Bool) :
    (f.infRung < rung f x ∨ f.infRung < rung f y → f.order x y = none ∧ rordS f x y more = if more = true then 1 else 4294967295) ∧
    (rung f x ≤ f.infRung → rung f y ≤ f.infRung → rordS f x y more = ordS (f.order x y == some .lt) (f.order x y == some .gt) false 0) ∧
    (f.order x x != some .eq) = decide (f.infRung < rung f x) ∧ (f.order y y != some .eq) = decide (f.infRung < rung f y) := by
  have self : ∀ z, (f.order z z != some .eq) = decide (f.infRung < rung f z) := by
    intro z
    by_cases c : f.infRung < rung f z
    · rw [order_nan f hf (.inl c), decide_eq_true c]; rfl
    · rw [order_rank f hf (by omega) (by omega), decide_eq_false c, bne, cmp_eq, decide_eq_true rfl]; rfl
  refine ⟨fun h => ⟨order_nan f hf h, ?_⟩, fun hx hy => ?_, self x, self y⟩
  · unfold rordS; rw [if_pos h]
  · unfold rordS ordS
    rw [if_neg (by omega), order_rank f hf hx hy, cmp_lt, cmp_gt]
    simp only [decide_eq_true_eq, Bool.false_eq_true, if_false]

set_option maxHeartbeats 2000000 in
theorem two_149 {h : Heap} {a b : Nat} (ha : a < 18446744073709551616) (hb : b < 18446744073709551616) :
    HCalls Try.prog 4 #[.int .u8 ((149 : Nat) : Int), .int .u64 (a : Int), .int .u64 (b : Int)] h fun v h' => h' = h ∧ v = .tuple #[.int .u64 (rordS SG (a % 4294967296) (b % 4294967296) false), .int .i64 0] := by
  refine C.num_Two_calls (args := [.int .u8 ((149 : Nat) : Int), .int .u64 (a : Int), .int .u64 (b : Int)]) rfl ?_
  have zn : ((149 : Nat) : Int) = 149 := rfl
  obtain ⟨L1, L2, L3, L4⟩ := ord_law (f := SG) (by decide) (a % 4294967296) (b % 4294967296) false
  simp (disch := first | omega | assumption) only [C.num_Two_gos, T.tv, ↓reduceIte, Nat.reduceEqDiff, reduceCtorEq, Nat.reduceLeDiff, Nat.reducePow, Int.reducePow, Int.reduceToNat, Nat.reduceAdd, zn, vf, Int.reduceEq, Int.reduceSub, Int.reduceMul, Int.reduceAdd, Int.reduceNeg, Int.reduceLT, Int.reduceLE]
  refine eff_callF rfl (f32_any.mono ?_)
  rintro v1 h1 ⟨rfl, rfl⟩
  simp (disch := first | omega | assumption) only [C.num_Two_gos, T.tv, ↓reduceIte, Nat.reduceEqDiff, reduceCtorEq, Nat.reduceLeDiff, Nat.reducePow, Int.reducePow, Int.reduceToNat, Nat.reduceAdd]
  refine eff_callF rfl (f32_any.mono ?_)
  rintro v2 h2 ⟨rfl, rfl⟩
  generalize hA : rordS SG (a % 4294967296) (b % 4294967296) false = R at *
  by_cases c1 : SG.infRung < rung SG (a % 4294967296)
  · rw [decide_eq_true c1] at L3
    have L := (L1 (.inl c1)).2
    have L3' : ((FloatKind.f32.format).order (a % 4294967296) (a % 4294967296) != some .eq) = true := L3
    simp (disch := first | omega | assumption) only [C.num_Two_gos, T.tv, ↓reduceIte, Nat.reduceEqDiff, reduceCtorEq, Nat.reduceLeDiff, Nat.reducePow, Int.reducePow, Int.reduceToNat, Nat.reduceAdd, zn, vf, L3', Int.reduceEq, Int.reduceSub, Int.reduceMul, Int.reduceAdd, Int.reduceNeg, Int.reduceLT, Int.reduceLE]
    refine eff_callF rfl ((order_any (by omega)).mono ?_)
    rintro v4 h4 ⟨rfl, rfl⟩
    have e : ordS (FloatKind.f32.format.order (a % 4294967296) (b % 4294967296) == some .lt) (FloatKind.f32.format.order (a % 4294967296) (b % 4294967296) == some .gt) true (-1) = R := by rw [L]; rfl
    simp (disch := first | omega | assumption) only [C.num_Two_gos, T.tv, ↓reduceIte, Nat.reduceEqDiff, reduceCtorEq, Nat.reduceLeDiff, Nat.reducePow, Int.reducePow, Int.reduceToNat, Nat.reduceAdd, e]
  · rw [decide_eq_false c1] at L3
    have L3' : ((FloatKind.f32.format).order (a % 4294967296) (a % 4294967296) != some .eq) = false := L3
    by_cases c2 : SG.infRung < rung SG (b % 4294967296)
    · rw [decide_eq_true c2] at L4
      have L := (L1 (.inr c2)).2
      have L4' : ((FloatKind.f32.format).order (b % 4294967296) (b % 4294967296) != some .eq) = true := L4
      simp (disch := first | omega | assumption) only [C.num_Two_gos, T.tv, ↓reduceIte, Nat.reduceEqDiff, reduceCtorEq, Nat.reduceLeDiff, Nat.reducePow, Int.reducePow, Int.reduceToNat, Nat.reduceAdd, zn, vf, L3', L4', Int.reduceEq, Int.reduceSub, Int.reduceMul, Int.reduceAdd, Int.reduceNeg, Int.reduceLT, Int.reduceLE]
      refine eff_callF rfl ((order_any (by omega)).mono ?_)
      rintro v4 h4 ⟨rfl, rfl⟩
      have e : ordS (FloatKind.f32.format.order (a % 4294967296) (b % 4294967296) == some .lt) (FloatKind.f32.format.order (a % 4294967296) (b % 4294967296) == some .gt) true (-1) = R := by rw [L]; rfl
      simp (disch := first | omega | assumption) only [C.num_Two_gos, T.tv, ↓reduceIte, Nat.reduceEqDiff, reduceCtorEq, Nat.reduceLeDiff, Nat.reducePow, Int.reducePow, Int.reduceToNat, Nat.reduceAdd, e]
    · rw [decide_eq_false c2] at L4
      have L := L2 (by omega) (by omega)
      have L4' : ((FloatKind.f32.format).order (b % 4294967296) (b % 4294967296) != some .eq) = false := L4
      simp (disch := first | omega | assumption) only [C.num_Two_gos, T.tv, ↓reduceIte, Nat.reduceEqDiff, reduceCtorEq, Nat.reduceLeDiff, Nat.reducePow, Int.reducePow, Int.reduceToNat, Nat.reduceAdd, zn, vf, L3', L4', Int.reduceEq, Int.reduceSub, Int.reduceMul, Int.reduceAdd, Int.reduceNeg, Int.reduceLT, Int.reduceLE]
      refine eff_callF rfl ((order_any (by omega)).mono ?_)
      rintro v4 h4 ⟨rfl, rfl⟩
      have e : ordS (FloatKind.f32.format.order (a % 4294967296) (b % 4294967296) == some .lt) (FloatKind.f32.format.order (a % 4294967296) (b % 4294967296) == some .gt) false (-1) = R := by rw [L]; rfl
      simp (disch := first | omega | assumption) only [C.num_Two_gos, T.tv, ↓reduceIte, Nat.reduceEqDiff, reduceCtorEq, Nat.reduceLeDiff, Nat.reducePow, Int.reducePow, Int.reduceToNat, Nat.reduceAdd, e]
set_option maxHeartbeats 2000000 in
theorem two_150 {h : Heap} {a b : Nat} (ha : a < 18446744073709551616) (hb : b < 18446744073709551616) :
    HCalls Try.prog 4 #[.int .u8 ((150 : Nat) : Int), .int .u64 (a : Int), .int .u64 (b : Int)] h fun v h' => h' = h ∧ v = .tuple #[.int .u64 (rordS SG (a % 4294967296) (b % 4294967296) true), .int .i64 0] := by
  refine C.num_Two_calls (args := [.int .u8 ((150 : Nat) : Int), .int .u64 (a : Int), .int .u64 (b : Int)]) rfl ?_
  have zn : ((150 : Nat) : Int) = 150 := rfl
  obtain ⟨L1, L2, L3, L4⟩ := ord_law (f := SG) (by decide) (a % 4294967296) (b % 4294967296) true
  simp (disch := first | omega | assumption) only [C.num_Two_gos, T.tv, ↓reduceIte, Nat.reduceEqDiff, reduceCtorEq, Nat.reduceLeDiff, Nat.reducePow, Int.reducePow, Int.reduceToNat, Nat.reduceAdd, zn, vf, Int.reduceEq, Int.reduceSub, Int.reduceMul, Int.reduceAdd, Int.reduceNeg, Int.reduceLT, Int.reduceLE]
  refine eff_callF rfl (f32_any.mono ?_)
  rintro v1 h1 ⟨rfl, rfl⟩
  simp (disch := first | omega | assumption) only [C.num_Two_gos, T.tv, ↓reduceIte, Nat.reduceEqDiff, reduceCtorEq, Nat.reduceLeDiff, Nat.reducePow, Int.reducePow, Int.reduceToNat, Nat.reduceAdd]
  refine eff_callF rfl (f32_any.mono ?_)
  rintro v2 h2 ⟨rfl, rfl⟩
  generalize hA : rordS SG (a % 4294967296) (b % 4294967296) true = R at *
  by_cases c1 : SG.infRung < rung SG (a % 4294967296)
  · rw [decide_eq_true c1] at L3
    have L := (L1 (.inl c1)).2
    have L3' : ((FloatKind.f32.format).order (a % 4294967296) (a % 4294967296) != some .eq) = true := L3
    simp (disch := first | omega | assumption) only [C.num_Two_gos, T.tv, ↓reduceIte, Nat.reduceEqDiff, reduceCtorEq, Nat.reduceLeDiff, Nat.reducePow, Int.reducePow, Int.reduceToNat, Nat.reduceAdd, zn, vf, L3', Int.reduceEq, Int.reduceSub, Int.reduceMul, Int.reduceAdd, Int.reduceNeg, Int.reduceLT, Int.reduceLE]
    refine eff_callF rfl ((order_any (by omega)).mono ?_)
    rintro v4 h4 ⟨rfl, rfl⟩
    have e : ordS (FloatKind.f32.format.order (a % 4294967296) (b % 4294967296) == some .lt) (FloatKind.f32.format.order (a % 4294967296) (b % 4294967296) == some .gt) true 1 = R := by rw [L]; rfl
    simp (disch := first | omega | assumption) only [C.num_Two_gos, T.tv, ↓reduceIte, Nat.reduceEqDiff, reduceCtorEq, Nat.reduceLeDiff, Nat.reducePow, Int.reducePow, Int.reduceToNat, Nat.reduceAdd, e]
  · rw [decide_eq_false c1] at L3
    have L3' : ((FloatKind.f32.format).order (a % 4294967296) (a % 4294967296) != some .eq) = false := L3
    by_cases c2 : SG.infRung < rung SG (b % 4294967296)
    · rw [decide_eq_true c2] at L4
      have L := (L1 (.inr c2)).2
      have L4' : ((FloatKind.f32.format).order (b % 4294967296) (b % 4294967296) != some .eq) = true := L4
      simp (disch := first | omega | assumption) only [C.num_Two_gos, T.tv, ↓reduceIte, Nat.reduceEqDiff, reduceCtorEq, Nat.reduceLeDiff, Nat.reducePow, Int.reducePow, Int.reduceToNat, Nat.reduceAdd, zn, vf, L3', L4', Int.reduceEq, Int.reduceSub, Int.reduceMul, Int.reduceAdd, Int.reduceNeg, Int.reduceLT, Int.reduceLE]
      refine eff_callF rfl ((order_any (by omega)).mono ?_)
      rintro v4 h4 ⟨rfl, rfl⟩
      have e : ordS (FloatKind.f32.format.order (a % 4294967296) (b % 4294967296) == some .lt) (FloatKind.f32.format.order (a % 4294967296) (b % 4294967296) == some .gt) true 1 = R := by rw [L]; rfl
      simp (disch := first | omega | assumption) only [C.num_Two_gos, T.tv, ↓reduceIte, Nat.reduceEqDiff, reduceCtorEq, Nat.reduceLeDiff, Nat.reducePow, Int.reducePow, Int.reduceToNat, Nat.reduceAdd, e]
    · rw [decide_eq_false c2] at L4
      have L := L2 (by omega) (by omega)
      have L4' : ((FloatKind.f32.format).order (b % 4294967296) (b % 4294967296) != some .eq) = false := L4
      simp (disch := first | omega | assumption) only [C.num_Two_gos, T.tv, ↓reduceIte, Nat.reduceEqDiff, reduceCtorEq, Nat.reduceLeDiff, Nat.reducePow, Int.reducePow, Int.reduceToNat, Nat.reduceAdd, zn, vf, L3', L4', Int.reduceEq, Int.reduceSub, Int.reduceMul, Int.reduceAdd, Int.reduceNeg, Int.reduceLT, Int.reduceLE]
      refine eff_callF rfl ((order_any (by omega)).mono ?_)
      rintro v4 h4 ⟨rfl, rfl⟩
      have e : ordS (FloatKind.f32.format.order (a % 4294967296) (b % 4294967296) == some .lt) (FloatKind.f32.format.order (a % 4294967296) (b % 4294967296) == some .gt) false 1 = R := by rw [L]; rfl
      simp (disch := first | omega | assumption) only [C.num_Two_gos, T.tv, ↓reduceIte, Nat.reduceEqDiff, reduceCtorEq, Nat.reduceLeDiff, Nat.reducePow, Int.reducePow, Int.reduceToNat, Nat.reduceAdd, e]
set_option maxHeartbeats 2000000 in
theorem two_151 {h : Heap} {a b : Nat} (ha : a < 18446744073709551616) (hb : b < 18446744073709551616) :
    HCalls Try.prog 4 #[.int .u8 ((151 : Nat) : Int), .int .u64 (a : Int), .int .u64 (b : Int)] h fun v h' => h' = h ∧ v = .tuple #[.int .u64 (rordS D a b false), .int .i64 0] := by
  refine C.num_Two_calls (args := [.int .u8 ((151 : Nat) : Int), .int .u64 (a : Int), .int .u64 (b : Int)]) rfl ?_
  have zn : ((151 : Nat) : Int) = 151 := rfl
  obtain ⟨L1, L2, L3, L4⟩ := ord_law (f := D) (by decide) a b false
  simp (disch := first | omega | assumption) only [C.num_Two_gos, T.tv, ↓reduceIte, Nat.reduceEqDiff, reduceCtorEq, Nat.reduceLeDiff, Nat.reducePow, Int.reducePow, Int.reduceToNat, Nat.reduceAdd, zn, vf, Int.reduceEq, Int.reduceSub, Int.reduceMul, Int.reduceAdd, Int.reduceNeg, Int.reduceLT, Int.reduceLE]
  refine eff_callF rfl (f64_any.mono ?_)
  rintro v1 h1 ⟨rfl, rfl⟩
  simp (disch := first | omega | assumption) only [C.num_Two_gos, T.tv, ↓reduceIte, Nat.reduceEqDiff, reduceCtorEq, Nat.reduceLeDiff, Nat.reducePow, Int.reducePow, Int.reduceToNat, Nat.reduceAdd]
  refine eff_callF rfl (f64_any.mono ?_)
  rintro v2 h2 ⟨rfl, rfl⟩
  generalize hA : rordS D a b false = R at *
  by_cases c1 : D.infRung < rung D a
  · rw [decide_eq_true c1] at L3
    have L := (L1 (.inl c1)).2
    have L3' : ((FloatKind.f64.format).order a a != some .eq) = true := L3
    simp (disch := first | omega | assumption) only [C.num_Two_gos, T.tv, ↓reduceIte, Nat.reduceEqDiff, reduceCtorEq, Nat.reduceLeDiff, Nat.reducePow, Int.reducePow, Int.reduceToNat, Nat.reduceAdd, zn, vf, L3', Int.reduceEq, Int.reduceSub, Int.reduceMul, Int.reduceAdd, Int.reduceNeg, Int.reduceLT, Int.reduceLE]
    refine eff_callF rfl ((order_any (by omega)).mono ?_)
    rintro v4 h4 ⟨rfl, rfl⟩
    have e : ordS (FloatKind.f64.format.order a b == some .lt) (FloatKind.f64.format.order a b == some .gt) true (-1) = R := by rw [L]; rfl
    simp (disch := first | omega | assumption) only [C.num_Two_gos, T.tv, ↓reduceIte, Nat.reduceEqDiff, reduceCtorEq, Nat.reduceLeDiff, Nat.reducePow, Int.reducePow, Int.reduceToNat, Nat.reduceAdd, e]
  · rw [decide_eq_false c1] at L3
    have L3' : ((FloatKind.f64.format).order a a != some .eq) = false := L3
    by_cases c2 : D.infRung < rung D b
    · rw [decide_eq_true c2] at L4
      have L := (L1 (.inr c2)).2
      have L4' : ((FloatKind.f64.format).order b b != some .eq) = true := L4
      simp (disch := first | omega | assumption) only [C.num_Two_gos, T.tv, ↓reduceIte, Nat.reduceEqDiff, reduceCtorEq, Nat.reduceLeDiff, Nat.reducePow, Int.reducePow, Int.reduceToNat, Nat.reduceAdd, zn, vf, L3', L4', Int.reduceEq, Int.reduceSub, Int.reduceMul, Int.reduceAdd, Int.reduceNeg, Int.reduceLT, Int.reduceLE]
      refine eff_callF rfl ((order_any (by omega)).mono ?_)
      rintro v4 h4 ⟨rfl, rfl⟩
      have e : ordS (FloatKind.f64.format.order a b == some .lt) (FloatKind.f64.format.order a b == some .gt) true (-1) = R := by rw [L]; rfl
      simp (disch := first | omega | assumption) only [C.num_Two_gos, T.tv, ↓reduceIte, Nat.reduceEqDiff, reduceCtorEq, Nat.reduceLeDiff, Nat.reducePow, Int.reducePow, Int.reduceToNat, Nat.reduceAdd, e]
    · rw [decide_eq_false c2] at L4
      have L := L2 (by omega) (by omega)
      have L4' : ((FloatKind.f64.format).order b b != some .eq) = false := L4
      simp (disch := first | omega | assumption) only [C.num_Two_gos, T.tv, ↓reduceIte, Nat.reduceEqDiff, reduceCtorEq, Nat.reduceLeDiff, Nat.reducePow, Int.reducePow, Int.reduceToNat, Nat.reduceAdd, zn, vf, L3', L4', Int.reduceEq, Int.reduceSub, Int.reduceMul, Int.reduceAdd, Int.reduceNeg, Int.reduceLT, Int.reduceLE]
      refine eff_callF rfl ((order_any (by omega)).mono ?_)
      rintro v4 h4 ⟨rfl, rfl⟩
      have e : ordS (FloatKind.f64.format.order a b == some .lt) (FloatKind.f64.format.order a b == some .gt) false (-1) = R := by rw [L]; rfl
      simp (disch := first | omega | assumption) only [C.num_Two_gos, T.tv, ↓reduceIte, Nat.reduceEqDiff, reduceCtorEq, Nat.reduceLeDiff, Nat.reducePow, Int.reducePow, Int.reduceToNat, Nat.reduceAdd, e]
set_option maxHeartbeats 2000000 in
theorem two_152 {h : Heap} {a b : Nat} (ha : a < 18446744073709551616) (hb : b < 18446744073709551616) :
    HCalls Try.prog 4 #[.int .u8 ((152 : Nat) : Int), .int .u64 (a : Int), .int .u64 (b : Int)] h fun v h' => h' = h ∧ v = .tuple #[.int .u64 (rordS D a b true), .int .i64 0] := by
  refine C.num_Two_calls (args := [.int .u8 ((152 : Nat) : Int), .int .u64 (a : Int), .int .u64 (b : Int)]) rfl ?_
  have zn : ((152 : Nat) : Int) = 152 := rfl
  obtain ⟨L1, L2, L3, L4⟩ := ord_law (f := D) (by decide) a b true
  simp (disch := first | omega | assumption) only [C.num_Two_gos, T.tv, ↓reduceIte, Nat.reduceEqDiff, reduceCtorEq, Nat.reduceLeDiff, Nat.reducePow, Int.reducePow, Int.reduceToNat, Nat.reduceAdd, zn, vf, Int.reduceEq, Int.reduceSub, Int.reduceMul, Int.reduceAdd, Int.reduceNeg, Int.reduceLT, Int.reduceLE]
  refine eff_callF rfl (f64_any.mono ?_)
  rintro v1 h1 ⟨rfl, rfl⟩
  simp (disch := first | omega | assumption) only [C.num_Two_gos, T.tv, ↓reduceIte, Nat.reduceEqDiff, reduceCtorEq, Nat.reduceLeDiff, Nat.reducePow, Int.reducePow, Int.reduceToNat, Nat.reduceAdd]
  refine eff_callF rfl (f64_any.mono ?_)
  rintro v2 h2 ⟨rfl, rfl⟩
  generalize hA : rordS D a b true = R at *
  by_cases c1 : D.infRung < rung D a
  · rw [decide_eq_true c1] at L3
    have L := (L1 (.inl c1)).2
    have L3' : ((FloatKind.f64.format).order a a != some .eq) = true := L3
    simp (disch := first | omega | assumption) only [C.num_Two_gos, T.tv, ↓reduceIte, Nat.reduceEqDiff, reduceCtorEq, Nat.reduceLeDiff, Nat.reducePow, Int.reducePow, Int.reduceToNat, Nat.reduceAdd, zn, vf, L3', Int.reduceEq, Int.reduceSub, Int.reduceMul, Int.reduceAdd, Int.reduceNeg, Int.reduceLT, Int.reduceLE]
    refine eff_callF rfl ((order_any (by omega)).mono ?_)
    rintro v4 h4 ⟨rfl, rfl⟩
    have e : ordS (FloatKind.f64.format.order a b == some .lt) (FloatKind.f64.format.order a b == some .gt) true 1 = R := by rw [L]; rfl
    simp (disch := first | omega | assumption) only [C.num_Two_gos, T.tv, ↓reduceIte, Nat.reduceEqDiff, reduceCtorEq, Nat.reduceLeDiff, Nat.reducePow, Int.reducePow, Int.reduceToNat, Nat.reduceAdd, e]
  · rw [decide_eq_false c1] at L3
    have L3' : ((FloatKind.f64.format).order a a != some .eq) = false := L3
    by_cases c2 : D.infRung < rung D b
    · rw [decide_eq_true c2] at L4
      have L := (L1 (.inr c2)).2
      have L4' : ((FloatKind.f64.format).order b b != some .eq) = true := L4
      simp (disch := first | omega | assumption) only [C.num_Two_gos, T.tv, ↓reduceIte, Nat.reduceEqDiff, reduceCtorEq, Nat.reduceLeDiff, Nat.reducePow, Int.reducePow, Int.reduceToNat, Nat.reduceAdd, zn, vf, L3', L4', Int.reduceEq, Int.reduceSub, Int.reduceMul, Int.reduceAdd, Int.reduceNeg, Int.reduceLT, Int.reduceLE]
      refine eff_callF rfl ((order_any (by omega)).mono ?_)
      rintro v4 h4 ⟨rfl, rfl⟩
      have e : ordS (FloatKind.f64.format.order a b == some .lt) (FloatKind.f64.format.order a b == some .gt) true 1 = R := by rw [L]; rfl
      simp (disch := first | omega | assumption) only [C.num_Two_gos, T.tv, ↓reduceIte, Nat.reduceEqDiff, reduceCtorEq, Nat.reduceLeDiff, Nat.reducePow, Int.reducePow, Int.reduceToNat, Nat.reduceAdd, e]
    · rw [decide_eq_false c2] at L4
      have L := L2 (by omega) (by omega)
      have L4' : ((FloatKind.f64.format).order b b != some .eq) = false := L4
      simp (disch := first | omega | assumption) only [C.num_Two_gos, T.tv, ↓reduceIte, Nat.reduceEqDiff, reduceCtorEq, Nat.reduceLeDiff, Nat.reducePow, Int.reducePow, Int.reduceToNat, Nat.reduceAdd, zn, vf, L3', L4', Int.reduceEq, Int.reduceSub, Int.reduceMul, Int.reduceAdd, Int.reduceNeg, Int.reduceLT, Int.reduceLE]
      refine eff_callF rfl ((order_any (by omega)).mono ?_)
      rintro v4 h4 ⟨rfl, rfl⟩
      have e : ordS (FloatKind.f64.format.order a b == some .lt) (FloatKind.f64.format.order a b == some .gt) false 1 = R := by rw [L]; rfl
      simp (disch := first | omega | assumption) only [C.num_Two_gos, T.tv, ↓reduceIte, Nat.reduceEqDiff, reduceCtorEq, Nat.reduceLeDiff, Nat.reducePow, Int.reducePow, Int.reduceToNat, Nat.reduceAdd, e]
set_option maxHeartbeats 2000000 in
theorem two_148 {h : Heap} {a b : Nat} (ha : a < 18446744073709551616) (hb : b < 18446744073709551616) :
    HCalls Try.prog 4 #[.int .u8 ((148 : Nat) : Int), .int .u64 (a : Int), .int .u64 (b : Int)] h fun v h' => h' = h ∧ v = .tuple #[.int .u64 (cmpS (sgI 18446744073709551616 a) (sgI 18446744073709551616 b)), .int .i64 0] := by
  refine C.num_Two_calls (args := [.int .u8 ((148 : Nat) : Int), .int .u64 (a : Int), .int .u64 (b : Int)]) rfl ?_
  have zn : ((148 : Nat) : Int) = 148 := rfl
  have sa := wrap_s64 a
  have sb := wrap_s64 b
  rw [Nat.mod_eq_of_lt ha] at sa
  rw [Nat.mod_eq_of_lt hb] at sb
  generalize sgI 18446744073709551616 a = x at *
  generalize sgI 18446744073709551616 b = y at *
  simp (disch := first | omega | assumption) only [C.num_Two_gos, T.tv, ↓reduceIte, Nat.reduceEqDiff, reduceCtorEq, Nat.reduceLeDiff, Nat.reducePow, Int.reducePow, Int.reduceToNat, Nat.reduceAdd, zn, vf, sa, sb, Int.reduceEq, Int.reduceSub, Int.reduceMul, Int.reduceAdd, Int.reduceNeg, Int.reduceLT, Int.reduceLE]
  refine eff_callF rfl ((order_any (by omega)).mono ?_)
  rintro v4 h4 ⟨rfl, rfl⟩
  have e : ordS (decide (x < y)) (decide (y < x)) false 0 = cmpS x y := by
    unfold ordS cmpS
    simp only [decide_eq_true_eq, Bool.false_eq_true, if_false]
  simp (disch := first | omega | assumption) only [C.num_Two_gos, T.tv, ↓reduceIte, Nat.reduceEqDiff, reduceCtorEq, Nat.reduceLeDiff, Nat.reducePow, Int.reducePow, Int.reduceToNat, Nat.reduceAdd, e]
set_option maxHeartbeats 2000000 in
theorem two_any {h : Heap} {o a b : Nat} (ha : a < 18446744073709551616) (hb : b < 18446744073709551616) :
    HCalls Try.prog 4 #[.int .u8 (o : Int), .int .u64 (a : Int), .int .u64 (b : Int)] h fun v h' => h' = h ∧ v = .tuple #[.int .u64 (twoS o a b).1, .int .i64 (twoS o a b).2] := by
  by_cases c1 : 96 ≤ o ∧ o ≤ 115
  · have e : twoS o a b = basS ((o - 96) % 4) ((o - 96) / 4) a b := by unfold twoS; rw [if_pos c1]
    rw [e]
    refine C.num_Two_calls (args := [.int .u8 (o : Int), .int .u64 (a : Int), .int .u64 (b : Int)]) rfl ?_
    have d1 : (96 : Int) ≤ (o : Int) := by omega
    have d2 : (o : Int) ≤ 115 := by omega
    generalize hz : basS ((o - 96) % 4) ((o - 96) / 4) a b = z at *
    simp (disch := first | omega | assumption) only [C.num_Two_gos, T.tv, ↓reduceIte, Nat.reduceEqDiff, reduceCtorEq, Nat.reduceLeDiff, Nat.reducePow, Int.reducePow, Int.reduceToNat, Nat.reduceAdd, d1, d2]
    refine eff_callF rfl ((basic_all c1 ha hb).mono ?_)
    rintro v1 h1 ⟨rfl, rfl⟩
    rw [hz]
    simp (disch := first | omega | assumption) only [C.num_Two_gos, T.tv, ↓reduceIte, Nat.reduceEqDiff, reduceCtorEq, Nat.reduceLeDiff, Nat.reducePow, Int.reducePow, Int.reduceToNat, Nat.reduceAdd]
  by_cases c2 : 120 ≤ o ∧ o ≤ 131
  · have e : twoS o a b = (((bitS o a b : Nat) : Int), 0) := by unfold twoS; rw [if_neg c1, if_pos c2]
    rw [e]
    refine C.num_Two_calls (args := [.int .u8 (o : Int), .int .u64 (a : Int), .int .u64 (b : Int)]) rfl ?_
    have d1 : (96 : Int) ≤ (o : Int) := by omega
    have d2 : ¬ (o : Int) ≤ 115 := by omega
    have d3 : (120 : Int) ≤ (o : Int) := by omega
    have d4 : (o : Int) ≤ 131 := by omega
    generalize hz : bitS o a b = z at *
    simp (disch := first | omega | assumption) only [C.num_Two_gos, T.tv, ↓reduceIte, Nat.reduceEqDiff, reduceCtorEq, Nat.reduceLeDiff, Nat.reducePow, Int.reducePow, Int.reduceToNat, Nat.reduceAdd, d1, d2, d3, d4]
    refine eff_callF rfl ((bits_all c2 ha hb).mono ?_)
    rintro v1 h1 ⟨rfl, rfl⟩
    rw [hz]
    simp (disch := first | omega | assumption) only [C.num_Two_gos, T.tv, ↓reduceIte, Nat.reduceEqDiff, reduceCtorEq, Nat.reduceLeDiff, Nat.reducePow, Int.reducePow, Int.reduceToNat, Nat.reduceAdd]
  by_cases c3 : o = 148
  · subst c3; exact two_148 ha hb
  by_cases c4 : o = 149
  · subst c4; exact two_149 ha hb
  by_cases c5 : o = 150
  · subst c5; exact two_150 ha hb
  by_cases c6 : o = 151
  · subst c6; exact two_151 ha hb
  by_cases c7 : o = 152
  · subst c7; exact two_152 ha hb
  have e : twoS o a b = (0, 14) := by
    unfold twoS; rw [if_neg c1, if_neg c2, if_neg c3, if_neg (by omega), if_neg (by omega)]
  rw [e]
  refine C.num_Two_calls (args := [.int .u8 (o : Int), .int .u64 (a : Int), .int .u64 (b : Int)]) rfl ?_
  have d3 : ¬ (o : Int) = 148 := by omega
  have d4 : ¬ (o : Int) = 149 := by omega
  have d5 : ¬ (o : Int) = 150 := by omega
  have d6 : ¬ (o : Int) = 151 := by omega
  have d7 : ¬ (o : Int) = 152 := by omega
  by_cases x1 : (96 : Int) ≤ (o : Int)
  · have d2 : ¬ (o : Int) ≤ 115 := by omega
    by_cases x2 : (120 : Int) ≤ (o : Int)
    · have x3 : ¬ (o : Int) ≤ 131 := by omega
      simp (disch := first | omega | assumption) only [C.num_Two_gos, T.tv, ↓reduceIte, Nat.reduceEqDiff, reduceCtorEq, Nat.reduceLeDiff, Nat.reducePow, Int.reducePow, Int.reduceToNat, Nat.reduceAdd, x1, d2, x2, x3, d3, d4, d5, d6, d7]
    · simp (disch := first | omega | assumption) only [C.num_Two_gos, T.tv, ↓reduceIte, Nat.reduceEqDiff, reduceCtorEq, Nat.reduceLeDiff, Nat.reducePow, Int.reducePow, Int.reduceToNat, Nat.reduceAdd, x1, d2, x2, d3, d4, d5, d6, d7]
  · have x2 : ¬ (120 : Int) ≤ (o : Int) := by omega
    simp (disch := first | omega | assumption) only [C.num_Two_gos, T.tv, ↓reduceIte, Nat.reduceEqDiff, reduceCtorEq, Nat.reduceLeDiff, Nat.reducePow, Int.reducePow, Int.reduceToNat, Nat.reduceAdd, x1, x2, d3, d4, d5, d6, d7]
end Go.Proofs.Ytedleaeohbjfnaa
