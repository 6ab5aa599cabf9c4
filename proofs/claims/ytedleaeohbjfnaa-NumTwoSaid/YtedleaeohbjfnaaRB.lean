/- Whole numbers of 32 and 64 bits, by the reference. No condition. -/
import Derived.Test.YtedleaeohbjfnaaRA
namespace Go.Proofs.Ytedleaeohbjfnaa
open Go.Vc Go.Num
set_option maxRecDepth 100000
set_option linter.unusedSimpArgs false
set_option linter.unusedVariables false

theorem wrap_neg {k : Nat} (hk : k < 18446744073709551616) : IntKind.u64.wrap (0 - (k : Int)) = (((18446744073709551616 - k) % 18446744073709551616 : Nat) : Int) := by
  simp only [IntKind.wrap, IntKind.bits, IntKind.signed, Bool.false_and, Bool.false_eq_true, if_false, Int.reducePow]
  omega
theorem and_neg32 {k : Nat} (hk : k < 18446744073709551616) : bitsV .and .u64 (IntKind.u64.wrap (0 - (k : Int))) 4294967295 = (-(k : Int)) % 4294967296 := by
  rw [wrap_neg hk]
  have h1 := and_mask (a := (18446744073709551616 - k) % 18446744073709551616) (n := 32) (by omega) (by decide)
  rw [show (((2 : Nat) ^ 32 - 1 : Nat) : Int) = 4294967295 by decide, show (2 : Nat) ^ 32 = 4294967296 by decide] at h1
  rw [h1]; omega
theorem and_pos32 {k : Nat} (hk : k < 18446744073709551616) : bitsV .and .u64 (k : Int) 4294967295 = (k : Int) % 4294967296 := by
  have h1 := and_mask (a := k) (n := 32) hk (by decide)
  rw [show (((2 : Nat) ^ 32 - 1 : Nat) : Int) = 4294967295 by decide, show (2 : Nat) ^ 32 = 4294967296 by decide] at h1
  rw [h1]; omega
set_option maxHeartbeats 6000000 in
theorem rwhole32_0 {h : Heap} {a b : Nat} (ha : a < 4294967296) (hb : b < 4294967296) (h0 : 3 ≤ 0 → b ≠ 0) :
    HCalls Try.prog 11 #[.int .i64 ((0 : Nat) : Int), .int .u64 (a : Int), .int .u64 (b : Int), .int .i64 32] h fun v h' => h' = h ∧ v = .int .u64 (whS 4294967296 0 (sgI 4294967296 a) (sgI 4294967296 b)) := by
  refine C.ref6_whole_calls (args := [.int .i64 ((0 : Nat) : Int), .int .u64 (a : Int), .int .u64 (b : Int), .int .i64 32]) rfl ?_
  have wz : IntKind.u64.wrap 18446744073709551616 = 0 := by decide
  have wm : IntKind.u64.wrap (-1) = 18446744073709551615 := by decide
  have sa : sgI 4294967296 a = if a < 2147483648 then (a : Int) else (a : Int) - 4294967296 := rfl
  have sb : sgI 4294967296 b = if b < 2147483648 then (b : Int) else (b : Int) - 4294967296 := rfl
  have zn : ((0 : Nat) : Int) = 0 := rfl
  have e1 : bitsV .and .u64 (IntKind.u64.wrap ((a : Int) + (b : Int))) 4294967295 = whS 4294967296 0 (sgI 4294967296 a) (sgI 4294967296 b) := by
    rw [show (a : Int) + (b : Int) = ((a + b : Nat) : Int) by omega, wrap_mod, and_pos32 (by omega)]
    show _ = (sgI 4294967296 a + sgI 4294967296 b) % 4294967296
    rw [sa, sb]; split <;> split <;> omega
  have e2 : IntKind.u64.wrap ((a : Int) + (b : Int)) = (((a + b) % 18446744073709551616 : Nat) : Int) := by
    rw [show (a : Int) + (b : Int) = ((a + b : Nat) : Int) by omega, wrap_mod]
  rw [e2] at e1
  generalize whS 4294967296 0 (sgI 4294967296 a) (sgI 4294967296 b) = R at *
  simp (disch := first | omega | assumption) only [C.ref6_whole_gos, T.tv, ↓reduceIte, Nat.reduceEqDiff, reduceCtorEq, Nat.reduceLeDiff, Nat.reducePow, Int.reducePow, Int.reduceToNat, Nat.reduceAdd, e2, e1, rdo_max, va, un_neg, Int.reduceEq, Int.reduceSub, Int.reduceMul, Int.reduceAdd, Int.reduceNeg, wz, wm, zn, wrap_u64]
set_option maxHeartbeats 6000000 in
theorem rwhole32_1 {h : Heap} {a b : Nat} (ha : a < 4294967296) (hb : b < 4294967296) (h0 : 3 ≤ 1 → b ≠ 0) :
    HCalls Try.prog 11 #[.int .i64 ((1 : Nat) : Int), .int .u64 (a : Int), .int .u64 (b : Int), .int .i64 32] h fun v h' => h' = h ∧ v = .int .u64 (whS 4294967296 1 (sgI 4294967296 a) (sgI 4294967296 b)) := by
  refine C.ref6_whole_calls (args := [.int .i64 ((1 : Nat) : Int), .int .u64 (a : Int), .int .u64 (b : Int), .int .i64 32]) rfl ?_
  have wz : IntKind.u64.wrap 18446744073709551616 = 0 := by decide
  have wm : IntKind.u64.wrap (-1) = 18446744073709551615 := by decide
  have sa : sgI 4294967296 a = if a < 2147483648 then (a : Int) else (a : Int) - 4294967296 := rfl
  have sb : sgI 4294967296 b = if b < 2147483648 then (b : Int) else (b : Int) - 4294967296 := rfl
  have zn : ((1 : Nat) : Int) = 1 := rfl
  have e2 : IntKind.u64.wrap ((a : Int) - (b : Int)) = (((18446744073709551616 + a - b) % 18446744073709551616 : Nat) : Int) := by
    simp only [IntKind.wrap, IntKind.bits, IntKind.signed, Bool.false_and, Bool.false_eq_true, if_false, Int.reducePow]
    omega
  have e1 : bitsV .and .u64 (((18446744073709551616 + a - b) % 18446744073709551616 : Nat) : Int) 4294967295 = whS 4294967296 1 (sgI 4294967296 a) (sgI 4294967296 b) := by
    rw [and_pos32 (by omega)]
    show _ = (sgI 4294967296 a - sgI 4294967296 b) % 4294967296
    rw [sa, sb]; split <;> split <;> omega
  generalize whS 4294967296 1 (sgI 4294967296 a) (sgI 4294967296 b) = R at *
  simp (disch := first | omega | assumption) only [C.ref6_whole_gos, T.tv, ↓reduceIte, Nat.reduceEqDiff, reduceCtorEq, Nat.reduceLeDiff, Nat.reducePow, Int.reducePow, Int.reduceToNat, Nat.reduceAdd, e2, e1, va, Int.reduceEq, Int.reduceSub, Int.reduceMul, Int.reduceAdd, Int.reduceNeg, wz, wm, zn, wrap_u64]
set_option maxHeartbeats 6000000 in
theorem rwhole32_2 {h : Heap} {a b : Nat} (ha : a < 4294967296) (hb : b < 4294967296) (h0 : 3 ≤ 2 → b ≠ 0) :
    HCalls Try.prog 11 #[.int .i64 ((2 : Nat) : Int), .int .u64 (a : Int), .int .u64 (b : Int), .int .i64 32] h fun v h' => h' = h ∧ v = .int .u64 (whS 4294967296 2 (sgI 4294967296 a) (sgI 4294967296 b)) := by
  refine C.ref6_whole_calls (args := [.int .i64 ((2 : Nat) : Int), .int .u64 (a : Int), .int .u64 (b : Int), .int .i64 32]) rfl ?_
  have wz : IntKind.u64.wrap 18446744073709551616 = 0 := by decide
  have wm : IntKind.u64.wrap (-1) = 18446744073709551615 := by decide
  have sa : sgI 4294967296 a = if a < 2147483648 then (a : Int) else (a : Int) - 4294967296 := rfl
  have sb : sgI 4294967296 b = if b < 2147483648 then (b : Int) else (b : Int) - 4294967296 := rfl
  have zn : ((2 : Nat) : Int) = 2 := rfl
  have e2 : IntKind.u64.wrap ((a : Int) * (b : Int)) = (((a * b) % 18446744073709551616 : Nat) : Int) := by
    rw [← Int.natCast_mul, wrap_mod]
  have e1 : bitsV .and .u64 (((a * b) % 18446744073709551616 : Nat) : Int) 4294967295 = whS 4294967296 2 (sgI 4294967296 a) (sgI 4294967296 b) := by
    rw [and_pos32 (Nat.mod_lt _ (by decide))]
    show _ = (sgI 4294967296 a * sgI 4294967296 b) % 4294967296
    have ma : sgI 4294967296 a % 4294967296 = (a : Int) := by rw [sa]; split <;> omega
    have mb : sgI 4294967296 b % 4294967296 = (b : Int) := by rw [sb]; split <;> omega
    rw [Int.mul_emod, ma, mb, ← Int.natCast_mul]
    generalize a * b = p
    omega
  generalize whS 4294967296 2 (sgI 4294967296 a) (sgI 4294967296 b) = R at *
  simp (disch := first | omega | assumption) only [C.ref6_whole_gos, T.tv, ↓reduceIte, Nat.reduceEqDiff, reduceCtorEq, Nat.reduceLeDiff, Nat.reducePow, Int.reducePow, Int.reduceToNat, Nat.reduceAdd, e2, e1, va, Int.reduceEq, Int.reduceSub, Int.reduceMul, Int.reduceAdd, Int.reduceNeg, wz, wm, zn, wrap_u64]
set_option maxHeartbeats 6000000 in
theorem rwhole32_3 {h : Heap} {a b : Nat} (ha : a < 4294967296) (hb : b < 4294967296) (h0 : 3 ≤ 3 → b ≠ 0) :
    HCalls Try.prog 11 #[.int .i64 ((3 : Nat) : Int), .int .u64 (a : Int), .int .u64 (b : Int), .int .i64 32] h fun v h' => h' = h ∧ v = .int .u64 (whS 4294967296 3 (sgI 4294967296 a) (sgI 4294967296 b)) := by
  have wz : IntKind.u64.wrap 18446744073709551616 = 0 := by decide
  have wm : IntKind.u64.wrap (-1) = 18446744073709551615 := by decide
  have sa : sgI 4294967296 a = if a < 2147483648 then (a : Int) else (a : Int) - 4294967296 := rfl
  have sb : sgI 4294967296 b = if b < 2147483648 then (b : Int) else (b : Int) - 4294967296 := rfl
  have zn : ((3 : Nat) : Int) = 3 := rfl
  have b0 := h0 (by decide)
  by_cases a1 : a < 2147483648
  all_goals by_cases b1 : b < 2147483648
  · obtain ⟨X, hX⟩ : ∃ X, X = a := ⟨_, rfl⟩
    obtain ⟨Y, hY⟩ : ∃ Y, Y = b := ⟨_, rfl⟩
    have hY0 : 0 < Y := by omega
    have sa' : sgI 4294967296 a = (X : Int) := by rw [sa, if_pos a1]; omega
    have sb' : sgI 4294967296 b = (Y : Int) := by rw [sb, if_pos b1]; omega
    have k1 : bitsV .and .u64 (IntKind.u64.wrap (0 - (a : Int))) 4294967295 = (-(a : Int)) % 4294967296 := and_neg32 (by omega)
    have k2 : bitsV .and .u64 (IntKind.u64.wrap (0 - (b : Int))) 4294967295 = (-(b : Int)) % 4294967296 := and_neg32 (by omega)
    have k3 : (-(a : Int)) % 4294967296 = ((4294967296 - a : Nat) : Int) ∨ a = 0 := by omega
    obtain ⟨q, hq⟩ : ∃ q, q = X / Y := ⟨_, rfl⟩
    obtain ⟨r, hr⟩ : ∃ r, r = X % Y := ⟨_, rfl⟩
    have hql : q ≤ X := by rw [hq]; exact Nat.div_le_self _ _
    have hrl : r ≤ X := by rw [hr]; exact Nat.mod_le _ _
    have dd : True := trivial
    have d1 : (X : Int) / (Y : Int) = (q : Int) := by rw [hq, Int.natCast_ediv]
    have d2 : (X : Int) % (Y : Int) = (r : Int) := by rw [hr, Int.natCast_emod]
    have t1 : (X : Int).tdiv (Y : Int) = (q : Int) := by rw [Int.tdiv_eq_ediv_of_nonneg (by omega), d1]
    have t2 : (X : Int).tmod (Y : Int) = (r : Int) := by rw [Int.tmod_eq_emod_of_nonneg (by omega), d2]
    have k4 : (a : Int) = (X : Int) := by omega
    have k5 : (b : Int) = (Y : Int) := by omega
    have w1 : IntKind.u64.wrap (q : Int) = q := wrap_u64 (by omega) (by omega)
    have nY : ¬ (Y : Int) = 0 := by omega
    have c1 : (a : Int) / 2147483648 = 0 := by omega
    have c2 : (b : Int) / 2147483648 = 0 := by omega
    have p1 : bitsV .and .u64 (q : Int) 4294967295 = (q : Int) % 4294967296 := and_pos32 (by omega)
    have p2 : bitsV .and .u64 (IntKind.u64.wrap (0 - (q : Int))) 4294967295 = (-(q : Int)) % 4294967296 := and_neg32 (by omega)
    have fin : whS 4294967296 3 (sgI 4294967296 a) (sgI 4294967296 b) = (q : Int) % 4294967296 := by
      rw [sa', sb']
      show ((X : Int)).tdiv ((Y : Int)) % 4294967296 = _
      rw [t1]
    rw [fin]
    subst X
    subst Y
    clear hq hr fin sa' sb' k3 t1 t2 sa sb hql hrl h0 a1 b1
    refine C.ref6_whole_calls (args := [.int .i64 ((3 : Nat) : Int), .int .u64 (a : Int), .int .u64 (b : Int), .int .i64 32]) rfl ?_
    simp (disch := first | omega | assumption) only [C.ref6_whole_gos, T.tv, ↓reduceIte, Nat.reduceEqDiff, reduceCtorEq, Nat.reduceLeDiff, Nat.reducePow, Int.reducePow, Int.reduceToNat, Nat.reduceAdd, vf, k1, k2, d1, d2, w1, ne_eq, nY, p1, p2, c1, c2, Int.reduceEq, Int.reduceSub, Int.reduceMul, Int.reduceAdd, Int.reduceNeg, wz, wm, zn]
  · obtain ⟨X, hX⟩ : ∃ X, X = a := ⟨_, rfl⟩
    obtain ⟨Y, hY⟩ : ∃ Y, Y = 4294967296 - b := ⟨_, rfl⟩
    have hY0 : 0 < Y := by omega
    have sa' : sgI 4294967296 a = (X : Int) := by rw [sa, if_pos a1]; omega
    have sb' : sgI 4294967296 b = -(Y : Int) := by rw [sb, if_neg b1]; omega
    have k1 : bitsV .and .u64 (IntKind.u64.wrap (0 - (a : Int))) 4294967295 = (-(a : Int)) % 4294967296 := and_neg32 (by omega)
    have k2 : bitsV .and .u64 (IntKind.u64.wrap (0 - (b : Int))) 4294967295 = (-(b : Int)) % 4294967296 := and_neg32 (by omega)
    have k3 : (-(a : Int)) % 4294967296 = ((4294967296 - a : Nat) : Int) ∨ a = 0 := by omega
    obtain ⟨q, hq⟩ : ∃ q, q = X / Y := ⟨_, rfl⟩
    obtain ⟨r, hr⟩ : ∃ r, r = X % Y := ⟨_, rfl⟩
    have hql : q ≤ X := by rw [hq]; exact Nat.div_le_self _ _
    have hrl : r ≤ X := by rw [hr]; exact Nat.mod_le _ _
    have dd : True := trivial
    have d1 : (X : Int) / (Y : Int) = (q : Int) := by rw [hq, Int.natCast_ediv]
    have d2 : (X : Int) % (Y : Int) = (r : Int) := by rw [hr, Int.natCast_emod]
    have t1 : (X : Int).tdiv (Y : Int) = (q : Int) := by rw [Int.tdiv_eq_ediv_of_nonneg (by omega), d1]
    have t2 : (X : Int).tmod (Y : Int) = (r : Int) := by rw [Int.tmod_eq_emod_of_nonneg (by omega), d2]
    have k4 : (a : Int) = (X : Int) := by omega
    have k5 : (-(b : Int)) % 4294967296 = (Y : Int) := by omega
    have w1 : IntKind.u64.wrap (q : Int) = q := wrap_u64 (by omega) (by omega)
    have nY : ¬ (Y : Int) = 0 := by omega
    have c1 : (a : Int) / 2147483648 = 0 := by omega
    have c2 : (b : Int) / 2147483648 = 1 := by omega
    have p1 : bitsV .and .u64 (q : Int) 4294967295 = (q : Int) % 4294967296 := and_pos32 (by omega)
    have p2 : bitsV .and .u64 (IntKind.u64.wrap (0 - (q : Int))) 4294967295 = (-(q : Int)) % 4294967296 := and_neg32 (by omega)
    have fin : whS 4294967296 3 (sgI 4294967296 a) (sgI 4294967296 b) = (-(q : Int)) % 4294967296 := by
      rw [sa', sb']
      show ((X : Int)).tdiv (-(Y : Int)) % 4294967296 = _
      rw [Int.tdiv_neg, t1]
    rw [fin]
    subst X
    clear hY
    clear hq hr fin sa' sb' k3 t1 t2 sa sb hql hrl h0 a1 b1
    refine C.ref6_whole_calls (args := [.int .i64 ((3 : Nat) : Int), .int .u64 (a : Int), .int .u64 (b : Int), .int .i64 32]) rfl ?_
    simp (disch := first | omega | assumption) only [C.ref6_whole_gos, T.tv, ↓reduceIte, Nat.reduceEqDiff, reduceCtorEq, Nat.reduceLeDiff, Nat.reducePow, Int.reducePow, Int.reduceToNat, Nat.reduceAdd, vf, k1, k2, k5, d1, d2, w1, ne_eq, nY, p1, p2, c1, c2, Int.reduceEq, Int.reduceSub, Int.reduceMul, Int.reduceAdd, Int.reduceNeg, wz, wm, zn]
  · obtain ⟨X, hX⟩ : ∃ X, X = 4294967296 - a := ⟨_, rfl⟩
    obtain ⟨Y, hY⟩ : ∃ Y, Y = b := ⟨_, rfl⟩
    have hY0 : 0 < Y := by omega
    have sa' : sgI 4294967296 a = -(X : Int) := by rw [sa, if_neg a1]; omega
    have sb' : sgI 4294967296 b = (Y : Int) := by rw [sb, if_pos b1]; omega
    have k1 : bitsV .and .u64 (IntKind.u64.wrap (0 - (a : Int))) 4294967295 = (-(a : Int)) % 4294967296 := and_neg32 (by omega)
    have k2 : bitsV .and .u64 (IntKind.u64.wrap (0 - (b : Int))) 4294967295 = (-(b : Int)) % 4294967296 := and_neg32 (by omega)
    have k3 : (-(a : Int)) % 4294967296 = ((4294967296 - a : Nat) : Int) ∨ a = 0 := by omega
    obtain ⟨q, hq⟩ : ∃ q, q = X / Y := ⟨_, rfl⟩
    obtain ⟨r, hr⟩ : ∃ r, r = X % Y := ⟨_, rfl⟩
    have hql : q ≤ X := by rw [hq]; exact Nat.div_le_self _ _
    have hrl : r ≤ X := by rw [hr]; exact Nat.mod_le _ _
    have dd : True := trivial
    have d1 : (X : Int) / (Y : Int) = (q : Int) := by rw [hq, Int.natCast_ediv]
    have d2 : (X : Int) % (Y : Int) = (r : Int) := by rw [hr, Int.natCast_emod]
    have t1 : (X : Int).tdiv (Y : Int) = (q : Int) := by rw [Int.tdiv_eq_ediv_of_nonneg (by omega), d1]
    have t2 : (X : Int).tmod (Y : Int) = (r : Int) := by rw [Int.tmod_eq_emod_of_nonneg (by omega), d2]
    have k4 : (-(a : Int)) % 4294967296 = (X : Int) := by omega
    have k5 : (b : Int) = (Y : Int) := by omega
    have w1 : IntKind.u64.wrap (q : Int) = q := wrap_u64 (by omega) (by omega)
    have nY : ¬ (Y : Int) = 0 := by omega
    have c1 : (a : Int) / 2147483648 = 1 := by omega
    have c2 : (b : Int) / 2147483648 = 0 := by omega
    have p1 : bitsV .and .u64 (q : Int) 4294967295 = (q : Int) % 4294967296 := and_pos32 (by omega)
    have p2 : bitsV .and .u64 (IntKind.u64.wrap (0 - (q : Int))) 4294967295 = (-(q : Int)) % 4294967296 := and_neg32 (by omega)
    have fin : whS 4294967296 3 (sgI 4294967296 a) (sgI 4294967296 b) = (-(q : Int)) % 4294967296 := by
      rw [sa', sb']
      show (-(X : Int)).tdiv ((Y : Int)) % 4294967296 = _
      rw [Int.neg_tdiv, t1]
    rw [fin]
    clear hX
    subst Y
    clear hq hr fin sa' sb' k3 t1 t2 sa sb hql hrl h0 a1 b1
    refine C.ref6_whole_calls (args := [.int .i64 ((3 : Nat) : Int), .int .u64 (a : Int), .int .u64 (b : Int), .int .i64 32]) rfl ?_
    simp (disch := first | omega | assumption) only [C.ref6_whole_gos, T.tv, ↓reduceIte, Nat.reduceEqDiff, reduceCtorEq, Nat.reduceLeDiff, Nat.reducePow, Int.reducePow, Int.reduceToNat, Nat.reduceAdd, vf, k1, k2, k4, d1, d2, w1, ne_eq, nY, p1, p2, c1, c2, Int.reduceEq, Int.reduceSub, Int.reduceMul, Int.reduceAdd, Int.reduceNeg, wz, wm, zn]
  · obtain ⟨X, hX⟩ : ∃ X, X = 4294967296 - a := ⟨_, rfl⟩
    obtain ⟨Y, hY⟩ : ∃ Y, Y = 4294967296 - b := ⟨_, rfl⟩
    have hY0 : 0 < Y := by omega
    have sa' : sgI 4294967296 a = -(X : Int) := by rw [sa, if_neg a1]; omega
    have sb' : sgI 4294967296 b = -(Y : Int) := by rw [sb, if_neg b1]; omega
    have k1 : bitsV .and .u64 (IntKind.u64.wrap (0 - (a : Int))) 4294967295 = (-(a : Int)) % 4294967296 := and_neg32 (by omega)
    have k2 : bitsV .and .u64 (IntKind.u64.wrap (0 - (b : Int))) 4294967295 = (-(b : Int)) % 4294967296 := and_neg32 (by omega)
    have k3 : (-(a : Int)) % 4294967296 = ((4294967296 - a : Nat) : Int) ∨ a = 0 := by omega
    obtain ⟨q, hq⟩ : ∃ q, q = X / Y := ⟨_, rfl⟩
    obtain ⟨r, hr⟩ : ∃ r, r = X % Y := ⟨_, rfl⟩
    have hql : q ≤ X := by rw [hq]; exact Nat.div_le_self _ _
    have hrl : r ≤ X := by rw [hr]; exact Nat.mod_le _ _
    have dd : True := trivial
    have d1 : (X : Int) / (Y : Int) = (q : Int) := by rw [hq, Int.natCast_ediv]
    have d2 : (X : Int) % (Y : Int) = (r : Int) := by rw [hr, Int.natCast_emod]
    have t1 : (X : Int).tdiv (Y : Int) = (q : Int) := by rw [Int.tdiv_eq_ediv_of_nonneg (by omega), d1]
    have t2 : (X : Int).tmod (Y : Int) = (r : Int) := by rw [Int.tmod_eq_emod_of_nonneg (by omega), d2]
    have k4 : (-(a : Int)) % 4294967296 = (X : Int) := by omega
    have k5 : (-(b : Int)) % 4294967296 = (Y : Int) := by omega
    have w1 : IntKind.u64.wrap (q : Int) = q := wrap_u64 (by omega) (by omega)
    have nY : ¬ (Y : Int) = 0 := by omega
    have c1 : (a : Int) / 2147483648 = 1 := by omega
    have c2 : (b : Int) / 2147483648 = 1 := by omega
    have p1 : bitsV .and .u64 (q : Int) 4294967295 = (q : Int) % 4294967296 := and_pos32 (by omega)
    have p2 : bitsV .and .u64 (IntKind.u64.wrap (0 - (q : Int))) 4294967295 = (-(q : Int)) % 4294967296 := and_neg32 (by omega)
    have fin : whS 4294967296 3 (sgI 4294967296 a) (sgI 4294967296 b) = (q : Int) % 4294967296 := by
      rw [sa', sb']
      show (-(X : Int)).tdiv (-(Y : Int)) % 4294967296 = _
      rw [Int.neg_tdiv, Int.tdiv_neg, t1, Int.neg_neg]
    rw [fin]
    clear hX
    clear hY
    clear hq hr fin sa' sb' k3 t1 t2 sa sb hql hrl h0 a1 b1
    refine C.ref6_whole_calls (args := [.int .i64 ((3 : Nat) : Int), .int .u64 (a : Int), .int .u64 (b : Int), .int .i64 32]) rfl ?_
    simp (disch := first | omega | assumption) only [C.ref6_whole_gos, T.tv, ↓reduceIte, Nat.reduceEqDiff, reduceCtorEq, Nat.reduceLeDiff, Nat.reducePow, Int.reducePow, Int.reduceToNat, Nat.reduceAdd, vf, k1, k2, k4, k5, d1, d2, w1, ne_eq, nY, p1, p2, c1, c2, Int.reduceEq, Int.reduceSub, Int.reduceMul, Int.reduceAdd, Int.reduceNeg, wz, wm, zn]
set_option maxHeartbeats 6000000 in
theorem rwhole32_4 {h : Heap} {a b : Nat} (ha : a < 4294967296) (hb : b < 4294967296) (h0 : 3 ≤ 4 → b ≠ 0) :
    HCalls Try.prog 11 #[.int .i64 ((4 : Nat) : Int), .int .u64 (a : Int), .int .u64 (b : Int), .int .i64 32] h fun v h' => h' = h ∧ v = .int .u64 (whS 4294967296 4 (sgI 4294967296 a) (sgI 4294967296 b)) := by
  have wz : IntKind.u64.wrap 18446744073709551616 = 0 := by decide
  have wm : IntKind.u64.wrap (-1) = 18446744073709551615 := by decide
  have sa : sgI 4294967296 a = if a < 2147483648 then (a : Int) else (a : Int) - 4294967296 := rfl
  have sb : sgI 4294967296 b = if b < 2147483648 then (b : Int) else (b : Int) - 4294967296 := rfl
  have zn : ((4 : Nat) : Int) = 4 := rfl
  have b0 := h0 (by decide)
  by_cases a1 : a < 2147483648
  all_goals by_cases b1 : b < 2147483648
  · obtain ⟨X, hX⟩ : ∃ X, X = a := ⟨_, rfl⟩
    obtain ⟨Y, hY⟩ : ∃ Y, Y = b := ⟨_, rfl⟩
    have hY0 : 0 < Y := by omega
    have sa' : sgI 4294967296 a = (X : Int) := by rw [sa, if_pos a1]; omega
    have sb' : sgI 4294967296 b = (Y : Int) := by rw [sb, if_pos b1]; omega
    have k1 : bitsV .and .u64 (IntKind.u64.wrap (0 - (a : Int))) 4294967295 = (-(a : Int)) % 4294967296 := and_neg32 (by omega)
    have k2 : bitsV .and .u64 (IntKind.u64.wrap (0 - (b : Int))) 4294967295 = (-(b : Int)) % 4294967296 := and_neg32 (by omega)
    have k3 : (-(a : Int)) % 4294967296 = ((4294967296 - a : Nat) : Int) ∨ a = 0 := by omega
    obtain ⟨q, hq⟩ : ∃ q, q = X / Y := ⟨_, rfl⟩
    obtain ⟨r, hr⟩ : ∃ r, r = X % Y := ⟨_, rfl⟩
    have hql : q ≤ X := by rw [hq]; exact Nat.div_le_self _ _
    have hrl : r ≤ X := by rw [hr]; exact Nat.mod_le _ _
    have dd : True := trivial
    have d1 : (X : Int) / (Y : Int) = (q : Int) := by rw [hq, Int.natCast_ediv]
    have d2 : (X : Int) % (Y : Int) = (r : Int) := by rw [hr, Int.natCast_emod]
    have t1 : (X : Int).tdiv (Y : Int) = (q : Int) := by rw [Int.tdiv_eq_ediv_of_nonneg (by omega), d1]
    have t2 : (X : Int).tmod (Y : Int) = (r : Int) := by rw [Int.tmod_eq_emod_of_nonneg (by omega), d2]
    have k4 : (a : Int) = (X : Int) := by omega
    have k5 : (b : Int) = (Y : Int) := by omega
    have w1 : IntKind.u64.wrap (q : Int) = q := wrap_u64 (by omega) (by omega)
    have nY : ¬ (Y : Int) = 0 := by omega
    have c1 : (a : Int) / 2147483648 = 0 := by omega
    have c2 : (b : Int) / 2147483648 = 0 := by omega
    have p1 : bitsV .and .u64 (r : Int) 4294967295 = (r : Int) % 4294967296 := and_pos32 (by omega)
    have p2 : bitsV .and .u64 (IntKind.u64.wrap (0 - (r : Int))) 4294967295 = (-(r : Int)) % 4294967296 := and_neg32 (by omega)
    have fin : whS 4294967296 4 (sgI 4294967296 a) (sgI 4294967296 b) = (r : Int) % 4294967296 := by
      rw [sa', sb']
      show ((X : Int)).tmod ((Y : Int)) % 4294967296 = _
      rw [t2]
    rw [fin]
    subst X
    subst Y
    clear hq hr fin sa' sb' k3 t1 t2 sa sb hql hrl h0 a1 b1
    refine C.ref6_whole_calls (args := [.int .i64 ((4 : Nat) : Int), .int .u64 (a : Int), .int .u64 (b : Int), .int .i64 32]) rfl ?_
    simp (disch := first | omega | assumption) only [C.ref6_whole_gos, T.tv, ↓reduceIte, Nat.reduceEqDiff, reduceCtorEq, Nat.reduceLeDiff, Nat.reducePow, Int.reducePow, Int.reduceToNat, Nat.reduceAdd, vf, k1, k2, d1, d2, w1, ne_eq, nY, p1, p2, c1, c2, Int.reduceEq, Int.reduceSub, Int.reduceMul, Int.reduceAdd, Int.reduceNeg, wz, wm, zn]
  · obtain ⟨X, hX⟩ : ∃ X, X = a := ⟨_, rfl⟩
    obtain ⟨Y, hY⟩ : ∃ Y, Y = 4294967296 - b := ⟨_, rfl⟩
    have hY0 : 0 < Y := by omega
    have sa' : sgI 4294967296 a = (X : Int) := by rw [sa, if_pos a1]; omega
    have sb' : sgI 4294967296 b = -(Y : Int) := by rw [sb, if_neg b1]; omega
    have k1 : bitsV .and .u64 (IntKind.u64.wrap (0 - (a : Int))) 4294967295 = (-(a : Int)) % 4294967296 := and_neg32 (by omega)
    have k2 : bitsV .and .u64 (IntKind.u64.wrap (0 - (b : Int))) 4294967295 = (-(b : Int)) % 4294967296 := and_neg32 (by omega)
    have k3 : (-(a : Int)) % 4294967296 = ((4294967296 - a : Nat) : Int) ∨ a = 0 := by omega
    obtain ⟨q, hq⟩ : ∃ q, q = X / Y := ⟨_, rfl⟩
    obtain ⟨r, hr⟩ : ∃ r, r = X % Y := ⟨_, rfl⟩
    have hql : q ≤ X := by rw [hq]; exact Nat.div_le_self _ _
    have hrl : r ≤ X := by rw [hr]; exact Nat.mod_le _ _
    have dd : True := trivial
    have d1 : (X : Int) / (Y : Int) = (q : Int) := by rw [hq, Int.natCast_ediv]
    have d2 : (X : Int) % (Y : Int) = (r : Int) := by rw [hr, Int.natCast_emod]
    have t1 : (X : Int).tdiv (Y : Int) = (q : Int) := by rw [Int.tdiv_eq_ediv_of_nonneg (by omega), d1]
    have t2 : (X : Int).tmod (Y : Int) = (r : Int) := by rw [Int.tmod_eq_emod_of_nonneg (by omega), d2]
    have k4 : (a : Int) = (X : Int) := by omega
    have k5 : (-(b : Int)) % 4294967296 = (Y : Int) := by omega
    have w1 : IntKind.u64.wrap (q : Int) = q := wrap_u64 (by omega) (by omega)
    have nY : ¬ (Y : Int) = 0 := by omega
    have c1 : (a : Int) / 2147483648 = 0 := by omega
    have c2 : (b : Int) / 2147483648 = 1 := by omega
    have p1 : bitsV .and .u64 (r : Int) 4294967295 = (r : Int) % 4294967296 := and_pos32 (by omega)
    have p2 : bitsV .and .u64 (IntKind.u64.wrap (0 - (r : Int))) 4294967295 = (-(r : Int)) % 4294967296 := and_neg32 (by omega)
    have fin : whS 4294967296 4 (sgI 4294967296 a) (sgI 4294967296 b) = (r : Int) % 4294967296 := by
      rw [sa', sb']
      show ((X : Int)).tmod (-(Y : Int)) % 4294967296 = _
      rw [Int.tmod_neg, t2]
    rw [fin]
    subst X
    clear hY
    clear hq hr fin sa' sb' k3 t1 t2 sa sb hql hrl h0 a1 b1
    refine C.ref6_whole_calls (args := [.int .i64 ((4 : Nat) : Int), .int .u64 (a : Int), .int .u64 (b : Int), .int .i64 32]) rfl ?_
    simp (disch := first | omega | assumption) only [C.ref6_whole_gos, T.tv, ↓reduceIte, Nat.reduceEqDiff, reduceCtorEq, Nat.reduceLeDiff, Nat.reducePow, Int.reducePow, Int.reduceToNat, Nat.reduceAdd, vf, k1, k2, k5, d1, d2, w1, ne_eq, nY, p1, p2, c1, c2, Int.reduceEq, Int.reduceSub, Int.reduceMul, Int.reduceAdd, Int.reduceNeg, wz, wm, zn]
  · obtain ⟨X, hX⟩ : ∃ X, X = 4294967296 - a := ⟨_, rfl⟩
    obtain ⟨Y, hY⟩ : ∃ Y, Y = b := ⟨_, rfl⟩
    have hY0 : 0 < Y := by omega
    have sa' : sgI 4294967296 a = -(X : Int) := by rw [sa, if_neg a1]; omega
    have sb' : sgI 4294967296 b = (Y : Int) := by rw [sb, if_pos b1]; omega
    have k1 : bitsV .and .u64 (IntKind.u64.wrap (0 - (a : Int))) 4294967295 = (-(a : Int)) % 4294967296 := and_neg32 (by omega)
    have k2 : bitsV .and .u64 (IntKind.u64.wrap (0 - (b : Int))) 4294967295 = (-(b : Int)) % 4294967296 := and_neg32 (by omega)
    have k3 : (-(a : Int)) % 4294967296 = ((4294967296 - a : Nat) : Int) ∨ a = 0 := by omega
    obtain ⟨q, hq⟩ : ∃ q, q = X / Y := ⟨_, rfl⟩
    obtain ⟨r, hr⟩ : ∃ r, r = X % Y := ⟨_, rfl⟩
    have hql : q ≤ X := by rw [hq]; exact Nat.div_le_self _ _
    have hrl : r ≤ X := by rw [hr]; exact Nat.mod_le _ _
    have dd : True := trivial
    have d1 : (X : Int) / (Y : Int) = (q : Int) := by rw [hq, Int.natCast_ediv]
    have d2 : (X : Int) % (Y : Int) = (r : Int) := by rw [hr, Int.natCast_emod]
    have t1 : (X : Int).tdiv (Y : Int) = (q : Int) := by rw [Int.tdiv_eq_ediv_of_nonneg (by omega), d1]
    have t2 : (X : Int).tmod (Y : Int) = (r : Int) := by rw [Int.tmod_eq_emod_of_nonneg (by omega), d2]
    have k4 : (-(a : Int)) % 4294967296 = (X : Int) := by omega
    have k5 : (b : Int) = (Y : Int) := by omega
    have w1 : IntKind.u64.wrap (q : Int) = q := wrap_u64 (by omega) (by omega)
    have nY : ¬ (Y : Int) = 0 := by omega
    have c1 : (a : Int) / 2147483648 = 1 := by omega
    have c2 : (b : Int) / 2147483648 = 0 := by omega
    have p1 : bitsV .and .u64 (r : Int) 4294967295 = (r : Int) % 4294967296 := and_pos32 (by omega)
    have p2 : bitsV .and .u64 (IntKind.u64.wrap (0 - (r : Int))) 4294967295 = (-(r : Int)) % 4294967296 := and_neg32 (by omega)
    have fin : whS 4294967296 4 (sgI 4294967296 a) (sgI 4294967296 b) = (-(r : Int)) % 4294967296 := by
      rw [sa', sb']
      show (-(X : Int)).tmod ((Y : Int)) % 4294967296 = _
      rw [Int.neg_tmod, t2]
    rw [fin]
    clear hX
    subst Y
    clear hq hr fin sa' sb' k3 t1 t2 sa sb hql hrl h0 a1 b1
    refine C.ref6_whole_calls (args := [.int .i64 ((4 : Nat) : Int), .int .u64 (a : Int), .int .u64 (b : Int), .int .i64 32]) rfl ?_
    simp (disch := first | omega | assumption) only [C.ref6_whole_gos, T.tv, ↓reduceIte, Nat.reduceEqDiff, reduceCtorEq, Nat.reduceLeDiff, Nat.reducePow, Int.reducePow, Int.reduceToNat, Nat.reduceAdd, vf, k1, k2, k4, d1, d2, w1, ne_eq, nY, p1, p2, c1, c2, Int.reduceEq, Int.reduceSub, Int.reduceMul, Int.reduceAdd, Int.reduceNeg, wz, wm, zn]
  · obtain ⟨X, hX⟩ : ∃ X, X = 4294967296 - a := ⟨_, rfl⟩
    obtain ⟨Y, hY⟩ : ∃ Y, Y = 4294967296 - b := ⟨_, rfl⟩
    have hY0 : 0 < Y := by omega
    have sa' : sgI 4294967296 a = -(X : Int) := by rw [sa, if_neg a1]; omega
    have sb' : sgI 4294967296 b = -(Y : Int) := by rw [sb, if_neg b1]; omega
    have k1 : bitsV .and .u64 (IntKind.u64.wrap (0 - (a : Int))) 4294967295 = (-(a : Int)) % 4294967296 := and_neg32 (by omega)
    have k2 : bitsV .and .u64 (IntKind.u64.wrap (0 - (b : Int))) 4294967295 = (-(b : Int)) % 4294967296 := and_neg32 (by omega)
    have k3 : (-(a : Int)) % 4294967296 = ((4294967296 - a : Nat) : Int) ∨ a = 0 := by omega
    obtain ⟨q, hq⟩ : ∃ q, q = X / Y := ⟨_, rfl⟩
    obtain ⟨r, hr⟩ : ∃ r, r = X % Y := ⟨_, rfl⟩
    have hql : q ≤ X := by rw [hq]; exact Nat.div_le_self _ _
    have hrl : r ≤ X := by rw [hr]; exact Nat.mod_le _ _
    have dd : True := trivial
    have d1 : (X : Int) / (Y : Int) = (q : Int) := by rw [hq, Int.natCast_ediv]
    have d2 : (X : Int) % (Y : Int) = (r : Int) := by rw [hr, Int.natCast_emod]
    have t1 : (X : Int).tdiv (Y : Int) = (q : Int) := by rw [Int.tdiv_eq_ediv_of_nonneg (by omega), d1]
    have t2 : (X : Int).tmod (Y : Int) = (r : Int) := by rw [Int.tmod_eq_emod_of_nonneg (by omega), d2]
    have k4 : (-(a : Int)) % 4294967296 = (X : Int) := by omega
    have k5 : (-(b : Int)) % 4294967296 = (Y : Int) := by omega
    have w1 : IntKind.u64.wrap (q : Int) = q := wrap_u64 (by omega) (by omega)
    have nY : ¬ (Y : Int) = 0 := by omega
    have c1 : (a : Int) / 2147483648 = 1 := by omega
    have c2 : (b : Int) / 2147483648 = 1 := by omega
    have p1 : bitsV .and .u64 (r : Int) 4294967295 = (r : Int) % 4294967296 := and_pos32 (by omega)
    have p2 : bitsV .and .u64 (IntKind.u64.wrap (0 - (r : Int))) 4294967295 = (-(r : Int)) % 4294967296 := and_neg32 (by omega)
    have fin : whS 4294967296 4 (sgI 4294967296 a) (sgI 4294967296 b) = (-(r : Int)) % 4294967296 := by
      rw [sa', sb']
      show (-(X : Int)).tmod (-(Y : Int)) % 4294967296 = _
      rw [Int.neg_tmod, Int.tmod_neg, t2]
    rw [fin]
    clear hX
    clear hY
    clear hq hr fin sa' sb' k3 t1 t2 sa sb hql hrl h0 a1 b1
    refine C.ref6_whole_calls (args := [.int .i64 ((4 : Nat) : Int), .int .u64 (a : Int), .int .u64 (b : Int), .int .i64 32]) rfl ?_
    simp (disch := first | omega | assumption) only [C.ref6_whole_gos, T.tv, ↓reduceIte, Nat.reduceEqDiff, reduceCtorEq, Nat.reduceLeDiff, Nat.reducePow, Int.reducePow, Int.reduceToNat, Nat.reduceAdd, vf, k1, k2, k4, k5, d1, d2, w1, ne_eq, nY, p1, p2, c1, c2, Int.reduceEq, Int.reduceSub, Int.reduceMul, Int.reduceAdd, Int.reduceNeg, wz, wm, zn]
theorem and_neg64 {k : Nat} (hk : k < 18446744073709551616) : bitsV .and .u64 (IntKind.u64.wrap (0 - (k : Int))) 18446744073709551615 = (-(k : Int)) % 18446744073709551616 := by
  rw [wrap_neg hk]
  have h1 := and_mask (a := (18446744073709551616 - k) % 18446744073709551616) (n := 64) (by omega) (by decide)
  rw [show (((2 : Nat) ^ 64 - 1 : Nat) : Int) = 18446744073709551615 by decide, show (2 : Nat) ^ 64 = 18446744073709551616 by decide] at h1
  rw [h1]; omega
theorem and_pos64 {k : Nat} (hk : k < 18446744073709551616) : bitsV .and .u64 (k : Int) 18446744073709551615 = (k : Int) % 18446744073709551616 := by
  have h1 := and_mask (a := k) (n := 64) hk (by decide)
  rw [show (((2 : Nat) ^ 64 - 1 : Nat) : Int) = 18446744073709551615 by decide, show (2 : Nat) ^ 64 = 18446744073709551616 by decide] at h1
  rw [h1]; omega
set_option maxHeartbeats 6000000 in
theorem rwhole64_0 {h : Heap} {a b : Nat} (ha : a < 18446744073709551616) (hb : b < 18446744073709551616) (h0 : 3 ≤ 0 → b ≠ 0) :
    HCalls Try.prog 11 #[.int .i64 ((0 : Nat) : Int), .int .u64 (a : Int), .int .u64 (b : Int), .int .i64 64] h fun v h' => h' = h ∧ v = .int .u64 (whS 18446744073709551616 0 (sgI 18446744073709551616 a) (sgI 18446744073709551616 b)) := by
  refine C.ref6_whole_calls (args := [.int .i64 ((0 : Nat) : Int), .int .u64 (a : Int), .int .u64 (b : Int), .int .i64 64]) rfl ?_
  have wz : IntKind.u64.wrap 18446744073709551616 = 0 := by decide
  have wm : IntKind.u64.wrap (-1) = 18446744073709551615 := by decide
  have sa : sgI 18446744073709551616 a = if a < 9223372036854775808 then (a : Int) else (a : Int) - 18446744073709551616 := rfl
  have sb : sgI 18446744073709551616 b = if b < 9223372036854775808 then (b : Int) else (b : Int) - 18446744073709551616 := rfl
  have zn : ((0 : Nat) : Int) = 0 := rfl
  have e1 : bitsV .and .u64 (IntKind.u64.wrap ((a : Int) + (b : Int))) 18446744073709551615 = whS 18446744073709551616 0 (sgI 18446744073709551616 a) (sgI 18446744073709551616 b) := by
    rw [show (a : Int) + (b : Int) = ((a + b : Nat) : Int) by omega, wrap_mod, and_pos64 (by omega)]
    show _ = (sgI 18446744073709551616 a + sgI 18446744073709551616 b) % 18446744073709551616
    rw [sa, sb]; split <;> split <;> omega
  have e2 : IntKind.u64.wrap ((a : Int) + (b : Int)) = (((a + b) % 18446744073709551616 : Nat) : Int) := by
    rw [show (a : Int) + (b : Int) = ((a + b : Nat) : Int) by omega, wrap_mod]
  rw [e2] at e1
  generalize whS 18446744073709551616 0 (sgI 18446744073709551616 a) (sgI 18446744073709551616 b) = R at *
  simp (disch := first | omega | assumption) only [C.ref6_whole_gos, T.tv, ↓reduceIte, Nat.reduceEqDiff, reduceCtorEq, Nat.reduceLeDiff, Nat.reducePow, Int.reducePow, Int.reduceToNat, Nat.reduceAdd, e2, e1, rdo_max, va, un_neg, Int.reduceEq, Int.reduceSub, Int.reduceMul, Int.reduceAdd, Int.reduceNeg, wz, wm, zn, wrap_u64]
set_option maxHeartbeats 6000000 in
theorem rwhole64_1 {h : Heap} {a b : Nat} (ha : a < 18446744073709551616) (hb : b < 18446744073709551616) (h0 : 3 ≤ 1 → b ≠ 0) :
    HCalls Try.prog 11 #[.int .i64 ((1 : Nat) : Int), .int .u64 (a : Int), .int .u64 (b : Int), .int .i64 64] h fun v h' => h' = h ∧ v = .int .u64 (whS 18446744073709551616 1 (sgI 18446744073709551616 a) (sgI 18446744073709551616 b)) := by
  refine C.ref6_whole_calls (args := [.int .i64 ((1 : Nat) : Int), .int .u64 (a : Int), .int .u64 (b : Int), .int .i64 64]) rfl ?_
  have wz : IntKind.u64.wrap 18446744073709551616 = 0 := by decide
  have wm : IntKind.u64.wrap (-1) = 18446744073709551615 := by decide
  have sa : sgI 18446744073709551616 a = if a < 9223372036854775808 then (a : Int) else (a : Int) - 18446744073709551616 := rfl
  have sb : sgI 18446744073709551616 b = if b < 9223372036854775808 then (b : Int) else (b : Int) - 18446744073709551616 := rfl
  have zn : ((1 : Nat) : Int) = 1 := rfl
  have e2 : IntKind.u64.wrap ((a : Int) - (b : Int)) = (((18446744073709551616 + a - b) % 18446744073709551616 : Nat) : Int) := by
    simp only [IntKind.wrap, IntKind.bits, IntKind.signed, Bool.false_and, Bool.false_eq_true, if_false, Int.reducePow]
    omega
  have e1 : bitsV .and .u64 (((18446744073709551616 + a - b) % 18446744073709551616 : Nat) : Int) 18446744073709551615 = whS 18446744073709551616 1 (sgI 18446744073709551616 a) (sgI 18446744073709551616 b) := by
    rw [and_pos64 (by omega)]
    show _ = (sgI 18446744073709551616 a - sgI 18446744073709551616 b) % 18446744073709551616
    rw [sa, sb]; split <;> split <;> omega
  generalize whS 18446744073709551616 1 (sgI 18446744073709551616 a) (sgI 18446744073709551616 b) = R at *
  simp (disch := first | omega | assumption) only [C.ref6_whole_gos, T.tv, ↓reduceIte, Nat.reduceEqDiff, reduceCtorEq, Nat.reduceLeDiff, Nat.reducePow, Int.reducePow, Int.reduceToNat, Nat.reduceAdd, e2, e1, va, Int.reduceEq, Int.reduceSub, Int.reduceMul, Int.reduceAdd, Int.reduceNeg, wz, wm, zn, wrap_u64]
set_option maxHeartbeats 6000000 in
theorem rwhole64_2 {h : Heap} {a b : Nat} (ha : a < 18446744073709551616) (hb : b < 18446744073709551616) (h0 : 3 ≤ 2 → b ≠ 0) :
    HCalls Try.prog 11 #[.int .i64 ((2 : Nat) : Int), .int .u64 (a : Int), .int .u64 (b : Int), .int .i64 64] h fun v h' => h' = h ∧ v = .int .u64 (whS 18446744073709551616 2 (sgI 18446744073709551616 a) (sgI 18446744073709551616 b)) := by
  refine C.ref6_whole_calls (args := [.int .i64 ((2 : Nat) : Int), .int .u64 (a : Int), .int .u64 (b : Int), .int .i64 64]) rfl ?_
  have wz : IntKind.u64.wrap 18446744073709551616 = 0 := by decide
  have wm : IntKind.u64.wrap (-1) = 18446744073709551615 := by decide
  have sa : sgI 18446744073709551616 a = if a < 9223372036854775808 then (a : Int) else (a : Int) - 18446744073709551616 := rfl
  have sb : sgI 18446744073709551616 b = if b < 9223372036854775808 then (b : Int) else (b : Int) - 18446744073709551616 := rfl
  have zn : ((2 : Nat) : Int) = 2 := rfl
  have e2 : IntKind.u64.wrap ((a : Int) * (b : Int)) = (((a * b) % 18446744073709551616 : Nat) : Int) := by
    rw [← Int.natCast_mul, wrap_mod]
  have e1 : bitsV .and .u64 (((a * b) % 18446744073709551616 : Nat) : Int) 18446744073709551615 = whS 18446744073709551616 2 (sgI 18446744073709551616 a) (sgI 18446744073709551616 b) := by
    rw [and_pos64 (Nat.mod_lt _ (by decide))]
    show _ = (sgI 18446744073709551616 a * sgI 18446744073709551616 b) % 18446744073709551616
    have ma : sgI 18446744073709551616 a % 18446744073709551616 = (a : Int) := by rw [sa]; split <;> omega
    have mb : sgI 18446744073709551616 b % 18446744073709551616 = (b : Int) := by rw [sb]; split <;> omega
    rw [Int.mul_emod, ma, mb, ← Int.natCast_mul]
    generalize a * b = p
    omega
  generalize whS 18446744073709551616 2 (sgI 18446744073709551616 a) (sgI 18446744073709551616 b) = R at *
  simp (disch := first | omega | assumption) only [C.ref6_whole_gos, T.tv, ↓reduceIte, Nat.reduceEqDiff, reduceCtorEq, Nat.reduceLeDiff, Nat.reducePow, Int.reducePow, Int.reduceToNat, Nat.reduceAdd, e2, e1, va, Int.reduceEq, Int.reduceSub, Int.reduceMul, Int.reduceAdd, Int.reduceNeg, wz, wm, zn, wrap_u64]
set_option maxHeartbeats 6000000 in
theorem rwhole64_3 {h : Heap} {a b : Nat} (ha : a < 18446744073709551616) (hb : b < 18446744073709551616) (h0 : 3 ≤ 3 → b ≠ 0) :
    HCalls Try.prog 11 #[.int .i64 ((3 : Nat) : Int), .int .u64 (a : Int), .int .u64 (b : Int), .int .i64 64] h fun v h' => h' = h ∧ v = .int .u64 (whS 18446744073709551616 3 (sgI 18446744073709551616 a) (sgI 18446744073709551616 b)) := by
  have wz : IntKind.u64.wrap 18446744073709551616 = 0 := by decide
  have wm : IntKind.u64.wrap (-1) = 18446744073709551615 := by decide
  have sa : sgI 18446744073709551616 a = if a < 9223372036854775808 then (a : Int) else (a : Int) - 18446744073709551616 := rfl
  have sb : sgI 18446744073709551616 b = if b < 9223372036854775808 then (b : Int) else (b : Int) - 18446744073709551616 := rfl
  have zn : ((3 : Nat) : Int) = 3 := rfl
  have b0 := h0 (by decide)
  by_cases a1 : a < 9223372036854775808
  all_goals by_cases b1 : b < 9223372036854775808
  · obtain ⟨X, hX⟩ : ∃ X, X = a := ⟨_, rfl⟩
    obtain ⟨Y, hY⟩ : ∃ Y, Y = b := ⟨_, rfl⟩
    have hY0 : 0 < Y := by omega
    have sa' : sgI 18446744073709551616 a = (X : Int) := by rw [sa, if_pos a1]; omega
    have sb' : sgI 18446744073709551616 b = (Y : Int) := by rw [sb, if_pos b1]; omega
    have k1 : bitsV .and .u64 (IntKind.u64.wrap (0 - (a : Int))) 18446744073709551615 = (-(a : Int)) % 18446744073709551616 := and_neg64 (by omega)
    have k2 : bitsV .and .u64 (IntKind.u64.wrap (0 - (b : Int))) 18446744073709551615 = (-(b : Int)) % 18446744073709551616 := and_neg64 (by omega)
    have k3 : (-(a : Int)) % 18446744073709551616 = ((18446744073709551616 - a : Nat) : Int) ∨ a = 0 := by omega
    obtain ⟨q, hq⟩ : ∃ q, q = X / Y := ⟨_, rfl⟩
    obtain ⟨r, hr⟩ : ∃ r, r = X % Y := ⟨_, rfl⟩
    have hql : q ≤ X := by rw [hq]; exact Nat.div_le_self _ _
    have hrl : r ≤ X := by rw [hr]; exact Nat.mod_le _ _
    have dd : True := trivial
    have d1 : (X : Int) / (Y : Int) = (q : Int) := by rw [hq, Int.natCast_ediv]
    have d2 : (X : Int) % (Y : Int) = (r : Int) := by rw [hr, Int.natCast_emod]
    have t1 : (X : Int).tdiv (Y : Int) = (q : Int) := by rw [Int.tdiv_eq_ediv_of_nonneg (by omega), d1]
    have t2 : (X : Int).tmod (Y : Int) = (r : Int) := by rw [Int.tmod_eq_emod_of_nonneg (by omega), d2]
    have k4 : (a : Int) = (X : Int) := by omega
    have k5 : (b : Int) = (Y : Int) := by omega
    have w1 : IntKind.u64.wrap (q : Int) = q := wrap_u64 (by omega) (by omega)
    have nY : ¬ (Y : Int) = 0 := by omega
    have c1 : (a : Int) / 9223372036854775808 = 0 := by omega
    have c2 : (b : Int) / 9223372036854775808 = 0 := by omega
    have p1 : bitsV .and .u64 (q : Int) 18446744073709551615 = (q : Int) % 18446744073709551616 := and_pos64 (by omega)
    have p2 : bitsV .and .u64 (IntKind.u64.wrap (0 - (q : Int))) 18446744073709551615 = (-(q : Int)) % 18446744073709551616 := and_neg64 (by omega)
    have fin : whS 18446744073709551616 3 (sgI 18446744073709551616 a) (sgI 18446744073709551616 b) = (q : Int) % 18446744073709551616 := by
      rw [sa', sb']
      show ((X : Int)).tdiv ((Y : Int)) % 18446744073709551616 = _
      rw [t1]
    rw [fin]
    subst X
    subst Y
    clear hq hr fin sa' sb' k3 t1 t2 sa sb hql hrl h0 a1 b1
    refine C.ref6_whole_calls (args := [.int .i64 ((3 : Nat) : Int), .int .u64 (a : Int), .int .u64 (b : Int), .int .i64 64]) rfl ?_
    simp (disch := first | omega | assumption) only [C.ref6_whole_gos, T.tv, ↓reduceIte, Nat.reduceEqDiff, reduceCtorEq, Nat.reduceLeDiff, Nat.reducePow, Int.reducePow, Int.reduceToNat, Nat.reduceAdd, vf, k1, k2, d1, d2, w1, ne_eq, nY, p1, p2, c1, c2, Int.reduceEq, Int.reduceSub, Int.reduceMul, Int.reduceAdd, Int.reduceNeg, wz, wm, zn]
  · obtain ⟨X, hX⟩ : ∃ X, X = a := ⟨_, rfl⟩
    obtain ⟨Y, hY⟩ : ∃ Y, Y = 18446744073709551616 - b := ⟨_, rfl⟩
    have hY0 : 0 < Y := by omega
    have sa' : sgI 18446744073709551616 a = (X : Int) := by rw [sa, if_pos a1]; omega
    have sb' : sgI 18446744073709551616 b = -(Y : Int) := by rw [sb, if_neg b1]; omega
    have k1 : bitsV .and .u64 (IntKind.u64.wrap (0 - (a : Int))) 18446744073709551615 = (-(a : Int)) % 18446744073709551616 := and_neg64 (by omega)
    have k2 : bitsV .and .u64 (IntKind.u64.wrap (0 - (b : Int))) 18446744073709551615 = (-(b : Int)) % 18446744073709551616 := and_neg64 (by omega)
    have k3 : (-(a : Int)) % 18446744073709551616 = ((18446744073709551616 - a : Nat) : Int) ∨ a = 0 := by omega
    obtain ⟨q, hq⟩ : ∃ q, q = X / Y := ⟨_, rfl⟩
    obtain ⟨r, hr⟩ : ∃ r, r = X % Y := ⟨_, rfl⟩
    have hql : q ≤ X := by rw [hq]; exact Nat.div_le_self _ _
    have hrl : r ≤ X := by rw [hr]; exact Nat.mod_le _ _
    have dd : True := trivial
    have d1 : (X : Int) / (Y : Int) = (q : Int) := by rw [hq, Int.natCast_ediv]
    have d2 : (X : Int) % (Y : Int) = (r : Int) := by rw [hr, Int.natCast_emod]
    have t1 : (X : Int).tdiv (Y : Int) = (q : Int) := by rw [Int.tdiv_eq_ediv_of_nonneg (by omega), d1]
    have t2 : (X : Int).tmod (Y : Int) = (r : Int) := by rw [Int.tmod_eq_emod_of_nonneg (by omega), d2]
    have k4 : (a : Int) = (X : Int) := by omega
    have k5 : (-(b : Int)) % 18446744073709551616 = (Y : Int) := by omega
    have w1 : IntKind.u64.wrap (q : Int) = q := wrap_u64 (by omega) (by omega)
    have nY : ¬ (Y : Int) = 0 := by omega
    have c1 : (a : Int) / 9223372036854775808 = 0 := by omega
    have c2 : (b : Int) / 9223372036854775808 = 1 := by omega
    have p1 : bitsV .and .u64 (q : Int) 18446744073709551615 = (q : Int) % 18446744073709551616 := and_pos64 (by omega)
    have p2 : bitsV .and .u64 (IntKind.u64.wrap (0 - (q : Int))) 18446744073709551615 = (-(q : Int)) % 18446744073709551616 := and_neg64 (by omega)
    have fin : whS 18446744073709551616 3 (sgI 18446744073709551616 a) (sgI 18446744073709551616 b) = (-(q : Int)) % 18446744073709551616 := by
      rw [sa', sb']
      show ((X : Int)).tdiv (-(Y : Int)) % 18446744073709551616 = _
      rw [Int.tdiv_neg, t1]
    rw [fin]
    subst X
    clear hY
    clear hq hr fin sa' sb' k3 t1 t2 sa sb hql hrl h0 a1 b1
    refine C.ref6_whole_calls (args := [.int .i64 ((3 : Nat) : Int), .int .u64 (a : Int), .int .u64 (b : Int), .int .i64 64]) rfl ?_
    simp (disch := first | omega | assumption) only [C.ref6_whole_gos, T.tv, ↓reduceIte, Nat.reduceEqDiff, reduceCtorEq, Nat.reduceLeDiff, Nat.reducePow, Int.reducePow, Int.reduceToNat, Nat.reduceAdd, vf, k1, k2, k5, d1, d2, w1, ne_eq, nY, p1, p2, c1, c2, Int.reduceEq, Int.reduceSub, Int.reduceMul, Int.reduceAdd, Int.reduceNeg, wz, wm, zn]
  · obtain ⟨X, hX⟩ : ∃ X, X = 18446744073709551616 - a := ⟨_, rfl⟩
    obtain ⟨Y, hY⟩ : ∃ Y, Y = b := ⟨_, rfl⟩
    have hY0 : 0 < Y := by omega
    have sa' : sgI 18446744073709551616 a = -(X : Int) := by rw [sa, if_neg a1]; omega
    have sb' : sgI 18446744073709551616 b = (Y : Int) := by rw [sb, if_pos b1]; omega
    have k1 : bitsV .and .u64 (IntKind.u64.wrap (0 - (a : Int))) 18446744073709551615 = (-(a : Int)) % 18446744073709551616 := and_neg64 (by omega)
    have k2 : bitsV .and .u64 (IntKind.u64.wrap (0 - (b : Int))) 18446744073709551615 = (-(b : Int)) % 18446744073709551616 := and_neg64 (by omega)
    have k3 : (-(a : Int)) % 18446744073709551616 = ((18446744073709551616 - a : Nat) : Int) ∨ a = 0 := by omega
    obtain ⟨q, hq⟩ : ∃ q, q = X / Y := ⟨_, rfl⟩
    obtain ⟨r, hr⟩ : ∃ r, r = X % Y := ⟨_, rfl⟩
    have hql : q ≤ X := by rw [hq]; exact Nat.div_le_self _ _
    have hrl : r ≤ X := by rw [hr]; exact Nat.mod_le _ _
    have dd : True := trivial
    have d1 : (X : Int) / (Y : Int) = (q : Int) := by rw [hq, Int.natCast_ediv]
    have d2 : (X : Int) % (Y : Int) = (r : Int) := by rw [hr, Int.natCast_emod]
    have t1 : (X : Int).tdiv (Y : Int) = (q : Int) := by rw [Int.tdiv_eq_ediv_of_nonneg (by omega), d1]
    have t2 : (X : Int).tmod (Y : Int) = (r : Int) := by rw [Int.tmod_eq_emod_of_nonneg (by omega), d2]
    have k4 : (-(a : Int)) % 18446744073709551616 = (X : Int) := by omega
    have k5 : (b : Int) = (Y : Int) := by omega
    have w1 : IntKind.u64.wrap (q : Int) = q := wrap_u64 (by omega) (by omega)
    have nY : ¬ (Y : Int) = 0 := by omega
    have c1 : (a : Int) / 9223372036854775808 = 1 := by omega
    have c2 : (b : Int) / 9223372036854775808 = 0 := by omega
    have p1 : bitsV .and .u64 (q : Int) 18446744073709551615 = (q : Int) % 18446744073709551616 := and_pos64 (by omega)
    have p2 : bitsV .and .u64 (IntKind.u64.wrap (0 - (q : Int))) 18446744073709551615 = (-(q : Int)) % 18446744073709551616 := and_neg64 (by omega)
    have fin : whS 18446744073709551616 3 (sgI 18446744073709551616 a) (sgI 18446744073709551616 b) = (-(q : Int)) % 18446744073709551616 := by
      rw [sa', sb']
      show (-(X : Int)).tdiv ((Y : Int)) % 18446744073709551616 = _
      rw [Int.neg_tdiv, t1]
    rw [fin]
    clear hX
    subst Y
    clear hq hr fin sa' sb' k3 t1 t2 sa sb hql hrl h0 a1 b1
    refine C.ref6_whole_calls (args := [.int .i64 ((3 : Nat) : Int), .int .u64 (a : Int), .int .u64 (b : Int), .int .i64 64]) rfl ?_
    simp (disch := first | omega | assumption) only [C.ref6_whole_gos, T.tv, ↓reduceIte, Nat.reduceEqDiff, reduceCtorEq, Nat.reduceLeDiff, Nat.reducePow, Int.reducePow, Int.reduceToNat, Nat.reduceAdd, vf, k1, k2, k4, d1, d2, w1, ne_eq, nY, p1, p2, c1, c2, Int.reduceEq, Int.reduceSub, Int.reduceMul, Int.reduceAdd, Int.reduceNeg, wz, wm, zn]
  · obtain ⟨X, hX⟩ : ∃ X, X = 18446744073709551616 - a := ⟨_, rfl⟩
    obtain ⟨Y, hY⟩ : ∃ Y, Y = 18446744073709551616 - b := ⟨_, rfl⟩
    have hY0 : 0 < Y := by omega
    have sa' : sgI 18446744073709551616 a = -(X : Int) := by rw [sa, if_neg a1]; omega
    have sb' : sgI 18446744073709551616 b = -(Y : Int) := by rw [sb, if_neg b1]; omega
    have k1 : bitsV .and .u64 (IntKind.u64.wrap (0 - (a : Int))) 18446744073709551615 = (-(a : Int)) % 18446744073709551616 := and_neg64 (by omega)
    have k2 : bitsV .and .u64 (IntKind.u64.wrap (0 - (b : Int))) 18446744073709551615 = (-(b : Int)) % 18446744073709551616 := and_neg64 (by omega)
    have k3 : (-(a : Int)) % 18446744073709551616 = ((18446744073709551616 - a : Nat) : Int) ∨ a = 0 := by omega
    obtain ⟨q, hq⟩ : ∃ q, q = X / Y := ⟨_, rfl⟩
    obtain ⟨r, hr⟩ : ∃ r, r = X % Y := ⟨_, rfl⟩
    have hql : q ≤ X := by rw [hq]; exact Nat.div_le_self _ _
    have hrl : r ≤ X := by rw [hr]; exact Nat.mod_le _ _
    have dd : True := trivial
    have d1 : (X : Int) / (Y : Int) = (q : Int) := by rw [hq, Int.natCast_ediv]
    have d2 : (X : Int) % (Y : Int) = (r : Int) := by rw [hr, Int.natCast_emod]
    have t1 : (X : Int).tdiv (Y : Int) = (q : Int) := by rw [Int.tdiv_eq_ediv_of_nonneg (by omega), d1]
    have t2 : (X : Int).tmod (Y : Int) = (r : Int) := by rw [Int.tmod_eq_emod_of_nonneg (by omega), d2]
    have k4 : (-(a : Int)) % 18446744073709551616 = (X : Int) := by omega
    have k5 : (-(b : Int)) % 18446744073709551616 = (Y : Int) := by omega
    have w1 : IntKind.u64.wrap (q : Int) = q := wrap_u64 (by omega) (by omega)
    have nY : ¬ (Y : Int) = 0 := by omega
    have c1 : (a : Int) / 9223372036854775808 = 1 := by omega
    have c2 : (b : Int) / 9223372036854775808 = 1 := by omega
    have p1 : bitsV .and .u64 (q : Int) 18446744073709551615 = (q : Int) % 18446744073709551616 := and_pos64 (by omega)
    have p2 : bitsV .and .u64 (IntKind.u64.wrap (0 - (q : Int))) 18446744073709551615 = (-(q : Int)) % 18446744073709551616 := and_neg64 (by omega)
    have fin : whS 18446744073709551616 3 (sgI 18446744073709551616 a) (sgI 18446744073709551616 b) = (q : Int) % 18446744073709551616 := by
      rw [sa', sb']
      show (-(X : Int)).tdiv (-(Y : Int)) % 18446744073709551616 = _
      rw [Int.neg_tdiv, Int.tdiv_neg, t1, Int.neg_neg]
    rw [fin]
    clear hX
    clear hY
    clear hq hr fin sa' sb' k3 t1 t2 sa sb hql hrl h0 a1 b1
    refine C.ref6_whole_calls (args := [.int .i64 ((3 : Nat) : Int), .int .u64 (a : Int), .int .u64 (b : Int), .int .i64 64]) rfl ?_
    simp (disch := first | omega | assumption) only [C.ref6_whole_gos, T.tv, ↓reduceIte, Nat.reduceEqDiff, reduceCtorEq, Nat.reduceLeDiff, Nat.reducePow, Int.reducePow, Int.reduceToNat, Nat.reduceAdd, vf, k1, k2, k4, k5, d1, d2, w1, ne_eq, nY, p1, p2, c1, c2, Int.reduceEq, Int.reduceSub, Int.reduceMul, Int.reduceAdd, Int.reduceNeg, wz, wm, zn]
set_option maxHeartbeats 6000000 in
theorem rwhole64_4 {h : Heap} {a b : Nat} (ha : a < 18446744073709551616) (hb : b < 18446744073709551616) (h0 : 3 ≤ 4 → b ≠ 0) :
    HCalls Try.prog 11 #[.int .i64 ((4 : Nat) : Int), .int .u64 (a : Int), .int .u64 (b : Int), .int .i64 64] h fun v h' => h' = h ∧ v = .int .u64 (whS 18446744073709551616 4 (sgI 18446744073709551616 a) (sgI 18446744073709551616 b)) := by
  have wz : IntKind.u64.wrap 18446744073709551616 = 0 := by decide
  have wm : IntKind.u64.wrap (-1) = 18446744073709551615 := by decide
  have sa : sgI 18446744073709551616 a = if a < 9223372036854775808 then (a : Int) else (a : Int) - 18446744073709551616 := rfl
  have sb : sgI 18446744073709551616 b = if b < 9223372036854775808 then (b : Int) else (b : Int) - 18446744073709551616 := rfl
  have zn : ((4 : Nat) : Int) = 4 := rfl
  have b0 := h0 (by decide)
  by_cases a1 : a < 9223372036854775808
  all_goals by_cases b1 : b < 9223372036854775808
  · obtain ⟨X, hX⟩ : ∃ X, X = a := ⟨_, rfl⟩
    obtain ⟨Y, hY⟩ : ∃ Y, Y = b := ⟨_, rfl⟩
    have hY0 : 0 < Y := by omega
    have sa' : sgI 18446744073709551616 a = (X : Int) := by rw [sa, if_pos a1]; omega
    have sb' : sgI 18446744073709551616 b = (Y : Int) := by rw [sb, if_pos b1]; omega
    have k1 : bitsV .and .u64 (IntKind.u64.wrap (0 - (a : Int))) 18446744073709551615 = (-(a : Int)) % 18446744073709551616 := and_neg64 (by omega)
    have k2 : bitsV .and .u64 (IntKind.u64.wrap (0 - (b : Int))) 18446744073709551615 = (-(b : Int)) % 18446744073709551616 := and_neg64 (by omega)
    have k3 : (-(a : Int)) % 18446744073709551616 = ((18446744073709551616 - a : Nat) : Int) ∨ a = 0 := by omega
    obtain ⟨q, hq⟩ : ∃ q, q = X / Y := ⟨_, rfl⟩
    obtain ⟨r, hr⟩ : ∃ r, r = X % Y := ⟨_, rfl⟩
    have hql : q ≤ X := by rw [hq]; exact Nat.div_le_self _ _
    have hrl : r ≤ X := by rw [hr]; exact Nat.mod_le _ _
    have dd : True := trivial
    have d1 : (X : Int) / (Y : Int) = (q : Int) := by rw [hq, Int.natCast_ediv]
    have d2 : (X : Int) % (Y : Int) = (r : Int) := by rw [hr, Int.natCast_emod]
    have t1 : (X : Int).tdiv (Y : Int) = (q : Int) := by rw [Int.tdiv_eq_ediv_of_nonneg (by omega), d1]
    have t2 : (X : Int).tmod (Y : Int) = (r : Int) := by rw [Int.tmod_eq_emod_of_nonneg (by omega), d2]
    have k4 : (a : Int) = (X : Int) := by omega
    have k5 : (b : Int) = (Y : Int) := by omega
    have w1 : IntKind.u64.wrap (q : Int) = q := wrap_u64 (by omega) (by omega)
    have nY : ¬ (Y : Int) = 0 := by omega
    have c1 : (a : Int) / 9223372036854775808 = 0 := by omega
    have c2 : (b : Int) / 9223372036854775808 = 0 := by omega
    have p1 : bitsV .and .u64 (r : Int) 18446744073709551615 = (r : Int) % 18446744073709551616 := and_pos64 (by omega)
    have p2 : bitsV .and .u64 (IntKind.u64.wrap (0 - (r : Int))) 18446744073709551615 = (-(r : Int)) % 18446744073709551616 := and_neg64 (by omega)
    have fin : whS 18446744073709551616 4 (sgI 18446744073709551616 a) (sgI 18446744073709551616 b) = (r : Int) % 18446744073709551616 := by
      rw [sa', sb']
      show ((X : Int)).tmod ((Y : Int)) % 18446744073709551616 = _
      rw [t2]
    rw [fin]
    subst X
    subst Y
    clear hq hr fin sa' sb' k3 t1 t2 sa sb hql hrl h0 a1 b1
    refine C.ref6_whole_calls (args := [.int .i64 ((4 : Nat) : Int), .int .u64 (a : Int), .int .u64 (b : Int), .int .i64 64]) rfl ?_
    simp (disch := first | omega | assumption) only [C.ref6_whole_gos, T.tv, ↓reduceIte, Nat.reduceEqDiff, reduceCtorEq, Nat.reduceLeDiff, Nat.reducePow, Int.reducePow, Int.reduceToNat, Nat.reduceAdd, vf, k1, k2, d1, d2, w1, ne_eq, nY, p1, p2, c1, c2, Int.reduceEq, Int.reduceSub, Int.reduceMul, Int.reduceAdd, Int.reduceNeg, wz, wm, zn]
  · obtain ⟨X, hX⟩ : ∃ X, X = a := ⟨_, rfl⟩
    obtain ⟨Y, hY⟩ : ∃ Y, Y = 18446744073709551616 - b := ⟨_, rfl⟩
    have hY0 : 0 < Y := by omega
    have sa' : sgI 18446744073709551616 a = (X : Int) := by rw [sa, if_pos a1]; omega
    have sb' : sgI 18446744073709551616 b = -(Y : Int) := by rw [sb, if_neg b1]; omega
    have k1 : bitsV .and .u64 (IntKind.u64.wrap (0 - (a : Int))) 18446744073709551615 = (-(a : Int)) % 18446744073709551616 := and_neg64 (by omega)
    have k2 : bitsV .and .u64 (IntKind.u64.wrap (0 - (b : Int))) 18446744073709551615 = (-(b : Int)) % 18446744073709551616 := and_neg64 (by omega)
    have k3 : (-(a : Int)) % 18446744073709551616 = ((18446744073709551616 - a : Nat) : Int) ∨ a = 0 := by omega
    obtain ⟨q, hq⟩ : ∃ q, q = X / Y := ⟨_, rfl⟩
    obtain ⟨r, hr⟩ : ∃ r, r = X % Y := ⟨_, rfl⟩
    have hql : q ≤ X := by rw [hq]; exact Nat.div_le_self _ _
    have hrl : r ≤ X := by rw [hr]; exact Nat.mod_le _ _
    have dd : True := trivial
    have d1 : (X : Int) / (Y : Int) = (q : Int) := by rw [hq, Int.natCast_ediv]
    have d2 : (X : Int) % (Y : Int) = (r : Int) := by rw [hr, Int.natCast_emod]
    have t1 : (X : Int).tdiv (Y : Int) = (q : Int) := by rw [Int.tdiv_eq_ediv_of_nonneg (by omega), d1]
    have t2 : (X : Int).tmod (Y : Int) = (r : Int) := by rw [Int.tmod_eq_emod_of_nonneg (by omega), d2]
    have k4 : (a : Int) = (X : Int) := by omega
    have k5 : (-(b : Int)) % 18446744073709551616 = (Y : Int) := by omega
    have w1 : IntKind.u64.wrap (q : Int) = q := wrap_u64 (by omega) (by omega)
    have nY : ¬ (Y : Int) = 0 := by omega
    have c1 : (a : Int) / 9223372036854775808 = 0 := by omega
    have c2 : (b : Int) / 9223372036854775808 = 1 := by omega
    have p1 : bitsV .and .u64 (r : Int) 18446744073709551615 = (r : Int) % 18446744073709551616 := and_pos64 (by omega)
    have p2 : bitsV .and .u64 (IntKind.u64.wrap (0 - (r : Int))) 18446744073709551615 = (-(r : Int)) % 18446744073709551616 := and_neg64 (by omega)
    have fin : whS 18446744073709551616 4 (sgI 18446744073709551616 a) (sgI 18446744073709551616 b) = (r : Int) % 18446744073709551616 := by
      rw [sa', sb']
      show ((X : Int)).tmod (-(Y : Int)) % 18446744073709551616 = _
      rw [Int.tmod_neg, t2]
    rw [fin]
    subst X
    clear hY
    clear hq hr fin sa' sb' k3 t1 t2 sa sb hql hrl h0 a1 b1
    refine C.ref6_whole_calls (args := [.int .i64 ((4 : Nat) : Int), .int .u64 (a : Int), .int .u64 (b : Int), .int .i64 64]) rfl ?_
    simp (disch := first | omega | assumption) only [C.ref6_whole_gos, T.tv, ↓reduceIte, Nat.reduceEqDiff, reduceCtorEq, Nat.reduceLeDiff, Nat.reducePow, Int.reducePow, Int.reduceToNat, Nat.reduceAdd, vf, k1, k2, k5, d1, d2, w1, ne_eq, nY, p1, p2, c1, c2, Int.reduceEq, Int.reduceSub, Int.reduceMul, Int.reduceAdd, Int.reduceNeg, wz, wm, zn]
  · obtain ⟨X, hX⟩ : ∃ X, X = 18446744073709551616 - a := ⟨_, rfl⟩
    obtain ⟨Y, hY⟩ : ∃ Y, Y = b := ⟨_, rfl⟩
    have hY0 : 0 < Y := by omega
    have sa' : sgI 18446744073709551616 a = -(X : Int) := by rw [sa, if_neg a1]; omega
    have sb' : sgI 18446744073709551616 b = (Y : Int) := by rw [sb, if_pos b1]; omega
    have k1 : bitsV .and .u64 (IntKind.u64.wrap (0 - (a : Int))) 18446744073709551615 = (-(a : Int)) % 18446744073709551616 := and_neg64 (by omega)
    have k2 : bitsV .and .u64 (IntKind.u64.wrap (0 - (b : Int))) 18446744073709551615 = (-(b : Int)) % 18446744073709551616 := and_neg64 (by omega)
    have k3 : (-(a : Int)) % 18446744073709551616 = ((18446744073709551616 - a : Nat) : Int) ∨ a = 0 := by omega
    obtain ⟨q, hq⟩ : ∃ q, q = X / Y := ⟨_, rfl⟩
    obtain ⟨r, hr⟩ : ∃ r, r = X % Y := ⟨_, rfl⟩
    have hql : q ≤ X := by rw [hq]; exact Nat.div_le_self _ _
    have hrl : r ≤ X := by rw [hr]; exact Nat.mod_le _ _
    have dd : True := trivial
    have d1 : (X : Int) / (Y : Int) = (q : Int) := by rw [hq, Int.natCast_ediv]
    have d2 : (X : Int) % (Y : Int) = (r : Int) := by rw [hr, Int.natCast_emod]
    have t1 : (X : Int).tdiv (Y : Int) = (q : Int) := by rw [Int.tdiv_eq_ediv_of_nonneg (by omega), d1]
    have t2 : (X : Int).tmod (Y : Int) = (r : Int) := by rw [Int.tmod_eq_emod_of_nonneg (by omega), d2]
    have k4 : (-(a : Int)) % 18446744073709551616 = (X : Int) := by omega
    have k5 : (b : Int) = (Y : Int) := by omega
    have w1 : IntKind.u64.wrap (q : Int) = q := wrap_u64 (by omega) (by omega)
    have nY : ¬ (Y : Int) = 0 := by omega
    have c1 : (a : Int) / 9223372036854775808 = 1 := by omega
    have c2 : (b : Int) / 9223372036854775808 = 0 := by omega
    have p1 : bitsV .and .u64 (r : Int) 18446744073709551615 = (r : Int) % 18446744073709551616 := and_pos64 (by omega)
    have p2 : bitsV .and .u64 (IntKind.u64.wrap (0 - (r : Int))) 18446744073709551615 = (-(r : Int)) % 18446744073709551616 := and_neg64 (by omega)
    have fin : whS 18446744073709551616 4 (sgI 18446744073709551616 a) (sgI 18446744073709551616 b) = (-(r : Int)) % 18446744073709551616 := by
      rw [sa', sb']
      show (-(X : Int)).tmod ((Y : Int)) % 18446744073709551616 = _
      rw [Int.neg_tmod, t2]
    rw [fin]
    clear hX
    subst Y
    clear hq hr fin sa' sb' k3 t1 t2 sa sb hql hrl h0 a1 b1
    refine C.ref6_whole_calls (args := [.int .i64 ((4 : Nat) : Int), .int .u64 (a : Int), .int .u64 (b : Int), .int .i64 64]) rfl ?_
    simp (disch := first | omega | assumption) only [C.ref6_whole_gos, T.tv, ↓reduceIte, Nat.reduceEqDiff, reduceCtorEq, Nat.reduceLeDiff, Nat.reducePow, Int.reducePow, Int.reduceToNat, Nat.reduceAdd, vf, k1, k2, k4, d1, d2, w1, ne_eq, nY, p1, p2, c1, c2, Int.reduceEq, Int.reduceSub, Int.reduceMul, Int.reduceAdd, Int.reduceNeg, wz, wm, zn]
  · obtain ⟨X, hX⟩ : ∃ X, X = 18446744073709551616 - a := ⟨_, rfl⟩
    obtain ⟨Y, hY⟩ : ∃ Y, Y = 18446744073709551616 - b := ⟨_, rfl⟩
    have hY0 : 0 < Y := by omega
    have sa' : sgI 18446744073709551616 a = -(X : Int) := by rw [sa, if_neg a1]; omega
    have sb' : sgI 18446744073709551616 b = -(Y : Int) := by rw [sb, if_neg b1]; omega
    have k1 : bitsV .and .u64 (IntKind.u64.wrap (0 - (a : Int))) 18446744073709551615 = (-(a : Int)) % 18446744073709551616 := and_neg64 (by omega)
    have k2 : bitsV .and .u64 (IntKind.u64.wrap (0 - (b : Int))) 18446744073709551615 = (-(b : Int)) % 18446744073709551616 := and_neg64 (by omega)
    have k3 : (-(a : Int)) % 18446744073709551616 = ((18446744073709551616 - a : Nat) : Int) ∨ a = 0 := by omega
    obtain ⟨q, hq⟩ : ∃ q, q = X / Y := ⟨_, rfl⟩
    obtain ⟨r, hr⟩ : ∃ r, r = X % Y := ⟨_, rfl⟩
    have hql : q ≤ X := by rw [hq]; exact Nat.div_le_self _ _
    have hrl : r ≤ X := by rw [hr]; exact Nat.mod_le _ _
    have dd : True := trivial
    have d1 : (X : Int) / (Y : Int) = (q : Int) := by rw [hq, Int.natCast_ediv]
    have d2 : (X : Int) % (Y : Int) = (r : Int) := by rw [hr, Int.natCast_emod]
    have t1 : (X : Int).tdiv (Y : Int) = (q : Int) := by rw [Int.tdiv_eq_ediv_of_nonneg (by omega), d1]
    have t2 : (X : Int).tmod (Y : Int) = (r : Int) := by rw [Int.tmod_eq_emod_of_nonneg (by omega), d2]
    have k4 : (-(a : Int)) % 18446744073709551616 = (X : Int) := by omega
    have k5 : (-(b : Int)) % 18446744073709551616 = (Y : Int) := by omega
    have w1 : IntKind.u64.wrap (q : Int) = q := wrap_u64 (by omega) (by omega)
    have nY : ¬ (Y : Int) = 0 := by omega
    have c1 : (a : Int) / 9223372036854775808 = 1 := by omega
    have c2 : (b : Int) / 9223372036854775808 = 1 := by omega
    have p1 : bitsV .and .u64 (r : Int) 18446744073709551615 = (r : Int) % 18446744073709551616 := and_pos64 (by omega)
    have p2 : bitsV .and .u64 (IntKind.u64.wrap (0 - (r : Int))) 18446744073709551615 = (-(r : Int)) % 18446744073709551616 := and_neg64 (by omega)
    have fin : whS 18446744073709551616 4 (sgI 18446744073709551616 a) (sgI 18446744073709551616 b) = (-(r : Int)) % 18446744073709551616 := by
      rw [sa', sb']
      show (-(X : Int)).tmod (-(Y : Int)) % 18446744073709551616 = _
      rw [Int.neg_tmod, Int.tmod_neg, t2]
    rw [fin]
    clear hX
    clear hY
    clear hq hr fin sa' sb' k3 t1 t2 sa sb hql hrl h0 a1 b1
    refine C.ref6_whole_calls (args := [.int .i64 ((4 : Nat) : Int), .int .u64 (a : Int), .int .u64 (b : Int), .int .i64 64]) rfl ?_
    simp (disch := first | omega | assumption) only [C.ref6_whole_gos, T.tv, ↓reduceIte, Nat.reduceEqDiff, reduceCtorEq, Nat.reduceLeDiff, Nat.reducePow, Int.reducePow, Int.reduceToNat, Nat.reduceAdd, vf, k1, k2, k4, k5, d1, d2, w1, ne_eq, nY, p1, p2, c1, c2, Int.reduceEq, Int.reduceSub, Int.reduceMul, Int.reduceAdd, Int.reduceNeg, wz, wm, zn]
end Go.Proofs.Ytedleaeohbjfnaa
