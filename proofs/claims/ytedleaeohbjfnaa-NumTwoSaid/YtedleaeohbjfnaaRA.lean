/- Whole numbers of 32 and 64 bits, by the program and by the reference. No condition. -/
import Derived.Test.YtedleaeohbjfnaaQL
import Derived.Test.YtedleaeohbjfnaaQS
import Derived.Test.YtedleaeohbjfnaaCn
namespace Go.Proofs.Ytedleaeohbjfnaa
open Go.Vc Go.Num
set_option maxRecDepth 100000
set_option linter.unusedSimpArgs false
set_option linter.unusedVariables false

/-- What is to come out, of whole numbers with a sign, modulo q. -/
def whS (q : Int) (w : Nat) (x y : Int) : Int :=
  if w = 0 then (x + y) % q else if w = 1 then (x - y) % q else if w = 2 then (x * y) % q else if w = 3 then (x.tdiv y) % q else (x.tmod y) % q
/-- A number of bits as one with a sign. -/
def sgI (q : Nat) (a : Nat) : Int := if a < q / 2 then (a : Int) else (a : Int) - q
theorem wrap_i32_mod (z : Int) : IntKind.i32.wrap z % 4294967296 = z % 4294967296 ∧ -2147483648 ≤ IntKind.i32.wrap z ∧ IntKind.i32.wrap z < 2147483648 := by
  simp only [IntKind.wrap, IntKind.bits, IntKind.signed, Bool.true_and, decide_eq_true_eq, Nat.reduceSub, Int.reducePow]
  split <;> rename_i hh <;> simp at hh <;> omega
theorem tdiv_range32 {x y : Int} (hx : -2147483648 ≤ x ∧ x < 2147483648) (hy : y ≠ -1) : -2147483648 ≤ x.tdiv y ∧ x.tdiv y < 2147483648 := by
  by_cases y0 : y = 0
  · subst y0; rw [Int.tdiv_zero]; omega
  by_cases y1 : y = 1
  · subst y1; rw [Int.tdiv_one]; omega
  have h1 : (x.tdiv y).natAbs = x.natAbs / y.natAbs := Int.natAbs_tdiv x y
  have h2 : x.natAbs / y.natAbs ≤ x.natAbs / 2 := Nat.div_le_div_left (by omega) (by decide)
  omega
theorem tmod_range32 {x y : Int} (hx : -2147483648 ≤ x ∧ x < 2147483648) : -2147483648 ≤ x.tmod y ∧ x.tmod y < 2147483648 := by
  have h1 : (x.tmod y).natAbs = x.natAbs % y.natAbs := Int.natAbs_tmod x y
  have h2 : x.natAbs % y.natAbs ≤ x.natAbs := Nat.mod_le _ _
  by_cases h0 : 0 ≤ x
  · have := Int.tmod_nonneg y h0; omega
  · have h3 : (-x).tmod y = -(x.tmod y) := Int.neg_tmod x y
    have := Int.tmod_nonneg y (show 0 ≤ -x by omega)
    omega
set_option maxHeartbeats 600000 in
theorem whole32_any {h : Heap} {w : Nat} {x y : Int} (hw : w ≤ 4) (hx : -2147483648 ≤ x ∧ x < 2147483648) (hy : -2147483648 ≤ y ∧ y < 2147483648) (h0 : 3 ≤ w → y ≠ 0) :
    HCalls Try.prog 19 #[.int .u8 (w : Int), .int .i32 x, .int .i32 y] h fun v h' => h' = h ∧ ∃ r : Int, v = .int .i32 r ∧ -2147483648 ≤ r ∧ r < 2147483648 ∧ r % 4294967296 = whS 4294967296 w x y := by
  refine C.num_whole32_calls (args := [.int .u8 (w : Int), .int .i32 x, .int .i32 y]) rfl ?_
  rcases (by omega : w = 0 ∨ w = 1 ∨ w = 2 ∨ w = 3 ∨ w = 4) with rfl | rfl | rfl | rfl | rfl
  · have z : ((0 : Nat) : Int) = 0 := rfl
    have g := wrap_i32_mod (x + y)
    generalize hr : IntKind.i32.wrap (x + y) = r at g
    simp (disch := first | omega | assumption) only [C.num_whole32_gos, T.tv, ↓reduceIte, Nat.reduceEqDiff, reduceCtorEq, Nat.reduceLeDiff, Nat.reducePow, Int.reducePow, Int.reduceToNat, Nat.reduceAdd, z, vf, Int.reduceEq, Int.reduceSub, Int.reduceMul, Int.reduceAdd, Int.reduceNeg, hr]
    exact ⟨r, rfl, g.2.1, g.2.2, g.1⟩
  · have z : ((1 : Nat) : Int) = 1 := rfl
    have g := wrap_i32_mod (x - y)
    generalize hr : IntKind.i32.wrap (x - y) = r at g
    simp (disch := first | omega | assumption) only [C.num_whole32_gos, T.tv, ↓reduceIte, Nat.reduceEqDiff, reduceCtorEq, Nat.reduceLeDiff, Nat.reducePow, Int.reducePow, Int.reduceToNat, Nat.reduceAdd, z, vf, Int.reduceEq, Int.reduceSub, Int.reduceMul, Int.reduceAdd, Int.reduceNeg, hr]
    exact ⟨r, rfl, g.2.1, g.2.2, g.1⟩
  · have z : ((2 : Nat) : Int) = 2 := rfl
    have g := wrap_i32_mod (x * y)
    generalize hr : IntKind.i32.wrap (x * y) = r at g
    simp (disch := first | omega | assumption) only [C.num_whole32_gos, T.tv, ↓reduceIte, Nat.reduceEqDiff, reduceCtorEq, Nat.reduceLeDiff, Nat.reducePow, Int.reducePow, Int.reduceToNat, Nat.reduceAdd, z, vf, Int.reduceEq, Int.reduceSub, Int.reduceMul, Int.reduceAdd, Int.reduceNeg, hr]
    exact ⟨r, rfl, g.2.1, g.2.2, g.1⟩
  · have z : ((3 : Nat) : Int) = 3 := rfl
    have y0 := h0 (by decide)
    by_cases y1 : y = -1
    · subst y1
      have g := wrap_i32_mod (0 - x)
      generalize hr : IntKind.i32.wrap (0 - x) = r at g
      simp (disch := first | omega | assumption) only [C.num_whole32_gos, T.tv, ↓reduceIte, Nat.reduceEqDiff, reduceCtorEq, Nat.reduceLeDiff, Nat.reducePow, Int.reducePow, Int.reduceToNat, Nat.reduceAdd, z, vf, Int.reduceEq, Int.reduceSub, Int.reduceMul, Int.reduceAdd, Int.reduceNeg, hr]
      refine ⟨r, rfl, g.2.1, g.2.2, ?_⟩
      rw [g.1]
      show _ = (x.tdiv (-1)) % 4294967296
      rw [Int.tdiv_neg, Int.tdiv_one, Int.zero_sub]
    · have g := tdiv_range32 hx y1
      generalize hr : x.tdiv y = r at g
      have e1 : IntKind.i32.wrap r = r := wrap_i32 (by omega) (by omega)
      simp (disch := first | omega | assumption) only [C.num_whole32_gos, T.tv, ↓reduceIte, Nat.reduceEqDiff, reduceCtorEq, Nat.reduceLeDiff, Nat.reducePow, Int.reducePow, Int.reduceToNat, Nat.reduceAdd, z, y1, ne_eq, y0, hr, e1, vf, Int.reduceEq, Int.reduceSub, Int.reduceMul, Int.reduceAdd, Int.reduceNeg]
      exact ⟨r, rfl, g.1, g.2, by rw [← hr]; rfl⟩
  · have z : ((4 : Nat) : Int) = 4 := rfl
    have y0 := h0 (by decide)
    by_cases y1 : y = -1
    · subst y1
      simp (disch := first | omega | assumption) only [C.num_whole32_gos, T.tv, ↓reduceIte, Nat.reduceEqDiff, reduceCtorEq, Nat.reduceLeDiff, Nat.reducePow, Int.reducePow, Int.reduceToNat, Nat.reduceAdd, z, vf, Int.reduceEq, Int.reduceSub, Int.reduceMul, Int.reduceAdd, Int.reduceNeg]
      refine ⟨0, rfl, by decide, by decide, ?_⟩
      show _ = (x.tmod (-1)) % 4294967296
      rw [Int.tmod_neg, Int.tmod_one]
    · have g := tmod_range32 (y := y) hx
      generalize hr : x.tmod y = r at g
      simp (disch := first | omega | assumption) only [C.num_whole32_gos, T.tv, ↓reduceIte, Nat.reduceEqDiff, reduceCtorEq, Nat.reduceLeDiff, Nat.reducePow, Int.reducePow, Int.reduceToNat, Nat.reduceAdd, z, y1, ne_eq, y0, hr, vf, Int.reduceEq, Int.reduceSub, Int.reduceMul, Int.reduceAdd, Int.reduceNeg]
      exact ⟨r, rfl, g.1, g.2, by rw [← hr]; rfl⟩
theorem wrap_i64_mod (z : Int) : IntKind.i64.wrap z % 18446744073709551616 = z % 18446744073709551616 ∧ -9223372036854775808 ≤ IntKind.i64.wrap z ∧ IntKind.i64.wrap z < 9223372036854775808 := by
  simp only [IntKind.wrap, IntKind.bits, IntKind.signed, Bool.true_and, decide_eq_true_eq, Nat.reduceSub, Int.reducePow]
  split <;> rename_i hh <;> simp at hh <;> omega
theorem tdiv_range64 {x y : Int} (hx : -9223372036854775808 ≤ x ∧ x < 9223372036854775808) (hy : y ≠ -1) : -9223372036854775808 ≤ x.tdiv y ∧ x.tdiv y < 9223372036854775808 := by
  by_cases y0 : y = 0
  · subst y0; rw [Int.tdiv_zero]; omega
  by_cases y1 : y = 1
  · subst y1; rw [Int.tdiv_one]; omega
  have h1 : (x.tdiv y).natAbs = x.natAbs / y.natAbs := Int.natAbs_tdiv x y
  have h2 : x.natAbs / y.natAbs ≤ x.natAbs / 2 := Nat.div_le_div_left (by omega) (by decide)
  omega
theorem tmod_range64 {x y : Int} (hx : -9223372036854775808 ≤ x ∧ x < 9223372036854775808) : -9223372036854775808 ≤ x.tmod y ∧ x.tmod y < 9223372036854775808 := by
  have h1 : (x.tmod y).natAbs = x.natAbs % y.natAbs := Int.natAbs_tmod x y
  have h2 : x.natAbs % y.natAbs ≤ x.natAbs := Nat.mod_le _ _
  by_cases h0 : 0 ≤ x
  · have := Int.tmod_nonneg y h0; omega
  · have h3 : (-x).tmod y = -(x.tmod y) := Int.neg_tmod x y
    have := Int.tmod_nonneg y (show 0 ≤ -x by omega)
    omega
set_option maxHeartbeats 600000 in
theorem whole64_any {h : Heap} {w : Nat} {x y : Int} (hw : w ≤ 4) (hx : -9223372036854775808 ≤ x ∧ x < 9223372036854775808) (hy : -9223372036854775808 ≤ y ∧ y < 9223372036854775808) (h0 : 3 ≤ w → y ≠ 0) :
    HCalls Try.prog 20 #[.int .u8 (w : Int), .int .i64 x, .int .i64 y] h fun v h' => h' = h ∧ ∃ r : Int, v = .int .i64 r ∧ -9223372036854775808 ≤ r ∧ r < 9223372036854775808 ∧ r % 18446744073709551616 = whS 18446744073709551616 w x y := by
  refine C.num_whole64_calls (args := [.int .u8 (w : Int), .int .i64 x, .int .i64 y]) rfl ?_
  rcases (by omega : w = 0 ∨ w = 1 ∨ w = 2 ∨ w = 3 ∨ w = 4) with rfl | rfl | rfl | rfl | rfl
  · have z : ((0 : Nat) : Int) = 0 := rfl
    have g := wrap_i64_mod (x + y)
    generalize hr : IntKind.i64.wrap (x + y) = r at g
    simp (disch := first | omega | assumption) only [C.num_whole64_gos, T.tv, ↓reduceIte, Nat.reduceEqDiff, reduceCtorEq, Nat.reduceLeDiff, Nat.reducePow, Int.reducePow, Int.reduceToNat, Nat.reduceAdd, z, vf, Int.reduceEq, Int.reduceSub, Int.reduceMul, Int.reduceAdd, Int.reduceNeg, hr]
    exact ⟨r, rfl, g.2.1, g.2.2, g.1⟩
  · have z : ((1 : Nat) : Int) = 1 := rfl
    have g := wrap_i64_mod (x - y)
    generalize hr : IntKind.i64.wrap (x - y) = r at g
    simp (disch := first | omega | assumption) only [C.num_whole64_gos, T.tv, ↓reduceIte, Nat.reduceEqDiff, reduceCtorEq, Nat.reduceLeDiff, Nat.reducePow, Int.reducePow, Int.reduceToNat, Nat.reduceAdd, z, vf, Int.reduceEq, Int.reduceSub, Int.reduceMul, Int.reduceAdd, Int.reduceNeg, hr]
    exact ⟨r, rfl, g.2.1, g.2.2, g.1⟩
  · have z : ((2 : Nat) : Int) = 2 := rfl
    have g := wrap_i64_mod (x * y)
    generalize hr : IntKind.i64.wrap (x * y) = r at g
    simp (disch := first | omega | assumption) only [C.num_whole64_gos, T.tv, ↓reduceIte, Nat.reduceEqDiff, reduceCtorEq, Nat.reduceLeDiff, Nat.reducePow, Int.reducePow, Int.reduceToNat, Nat.reduceAdd, z, vf, Int.reduceEq, Int.reduceSub, Int.reduceMul, Int.reduceAdd, Int.reduceNeg, hr]
    exact ⟨r, rfl, g.2.1, g.2.2, g.1⟩
  · have z : ((3 : Nat) : Int) = 3 := rfl
    have y0 := h0 (by decide)
    by_cases y1 : y = -1
    · subst y1
      have g := wrap_i64_mod (0 - x)
      generalize hr : IntKind.i64.wrap (0 - x) = r at g
      simp (disch := first | omega | assumption) only [C.num_whole64_gos, T.tv, ↓reduceIte, Nat.reduceEqDiff, reduceCtorEq, Nat.reduceLeDiff, Nat.reducePow, Int.reducePow, Int.reduceToNat, Nat.reduceAdd, z, vf, Int.reduceEq, Int.reduceSub, Int.reduceMul, Int.reduceAdd, Int.reduceNeg, hr]
      refine ⟨r, rfl, g.2.1, g.2.2, ?_⟩
      rw [g.1]
      show _ = (x.tdiv (-1)) % 18446744073709551616
      rw [Int.tdiv_neg, Int.tdiv_one, Int.zero_sub]
    · have g := tdiv_range64 hx y1
      generalize hr : x.tdiv y = r at g
      have e1 : IntKind.i64.wrap r = r := wrap_i64 (by omega) (by omega)
      simp (disch := first | omega | assumption) only [C.num_whole64_gos, T.tv, ↓reduceIte, Nat.reduceEqDiff, reduceCtorEq, Nat.reduceLeDiff, Nat.reducePow, Int.reducePow, Int.reduceToNat, Nat.reduceAdd, z, y1, ne_eq, y0, hr, e1, vf, Int.reduceEq, Int.reduceSub, Int.reduceMul, Int.reduceAdd, Int.reduceNeg]
      exact ⟨r, rfl, g.1, g.2, by rw [← hr]; rfl⟩
  · have z : ((4 : Nat) : Int) = 4 := rfl
    have y0 := h0 (by decide)
    by_cases y1 : y = -1
    · subst y1
      simp (disch := first | omega | assumption) only [C.num_whole64_gos, T.tv, ↓reduceIte, Nat.reduceEqDiff, reduceCtorEq, Nat.reduceLeDiff, Nat.reducePow, Int.reducePow, Int.reduceToNat, Nat.reduceAdd, z, vf, Int.reduceEq, Int.reduceSub, Int.reduceMul, Int.reduceAdd, Int.reduceNeg]
      refine ⟨0, rfl, by decide, by decide, ?_⟩
      show _ = (x.tmod (-1)) % 18446744073709551616
      rw [Int.tmod_neg, Int.tmod_one]
    · have g := tmod_range64 (y := y) hx
      generalize hr : x.tmod y = r at g
      simp (disch := first | omega | assumption) only [C.num_whole64_gos, T.tv, ↓reduceIte, Nat.reduceEqDiff, reduceCtorEq, Nat.reduceLeDiff, Nat.reducePow, Int.reducePow, Int.reduceToNat, Nat.reduceAdd, z, y1, ne_eq, y0, hr, vf, Int.reduceEq, Int.reduceSub, Int.reduceMul, Int.reduceAdd, Int.reduceNeg]
      exact ⟨r, rfl, g.1, g.2, by rw [← hr]; rfl⟩
end Go.Proofs.Ytedleaeohbjfnaa
