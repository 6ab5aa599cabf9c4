/- Shifts, by the reference and by the program. No condition. -/
import Derived.Test.YtedleaeohbjfnaaRB
namespace Go.Proofs.Ytedleaeohbjfnaa
open Go.Vc Go.Num
set_option maxRecDepth 100000
set_option linter.unusedSimpArgs false
set_option linter.unusedVariables false

/-- A shift, by its number: to the left; to the right, with the sign; without. -/
def shS (q : Nat) (n x k : Nat) : Nat :=
  if n = 0 then x * 2 ^ k % q else if n = 1 then (if x < q / 2 then x / 2 ^ k else q - 1 - (q - 1 - x) / 2 ^ k) else x / 2 ^ k
theorem shS_zero {q n x : Nat} (hx : x < q) : shS q n x 0 = x := by
  unfold shS
  simp only [Nat.pow_zero, Nat.mul_one, Nat.div_one]
  split
  · exact Nat.mod_eq_of_lt hx
  · split
    · split
      · rfl
      · omega
    · rfl
theorem shS_left {q x k : Nat} : shS q 0 (2 * x % q) k = shS q 0 x (k + 1) := by
  show 2 * x % q * 2 ^ k % q = x * 2 ^ (k + 1) % q
  rw [Nat.mod_mul_mod, Nat.pow_succ]
  congr 1
  rw [Nat.mul_comm 2 x, Nat.mul_assoc, Nat.mul_comm 2]
theorem shS_right {q x k : Nat} : shS q 2 (x / 2) k = shS q 2 x (k + 1) := by
  show x / 2 / 2 ^ k = x / 2 ^ (k + 1)
  rw [Nat.div_div_eq_div_mul, Nat.pow_succ, Nat.mul_comm 2]
theorem shS_pos {q x k : Nat} (hx : x < q / 2) : shS q 1 (x / 2) k = shS q 1 x (k + 1) := by
  show (if x / 2 < q / 2 then x / 2 / 2 ^ k else _) = (if x < q / 2 then x / 2 ^ (k + 1) else _)
  rw [if_pos hx, if_pos (by omega), Nat.div_div_eq_div_mul, Nat.pow_succ, Nat.mul_comm 2]
theorem shS_neg {r x k : Nat} (h1 : r ≤ x) (h2 : x < 2 * r) (hr : r % 2 = 0) : shS (2 * r) 1 (x / 2 + r) k = shS (2 * r) 1 x (k + 1) := by
  show (if x / 2 + r < 2 * r / 2 then _ else 2 * r - 1 - (2 * r - 1 - (x / 2 + r)) / 2 ^ k) = (if x < 2 * r / 2 then _ else 2 * r - 1 - (2 * r - 1 - x) / 2 ^ (k + 1))
  rw [if_neg (by omega), if_neg (by omega), Nat.pow_succ, Nat.mul_comm (2 ^ k) 2, ← Nat.div_div_eq_div_mul]
  rw [show 2 * r - 1 - (x / 2 + r) = (2 * r - 1 - x) / 2 by omega]

set_option maxHeartbeats 2000000 in
theorem rshift32_0 {h : Heap} {x k : Nat} (hx : x < 4294967296) (hk : k < 100) :
    HCalls Try.prog 15 #[.int .i64 ((0 : Nat) : Int), .int .u64 (x : Int), .int .i64 (k : Int), .int .i64 32] h fun v h' => h' = h ∧ v = .int .u64 ((shS 4294967296 0 x k : Nat) : Int) := by
  refine C.ref6_shift_calls (args := [.int .i64 ((0 : Nat) : Int), .int .u64 (x : Int), .int .i64 (k : Int), .int .i64 32]) rfl ?_
  have wz : IntKind.u64.wrap 18446744073709551616 = 0 := by decide
  have wm : IntKind.u64.wrap (-1) = 18446744073709551615 := by decide
  have zn : ((0 : Nat) : Int) = 0 := rfl
  have b1 : ∀ z : Nat, z < 18446744073709551616 → bitsV .and .u64 ((z : Nat) : Int) 1 = ((z % 2 : Nat) : Int) := fun z hz => by
    have := and_mask (a := z) (n := 1) hz (by decide)
    exact this
  have d0 : (x : Int) / 2147483648 = ((x / 2147483648 : Nat) : Int) := by omega
  have d1 := b1 (x / 2147483648) (by omega)
  obtain ⟨u, hu⟩ : ∃ u : Bool, u = decide (((x / 2147483648 % 2 : Nat) : Int) = 1) := ⟨_, rfl⟩
  obtain ⟨R, hR⟩ : ∃ R, R = shS 4294967296 0 x k := ⟨_, rfl⟩
  rw [← hR]
  simp (disch := first | omega | assumption) only [C.ref6_shift_gos, T.tv, ↓reduceIte, Nat.reduceEqDiff, reduceCtorEq, Nat.reduceLeDiff, Nat.reducePow, Int.reducePow, Int.reduceToNat, Nat.reduceAdd, zn, d0, d1, vf, wz, wm, Int.reduceEq, Int.reduceSub, Int.reduceMul, Int.reduceAdd, Int.reduceNeg, ← hu]
  refine loop_intro [0, 1, 2, 3, 9, 10] (fun m ρ hc => ∃ y j : Nat, m = j ∧ y < 4294967296 ∧ j < 100 ∧ shS 4294967296 0 y j = R ∧ ρ = [(0, .int .i64 0), (1, .int .u64 (y : Int)), (2, .int .i64 (j : Int)), (3, .int .i64 32), (9, .int .u64 4294967295), (10, .bool u)] ∧ hc = h) ?_ ?_
  · simp (disch := first | omega | assumption) only [C.ref6_shift_gos, T.tv, ↓reduceIte, Nat.reduceEqDiff, reduceCtorEq, Nat.reduceLeDiff, Nat.reducePow, Int.reducePow, Int.reduceToNat, Nat.reduceAdd]
    exact ⟨_, x, k, rfl, hx, hk, hR.symm, rfl⟩
  clear d0 d1 hR hu
  rintro m ρ hc ⟨y, j, rfl, hy, hj, hz, rfl, rfl⟩
  cases m with
  | zero =>
    have c : ¬ (0 : Int) < ((0 : Nat) : Int) := by omega
    rw [shS_zero hy] at hz
    subst hz
    simp (disch := first | omega | assumption) only [C.ref6_shift_gos, T.tv, ↓reduceIte, Nat.reduceEqDiff, reduceCtorEq, Nat.reduceLeDiff, Nat.reducePow, Int.reducePow, Int.reduceToNat, Nat.reduceAdd, c, vf]
  | succ j =>
    have c : (0 : Int) < ((j + 1 : Nat) : Int) := by omega
    have cj : ((j + 1 : Nat) : Int) - 1 = ((j : Nat) : Int) := by omega
    have wj : IntKind.i64.wrap (j : Int) = (j : Int) := wrap_i64 (by omega) (by omega)
    clear wz wm
    rw [← shS_left] at hz
    have e1 : IntKind.u64.wrap (2 * (y : Int)) = ((2 * y % 18446744073709551616 : Nat) : Int) := by
      rw [show (2 : Int) * (y : Int) = ((2 * y : Nat) : Int) by omega, wrap_mod]
    have e2 : bitsV .and .u64 ((2 * y % 18446744073709551616 : Nat) : Int) 4294967295 = ((2 * y % 4294967296 : Nat) : Int) := by
      have := and_mask (a := 2 * y % 18446744073709551616) (n := 32) (by omega) (by decide)
      rw [show (((2 : Nat) ^ 32 - 1 : Nat) : Int) = 4294967295 by decide, show (2 : Nat) ^ 32 = 4294967296 by decide] at this
      rw [this]; omega
    have yb : 2 * y % 4294967296 < 4294967296 := by omega
    generalize 2 * y % 4294967296 = y' at *
    simp (disch := first | omega | assumption) only [C.ref6_shift_gos, T.tv, ↓reduceIte, Nat.reduceEqDiff, reduceCtorEq, Nat.reduceLeDiff, Nat.reducePow, Int.reducePow, Int.reduceToNat, Nat.reduceAdd, zn, c, cj, e1, e2, wj, vf, Int.reduceEq, Int.reduceSub, Int.reduceMul, Int.reduceAdd, Int.reduceNeg]
    exact ⟨j, by omega, y', j, rfl, yb, by omega, hz, rfl⟩
set_option maxHeartbeats 2000000 in
theorem rshift32_1_pos {h : Heap} {x k : Nat} (hx : x < 4294967296) (hk : k < 100) (hs : x < 2147483648) :
    HCalls Try.prog 15 #[.int .i64 ((1 : Nat) : Int), .int .u64 (x : Int), .int .i64 (k : Int), .int .i64 32] h fun v h' => h' = h ∧ v = .int .u64 ((shS 4294967296 1 x k : Nat) : Int) := by
  refine C.ref6_shift_calls (args := [.int .i64 ((1 : Nat) : Int), .int .u64 (x : Int), .int .i64 (k : Int), .int .i64 32]) rfl ?_
  have wz : IntKind.u64.wrap 18446744073709551616 = 0 := by decide
  have wm : IntKind.u64.wrap (-1) = 18446744073709551615 := by decide
  have zn : ((1 : Nat) : Int) = 1 := rfl
  have b1 : ∀ z : Nat, z < 18446744073709551616 → bitsV .and .u64 ((z : Nat) : Int) 1 = ((z % 2 : Nat) : Int) := fun z hz => by
    have := and_mask (a := z) (n := 1) hz (by decide)
    exact this
  have d0 : (x : Int) / 2147483648 = 0 := by omega
  have d1 : bitsV .and .u64 0 1 = 0 := b1 0 (by decide)
  obtain ⟨R, hR⟩ : ∃ R, R = shS 4294967296 1 x k := ⟨_, rfl⟩
  rw [← hR]
  simp (disch := first | omega | assumption) only [C.ref6_shift_gos, T.tv, ↓reduceIte, Nat.reduceEqDiff, reduceCtorEq, Nat.reduceLeDiff, Nat.reducePow, Int.reducePow, Int.reduceToNat, Nat.reduceAdd, zn, d0, d1, vf, wz, wm, Int.reduceEq, Int.reduceSub, Int.reduceMul, Int.reduceAdd, Int.reduceNeg]
  refine loop_intro [0, 1, 2, 3, 9, 10] (fun m ρ hc => ∃ y j : Nat, m = j ∧ y < 4294967296 ∧ j < 100 ∧ shS 4294967296 1 y j = R ∧ y < 2147483648 ∧ ρ = [(0, .int .i64 1), (1, .int .u64 (y : Int)), (2, .int .i64 (j : Int)), (3, .int .i64 32), (9, .int .u64 4294967295), (10, .bool false)] ∧ hc = h) ?_ ?_
  · simp (disch := first | omega | assumption) only [C.ref6_shift_gos, T.tv, ↓reduceIte, Nat.reduceEqDiff, reduceCtorEq, Nat.reduceLeDiff, Nat.reducePow, Int.reducePow, Int.reduceToNat, Nat.reduceAdd]
    exact ⟨_, x, k, rfl, hx, hk, hR.symm, hs, rfl⟩
  clear d0 d1 hR
  rintro m ρ hc ⟨y, j, rfl, hy, hj, hz, hy2, rfl, rfl⟩
  cases m with
  | zero =>
    have c : ¬ (0 : Int) < ((0 : Nat) : Int) := by omega
    rw [shS_zero hy] at hz
    subst hz
    simp (disch := first | omega | assumption) only [C.ref6_shift_gos, T.tv, ↓reduceIte, Nat.reduceEqDiff, reduceCtorEq, Nat.reduceLeDiff, Nat.reducePow, Int.reducePow, Int.reduceToNat, Nat.reduceAdd, c, vf]
  | succ j =>
    have c : (0 : Int) < ((j + 1 : Nat) : Int) := by omega
    have cj : ((j + 1 : Nat) : Int) - 1 = ((j : Nat) : Int) := by omega
    have wj : IntKind.i64.wrap (j : Int) = (j : Int) := wrap_i64 (by omega) (by omega)
    clear wz wm
    rw [← shS_pos (by omega)] at hz
    have e1 : IntKind.u64.wrap ((y : Int) / 2) = ((y / 2 : Nat) : Int) := by
      rw [show (y : Int) / 2 = ((y / 2 : Nat) : Int) by omega, wrap_mod]; omega
    have yb : y / 2 < 4294967296 := by omega
    have yc : y / 2 < 2147483648 := by omega
    generalize y / 2 = y' at *
    simp (disch := first | omega | assumption) only [C.ref6_shift_gos, T.tv, ↓reduceIte, Nat.reduceEqDiff, reduceCtorEq, Nat.reduceLeDiff, Nat.reducePow, Int.reducePow, Int.reduceToNat, Nat.reduceAdd, zn, c, cj, e1, wj, vf, Int.reduceEq, Int.reduceSub, Int.reduceMul, Int.reduceAdd, Int.reduceNeg]
    exact ⟨j, by omega, y', j, rfl, yb, by omega, hz, yc, rfl⟩
set_option maxHeartbeats 2000000 in
theorem rshift32_1_neg {h : Heap} {x k : Nat} (hx : x < 4294967296) (hk : k < 100) (hs : 2147483648 ≤ x) :
    HCalls Try.prog 15 #[.int .i64 ((1 : Nat) : Int), .int .u64 (x : Int), .int .i64 (k : Int), .int .i64 32] h fun v h' => h' = h ∧ v = .int .u64 ((shS 4294967296 1 x k : Nat) : Int) := by
  refine C.ref6_shift_calls (args := [.int .i64 ((1 : Nat) : Int), .int .u64 (x : Int), .int .i64 (k : Int), .int .i64 32]) rfl ?_
  have wz : IntKind.u64.wrap 18446744073709551616 = 0 := by decide
  have wm : IntKind.u64.wrap (-1) = 18446744073709551615 := by decide
  have zn : ((1 : Nat) : Int) = 1 := rfl
  have b1 : ∀ z : Nat, z < 18446744073709551616 → bitsV .and .u64 ((z : Nat) : Int) 1 = ((z % 2 : Nat) : Int) := fun z hz => by
    have := and_mask (a := z) (n := 1) hz (by decide)
    exact this
  have d0 : (x : Int) / 2147483648 = 1 := by omega
  have d1 : bitsV .and .u64 1 1 = 1 := b1 1 (by decide)
  obtain ⟨R, hR⟩ : ∃ R, R = shS 4294967296 1 x k := ⟨_, rfl⟩
  rw [← hR]
  simp (disch := first | omega | assumption) only [C.ref6_shift_gos, T.tv, ↓reduceIte, Nat.reduceEqDiff, reduceCtorEq, Nat.reduceLeDiff, Nat.reducePow, Int.reducePow, Int.reduceToNat, Nat.reduceAdd, zn, d0, d1, vf, wz, wm, Int.reduceEq, Int.reduceSub, Int.reduceMul, Int.reduceAdd, Int.reduceNeg]
  refine loop_intro [0, 1, 2, 3, 9, 10] (fun m ρ hc => ∃ y j : Nat, m = j ∧ y < 4294967296 ∧ j < 100 ∧ shS 4294967296 1 y j = R ∧ 2147483648 ≤ y ∧ ρ = [(0, .int .i64 1), (1, .int .u64 (y : Int)), (2, .int .i64 (j : Int)), (3, .int .i64 32), (9, .int .u64 4294967295), (10, .bool true)] ∧ hc = h) ?_ ?_
  · simp (disch := first | omega | assumption) only [C.ref6_shift_gos, T.tv, ↓reduceIte, Nat.reduceEqDiff, reduceCtorEq, Nat.reduceLeDiff, Nat.reducePow, Int.reducePow, Int.reduceToNat, Nat.reduceAdd]
    exact ⟨_, x, k, rfl, hx, hk, hR.symm, hs, rfl⟩
  clear d0 d1 hR
  rintro m ρ hc ⟨y, j, rfl, hy, hj, hz, hy2, rfl, rfl⟩
  cases m with
  | zero =>
    have c : ¬ (0 : Int) < ((0 : Nat) : Int) := by omega
    rw [shS_zero hy] at hz
    subst hz
    simp (disch := first | omega | assumption) only [C.ref6_shift_gos, T.tv, ↓reduceIte, Nat.reduceEqDiff, reduceCtorEq, Nat.reduceLeDiff, Nat.reducePow, Int.reducePow, Int.reduceToNat, Nat.reduceAdd, c, vf]
  | succ j =>
    have c : (0 : Int) < ((j + 1 : Nat) : Int) := by omega
    have cj : ((j + 1 : Nat) : Int) - 1 = ((j : Nat) : Int) := by omega
    have wj : IntKind.i64.wrap (j : Int) = (j : Int) := wrap_i64 (by omega) (by omega)
    clear wz wm
    have hz' : shS 4294967296 1 (y / 2 + 2147483648) j = R := by
      rw [← hz]; exact shS_neg (r := 2147483648) hy2 hy (by decide)
    have e1 : IntKind.u64.wrap ((y : Int) / 2) = ((y / 2 : Nat) : Int) := by
      rw [show (y : Int) / 2 = ((y / 2 : Nat) : Int) by omega, wrap_mod]; omega
    have e2 : IntKind.u64.wrap (((y / 2 : Nat) : Int) + 2147483648) = ((y / 2 + 2147483648 : Nat) : Int) := by
      rw [show ((y / 2 : Nat) : Int) + 2147483648 = ((y / 2 + 2147483648 : Nat) : Int) by omega, wrap_mod]; omega
    have e3 : IntKind.u64.wrap 2147483648 = 2147483648 := by decide
    have yb : y / 2 + 2147483648 < 4294967296 := by omega
    have yc : 2147483648 ≤ y / 2 + 2147483648 := by omega
    generalize y / 2 + 2147483648 = y' at *
    generalize y / 2 = y'' at *
    simp (disch := first | omega | assumption) only [C.ref6_shift_gos, T.tv, ↓reduceIte, Nat.reduceEqDiff, reduceCtorEq, Nat.reduceLeDiff, Nat.reducePow, Int.reducePow, Int.reduceToNat, Nat.reduceAdd, zn, c, cj, e1, e2, e3, wj, vf, Int.reduceEq, Int.reduceSub, Int.reduceMul, Int.reduceAdd, Int.reduceNeg]
    exact ⟨j, by omega, y', j, rfl, yb, by omega, hz', yc, rfl⟩
set_option maxHeartbeats 2000000 in
theorem rshift32_2 {h : Heap} {x k : Nat} (hx : x < 4294967296) (hk : k < 100) :
    HCalls Try.prog 15 #[.int .i64 ((2 : Nat) : Int), .int .u64 (x : Int), .int .i64 (k : Int), .int .i64 32] h fun v h' => h' = h ∧ v = .int .u64 ((shS 4294967296 2 x k : Nat) : Int) := by
  refine C.ref6_shift_calls (args := [.int .i64 ((2 : Nat) : Int), .int .u64 (x : Int), .int .i64 (k : Int), .int .i64 32]) rfl ?_
  have wz : IntKind.u64.wrap 18446744073709551616 = 0 := by decide
  have wm : IntKind.u64.wrap (-1) = 18446744073709551615 := by decide
  have zn : ((2 : Nat) : Int) = 2 := rfl
  have b1 : ∀ z : Nat, z < 18446744073709551616 → bitsV .and .u64 ((z : Nat) : Int) 1 = ((z % 2 : Nat) : Int) := fun z hz => by
    have := and_mask (a := z) (n := 1) hz (by decide)
    exact this
  have d0 : (x : Int) / 2147483648 = ((x / 2147483648 : Nat) : Int) := by omega
  have d1 := b1 (x / 2147483648) (by omega)
  obtain ⟨u, hu⟩ : ∃ u : Bool, u = decide (((x / 2147483648 % 2 : Nat) : Int) = 1) := ⟨_, rfl⟩
  obtain ⟨R, hR⟩ : ∃ R, R = shS 4294967296 2 x k := ⟨_, rfl⟩
  rw [← hR]
  simp (disch := first | omega | assumption) only [C.ref6_shift_gos, T.tv, ↓reduceIte, Nat.reduceEqDiff, reduceCtorEq, Nat.reduceLeDiff, Nat.reducePow, Int.reducePow, Int.reduceToNat, Nat.reduceAdd, zn, d0, d1, vf, wz, wm, Int.reduceEq, Int.reduceSub, Int.reduceMul, Int.reduceAdd, Int.reduceNeg, ← hu]
  refine loop_intro [0, 1, 2, 3, 9, 10] (fun m ρ hc => ∃ y j : Nat, m = j ∧ y < 4294967296 ∧ j < 100 ∧ shS 4294967296 2 y j = R ∧ ρ = [(0, .int .i64 2), (1, .int .u64 (y : Int)), (2, .int .i64 (j : Int)), (3, .int .i64 32), (9, .int .u64 4294967295), (10, .bool u)] ∧ hc = h) ?_ ?_
  · simp (disch := first | omega | assumption) only [C.ref6_shift_gos, T.tv, ↓reduceIte, Nat.reduceEqDiff, reduceCtorEq, Nat.reduceLeDiff, Nat.reducePow, Int.reducePow, Int.reduceToNat, Nat.reduceAdd]
    exact ⟨_, x, k, rfl, hx, hk, hR.symm, rfl⟩
  clear d0 d1 hR hu
  rintro m ρ hc ⟨y, j, rfl, hy, hj, hz, rfl, rfl⟩
  cases m with
  | zero =>
    have c : ¬ (0 : Int) < ((0 : Nat) : Int) := by omega
    rw [shS_zero hy] at hz
    subst hz
    simp (disch := first | omega | assumption) only [C.ref6_shift_gos, T.tv, ↓reduceIte, Nat.reduceEqDiff, reduceCtorEq, Nat.reduceLeDiff, Nat.reducePow, Int.reducePow, Int.reduceToNat, Nat.reduceAdd, c, vf]
  | succ j =>
    have c : (0 : Int) < ((j + 1 : Nat) : Int) := by omega
    have cj : ((j + 1 : Nat) : Int) - 1 = ((j : Nat) : Int) := by omega
    have wj : IntKind.i64.wrap (j : Int) = (j : Int) := wrap_i64 (by omega) (by omega)
    clear wz wm
    rw [← shS_right] at hz
    have e1 : IntKind.u64.wrap ((y : Int) / 2) = ((y / 2 : Nat) : Int) := by
      rw [show (y : Int) / 2 = ((y / 2 : Nat) : Int) by omega, wrap_mod]; omega
    have yb : y / 2 < 4294967296 := by omega
    generalize y / 2 = y' at *
    simp (disch := first | omega | assumption) only [C.ref6_shift_gos, T.tv, ↓reduceIte, Nat.reduceEqDiff, reduceCtorEq, Nat.reduceLeDiff, Nat.reducePow, Int.reducePow, Int.reduceToNat, Nat.reduceAdd, zn, c, cj, e1, wj, vf, Int.reduceEq, Int.reduceSub, Int.reduceMul, Int.reduceAdd, Int.reduceNeg]
    exact ⟨j, by omega, y', j, rfl, yb, by omega, hz, rfl⟩
set_option maxHeartbeats 2000000 in
theorem rshift64_0 {h : Heap} {x k : Nat} (hx : x < 18446744073709551616) (hk : k < 100) :
    HCalls Try.prog 15 #[.int .i64 ((0 : Nat) : Int), .int .u64 (x : Int), .int .i64 (k : Int), .int .i64 64] h fun v h' => h' = h ∧ v = .int .u64 ((shS 18446744073709551616 0 x k : Nat) : Int) := by
  refine C.ref6_shift_calls (args := [.int .i64 ((0 : Nat) : Int), .int .u64 (x : Int), .int .i64 (k : Int), .int .i64 64]) rfl ?_
  have wz : IntKind.u64.wrap 18446744073709551616 = 0 := by decide
  have wm : IntKind.u64.wrap (-1) = 18446744073709551615 := by decide
  have zn : ((0 : Nat) : Int) = 0 := rfl
  have b1 : ∀ z : Nat, z < 18446744073709551616 → bitsV .and .u64 ((z : Nat) : Int) 1 = ((z % 2 : Nat) : Int) := fun z hz => by
    have := and_mask (a := z) (n := 1) hz (by decide)
    exact this
  have d0 : (x : Int) / 9223372036854775808 = ((x / 9223372036854775808 : Nat) : Int) := by omega
  have d1 := b1 (x / 9223372036854775808) (by omega)
  obtain ⟨u, hu⟩ : ∃ u : Bool, u = decide (((x / 9223372036854775808 % 2 : Nat) : Int) = 1) := ⟨_, rfl⟩
  obtain ⟨R, hR⟩ : ∃ R, R = shS 18446744073709551616 0 x k := ⟨_, rfl⟩
  rw [← hR]
  simp (disch := first | omega | assumption) only [C.ref6_shift_gos, T.tv, ↓reduceIte, Nat.reduceEqDiff, reduceCtorEq, Nat.reduceLeDiff, Nat.reducePow, Int.reducePow, Int.reduceToNat, Nat.reduceAdd, zn, d0, d1, vf, wz, wm, Int.reduceEq, Int.reduceSub, Int.reduceMul, Int.reduceAdd, Int.reduceNeg, ← hu]
  refine loop_intro [0, 1, 2, 3, 9, 10] (fun m ρ hc => ∃ y j : Nat, m = j ∧ y < 18446744073709551616 ∧ j < 100 ∧ shS 18446744073709551616 0 y j = R ∧ ρ = [(0, .int .i64 0), (1, .int .u64 (y : Int)), (2, .int .i64 (j : Int)), (3, .int .i64 64), (9, .int .u64 18446744073709551615), (10, .bool u)] ∧ hc = h) ?_ ?_
  · simp (disch := first | omega | assumption) only [C.ref6_shift_gos, T.tv, ↓reduceIte, Nat.reduceEqDiff, reduceCtorEq, Nat.reduceLeDiff, Nat.reducePow, Int.reducePow, Int.reduceToNat, Nat.reduceAdd]
    exact ⟨_, x, k, rfl, hx, hk, hR.symm, rfl⟩
  clear d0 d1 hR hu
  rintro m ρ hc ⟨y, j, rfl, hy, hj, hz, rfl, rfl⟩
  cases m with
  | zero =>
    have c : ¬ (0 : Int) < ((0 : Nat) : Int) := by omega
    rw [shS_zero hy] at hz
    subst hz
    simp (disch := first | omega | assumption) only [C.ref6_shift_gos, T.tv, ↓reduceIte, Nat.reduceEqDiff, reduceCtorEq, Nat.reduceLeDiff, Nat.reducePow, Int.reducePow, Int.reduceToNat, Nat.reduceAdd, c, vf]
  | succ j =>
    have c : (0 : Int) < ((j + 1 : Nat) : Int) := by omega
    have cj : ((j + 1 : Nat) : Int) - 1 = ((j : Nat) : Int) := by omega
    have wj : IntKind.i64.wrap (j : Int) = (j : Int) := wrap_i64 (by omega) (by omega)
    clear wz wm
    rw [← shS_left] at hz
    have e1 : IntKind.u64.wrap (2 * (y : Int)) = ((2 * y % 18446744073709551616 : Nat) : Int) := by
      rw [show (2 : Int) * (y : Int) = ((2 * y : Nat) : Int) by omega, wrap_mod]
    have e2 : bitsV .and .u64 ((2 * y % 18446744073709551616 : Nat) : Int) 18446744073709551615 = ((2 * y % 18446744073709551616 : Nat) : Int) := by
      have := and_mask (a := 2 * y % 18446744073709551616) (n := 64) (by omega) (by decide)
      rw [show (((2 : Nat) ^ 64 - 1 : Nat) : Int) = 18446744073709551615 by decide, show (2 : Nat) ^ 64 = 18446744073709551616 by decide] at this
      rw [this]; omega
    have yb : 2 * y % 18446744073709551616 < 18446744073709551616 := by omega
    generalize 2 * y % 18446744073709551616 = y' at *
    simp (disch := first | omega | assumption) only [C.ref6_shift_gos, T.tv, ↓reduceIte, Nat.reduceEqDiff, reduceCtorEq, Nat.reduceLeDiff, Nat.reducePow, Int.reducePow, Int.reduceToNat, Nat.reduceAdd, zn, c, cj, e1, e2, wj, vf, Int.reduceEq, Int.reduceSub, Int.reduceMul, Int.reduceAdd, Int.reduceNeg]
    exact ⟨j, by omega, y', j, rfl, yb, by omega, hz, rfl⟩
set_option maxHeartbeats 2000000 in
theorem rshift64_1_pos {h : Heap} {x k : Nat} (hx : x < 18446744073709551616) (hk : k < 100) (hs : x < 9223372036854775808) :
    HCalls Try.prog 15 #[.int .i64 ((1 : Nat) : Int), .int .u64 (x : Int), .int .i64 (k : Int), .int .i64 64] h fun v h' => h' = h ∧ v = .int .u64 ((shS 18446744073709551616 1 x k : Nat) : Int) := by
  refine C.ref6_shift_calls (args := [.int .i64 ((1 : Nat) : Int), .int .u64 (x : Int), .int .i64 (k : Int), .int .i64 64]) rfl ?_
  have wz : IntKind.u64.wrap 18446744073709551616 = 0 := by decide
  have wm : IntKind.u64.wrap (-1) = 18446744073709551615 := by decide
  have zn : ((1 : Nat) : Int) = 1 := rfl
  have b1 : ∀ z : Nat, z < 18446744073709551616 → bitsV .and .u64 ((z : Nat) : Int) 1 = ((z % 2 : Nat) : Int) := fun z hz => by
    have := and_mask (a := z) (n := 1) hz (by decide)
    exact this
  have d0 : (x : Int) / 9223372036854775808 = 0 := by omega
  have d1 : bitsV .and .u64 0 1 = 0 := b1 0 (by decide)
  obtain ⟨R, hR⟩ : ∃ R, R = shS 18446744073709551616 1 x k := ⟨_, rfl⟩
  rw [← hR]
  simp (disch := first | omega | assumption) only [C.ref6_shift_gos, T.tv, ↓reduceIte, Nat.reduceEqDiff, reduceCtorEq, Nat.reduceLeDiff, Nat.reducePow, Int.reducePow, Int.reduceToNat, Nat.reduceAdd, zn, d0, d1, vf, wz, wm, Int.reduceEq, Int.reduceSub, Int.reduceMul, Int.reduceAdd, Int.reduceNeg]
  refine loop_intro [0, 1, 2, 3, 9, 10] (fun m ρ hc => ∃ y j : Nat, m = j ∧ y < 18446744073709551616 ∧ j < 100 ∧ shS 18446744073709551616 1 y j = R ∧ y < 9223372036854775808 ∧ ρ = [(0, .int .i64 1), (1, .int .u64 (y : Int)), (2, .int .i64 (j : Int)), (3, .int .i64 64), (9, .int .u64 18446744073709551615), (10, .bool false)] ∧ hc = h) ?_ ?_
  · simp (disch := first | omega | assumption) only [C.ref6_shift_gos, T.tv, ↓reduceIte, Nat.reduceEqDiff, reduceCtorEq, Nat.reduceLeDiff, Nat.reducePow, Int.reducePow, Int.reduceToNat, Nat.reduceAdd]
    exact ⟨_, x, k, rfl, hx, hk, hR.symm, hs, rfl⟩
  clear d0 d1 hR
  rintro m ρ hc ⟨y, j, rfl, hy, hj, hz, hy2, rfl, rfl⟩
  cases m with
  | zero =>
    have c : ¬ (0 : Int) < ((0 : Nat) : Int) := by omega
    rw [shS_zero hy] at hz
    subst hz
    simp (disch := first | omega | assumption) only [C.ref6_shift_gos, T.tv, ↓reduceIte, Nat.reduceEqDiff, reduceCtorEq, Nat.reduceLeDiff, Nat.reducePow, Int.reducePow, Int.reduceToNat, Nat.reduceAdd, c, vf]
  | succ j =>
    have c : (0 : Int) < ((j + 1 : Nat) : Int) := by omega
    have cj : ((j + 1 : Nat) : Int) - 1 = ((j : Nat) : Int) := by omega
    have wj : IntKind.i64.wrap (j : Int) = (j : Int) := wrap_i64 (by omega) (by omega)
    clear wz wm
    rw [← shS_pos (by omega)] at hz
    have e1 : IntKind.u64.wrap ((y : Int) / 2) = ((y / 2 : Nat) : Int) := by
      rw [show (y : Int) / 2 = ((y / 2 : Nat) : Int) by omega, wrap_mod]; omega
    have yb : y / 2 < 18446744073709551616 := by omega
    have yc : y / 2 < 9223372036854775808 := by omega
    generalize y / 2 = y' at *
    simp (disch := first | omega | assumption) only [C.ref6_shift_gos, T.tv, ↓reduceIte, Nat.reduceEqDiff, reduceCtorEq, Nat.reduceLeDiff, Nat.reducePow, Int.reducePow, Int.reduceToNat, Nat.reduceAdd, zn, c, cj, e1, wj, vf, Int.reduceEq, Int.reduceSub, Int.reduceMul, Int.reduceAdd, Int.reduceNeg]
    exact ⟨j, by omega, y', j, rfl, yb, by omega, hz, yc, rfl⟩
set_option maxHeartbeats 2000000 in
theorem rshift64_1_neg {h : Heap} {x k : Nat} (hx : x < 18446744073709551616) (hk : k < 100) (hs : 9223372036854775808 ≤ x) :
    HCalls Try.prog 15 #[.int .i64 ((1 : Nat) : Int), .int .u64 (x : Int), .int .i64 (k : Int), .int .i64 64] h fun v h' => h' = h ∧ v = .int .u64 ((shS 18446744073709551616 1 x k : Nat) : Int) := by
  refine C.ref6_shift_calls (args := [.int .i64 ((1 : Nat) : Int), .int .u64 (x : Int), .int .i64 (k : Int), .int .i64 64]) rfl ?_
  have wz : IntKind.u64.wrap 18446744073709551616 = 0 := by decide
  have wm : IntKind.u64.wrap (-1) = 18446744073709551615 := by decide
  have zn : ((1 : Nat) : Int) = 1 := rfl
  have b1 : ∀ z : Nat, z < 18446744073709551616 → bitsV .and .u64 ((z : Nat) : Int) 1 = ((z % 2 : Nat) : Int) := fun z hz => by
    have := and_mask (a := z) (n := 1) hz (by decide)
    exact this
  have d0 : (x : Int) / 9223372036854775808 = 1 := by omega
  have d1 : bitsV .and .u64 1 1 = 1 := b1 1 (by decide)
  obtain ⟨R, hR⟩ : ∃ R, R = shS 18446744073709551616 1 x k := ⟨_, rfl⟩
  rw [← hR]
  simp (disch := first | omega | assumption) only [C.ref6_shift_gos, T.tv, ↓reduceIte, Nat.reduceEqDiff, reduceCtorEq, Nat.reduceLeDiff, Nat.reducePow, Int.reducePow, Int.reduceToNat, Nat.reduceAdd, zn, d0, d1, vf, wz, wm, Int.reduceEq, Int.reduceSub, Int.reduceMul, Int.reduceAdd, Int.reduceNeg]
  refine loop_intro [0, 1, 2, 3, 9, 10] (fun m ρ hc => ∃ y j : Nat, m = j ∧ y < 18446744073709551616 ∧ j < 100 ∧ shS 18446744073709551616 1 y j = R ∧ 9223372036854775808 ≤ y ∧ ρ = [(0, .int .i64 1), (1, .int .u64 (y : Int)), (2, .int .i64 (j : Int)), (3, .int .i64 64), (9, .int .u64 18446744073709551615), (10, .bool true)] ∧ hc = h) ?_ ?_
  · simp (disch := first | omega | assumption) only [C.ref6_shift_gos, T.tv, ↓reduceIte, Nat.reduceEqDiff, reduceCtorEq, Nat.reduceLeDiff, Nat.reducePow, Int.reducePow, Int.reduceToNat, Nat.reduceAdd]
    exact ⟨_, x, k, rfl, hx, hk, hR.symm, hs, rfl⟩
  clear d0 d1 hR
  rintro m ρ hc ⟨y, j, rfl, hy, hj, hz, hy2, rfl, rfl⟩
  cases m with
  | zero =>
    have c : ¬ (0 : Int) < ((0 : Nat) : Int) := by omega
    rw [shS_zero hy] at hz
    subst hz
    simp (disch := first | omega | assumption) only [C.ref6_shift_gos, T.tv, ↓reduceIte, Nat.reduceEqDiff, reduceCtorEq, Nat.reduceLeDiff, Nat.reducePow, Int.reducePow, Int.reduceToNat, Nat.reduceAdd, c, vf]
  | succ j =>
    have c : (0 : Int) < ((j + 1 : Nat) : Int) := by omega
    have cj : ((j + 1 : Nat) : Int) - 1 = ((j : Nat) : Int) := by omega
    have wj : IntKind.i64.wrap (j : Int) = (j : Int) := wrap_i64 (by omega) (by omega)
    clear wz wm
    have hz' : shS 18446744073709551616 1 (y / 2 + 9223372036854775808) j = R := by
      rw [← hz]; exact shS_neg (r := 9223372036854775808) hy2 hy (by decide)
    have e1 : IntKind.u64.wrap ((y : Int) / 2) = ((y / 2 : Nat) : Int) := by
      rw [show (y : Int) / 2 = ((y / 2 : Nat) : Int) by omega, wrap_mod]; omega
    have e2 : IntKind.u64.wrap (((y / 2 : Nat) : Int) + 9223372036854775808) = ((y / 2 + 9223372036854775808 : Nat) : Int) := by
      rw [show ((y / 2 : Nat) : Int) + 9223372036854775808 = ((y / 2 + 9223372036854775808 : Nat) : Int) by omega, wrap_mod]; omega
    have e3 : IntKind.u64.wrap 9223372036854775808 = 9223372036854775808 := by decide
    have yb : y / 2 + 9223372036854775808 < 18446744073709551616 := by omega
    have yc : 9223372036854775808 ≤ y / 2 + 9223372036854775808 := by omega
    generalize y / 2 + 9223372036854775808 = y' at *
    generalize y / 2 = y'' at *
    simp (disch := first | omega | assumption) only [C.ref6_shift_gos, T.tv, ↓reduceIte, Nat.reduceEqDiff, reduceCtorEq, Nat.reduceLeDiff, Nat.reducePow, Int.reducePow, Int.reduceToNat, Nat.reduceAdd, zn, c, cj, e1, e2, e3, wj, vf, Int.reduceEq, Int.reduceSub, Int.reduceMul, Int.reduceAdd, Int.reduceNeg]
    exact ⟨j, by omega, y', j, rfl, yb, by omega, hz', yc, rfl⟩
set_option maxHeartbeats 2000000 in
theorem rshift64_2 {h : Heap} {x k : Nat} (hx : x < 18446744073709551616) (hk : k < 100) :
    HCalls Try.prog 15 #[.int .i64 ((2 : Nat) : Int), .int .u64 (x : Int), .int .i64 (k : Int), .int .i64 64] h fun v h' => h' = h ∧ v = .int .u64 ((shS 18446744073709551616 2 x k : Nat) : Int) := by
  refine C.ref6_shift_calls (args := [.int .i64 ((2 : Nat) : Int), .int .u64 (x : Int), .int .i64 (k : Int), .int .i64 64]) rfl ?_
  have wz : IntKind.u64.wrap 18446744073709551616 = 0 := by decide
  have wm : IntKind.u64.wrap (-1) = 18446744073709551615 := by decide
  have zn : ((2 : Nat) : Int) = 2 := rfl
  have b1 : ∀ z : Nat, z < 18446744073709551616 → bitsV .and .u64 ((z : Nat) : Int) 1 = ((z % 2 : Nat) : Int) := fun z hz => by
    have := and_mask (a := z) (n := 1) hz (by decide)
    exact this
  have d0 : (x : Int) / 9223372036854775808 = ((x / 9223372036854775808 : Nat) : Int) := by omega
  have d1 := b1 (x / 9223372036854775808) (by omega)
  obtain ⟨u, hu⟩ : ∃ u : Bool, u = decide (((x / 9223372036854775808 % 2 : Nat) : Int) = 1) := ⟨_, rfl⟩
  obtain ⟨R, hR⟩ : ∃ R, R = shS 18446744073709551616 2 x k := ⟨_, rfl⟩
  rw [← hR]
  simp (disch := first | omega | assumption) only [C.ref6_shift_gos, T.tv, ↓reduceIte, Nat.reduceEqDiff, reduceCtorEq, Nat.reduceLeDiff, Nat.reducePow, Int.reducePow, Int.reduceToNat, Nat.reduceAdd, zn, d0, d1, vf, wz, wm, Int.reduceEq, Int.reduceSub, Int.reduceMul, Int.reduceAdd, Int.reduceNeg, ← hu]
  refine loop_intro [0, 1, 2, 3, 9, 10] (fun m ρ hc => ∃ y j : Nat, m = j ∧ y < 18446744073709551616 ∧ j < 100 ∧ shS 18446744073709551616 2 y j = R ∧ ρ = [(0, .int .i64 2), (1, .int .u64 (y : Int)), (2, .int .i64 (j : Int)), (3, .int .i64 64), (9, .int .u64 18446744073709551615), (10, .bool u)] ∧ hc = h) ?_ ?_
  · simp (disch := first | omega | assumption) only [C.ref6_shift_gos, T.tv, ↓reduceIte, Nat.reduceEqDiff, reduceCtorEq, Nat.reduceLeDiff, Nat.reducePow, Int.reducePow, Int.reduceToNat, Nat.reduceAdd]
    exact ⟨_, x, k, rfl, hx, hk, hR.symm, rfl⟩
  clear d0 d1 hR hu
  rintro m ρ hc ⟨y, j, rfl, hy, hj, hz, rfl, rfl⟩
  cases m with
  | zero =>
    have c : ¬ (0 : Int) < ((0 : Nat) : Int) := by omega
    rw [shS_zero hy] at hz
    subst hz
    simp (disch := first | omega | assumption) only [C.ref6_shift_gos, T.tv, ↓reduceIte, Nat.reduceEqDiff, reduceCtorEq, Nat.reduceLeDiff, Nat.reducePow, Int.reducePow, Int.reduceToNat, Nat.reduceAdd, c, vf]
  | succ j =>
    have c : (0 : Int) < ((j + 1 : Nat) : Int) := by omega
    have cj : ((j + 1 : Nat) : Int) - 1 = ((j : Nat) : Int) := by omega
    have wj : IntKind.i64.wrap (j : Int) = (j : Int) := wrap_i64 (by omega) (by omega)
    clear wz wm
    rw [← shS_right] at hz
    have e1 : IntKind.u64.wrap ((y : Int) / 2) = ((y / 2 : Nat) : Int) := by
      rw [show (y : Int) / 2 = ((y / 2 : Nat) : Int) by omega, wrap_mod]; omega
    have yb : y / 2 < 18446744073709551616 := by omega
    generalize y / 2 = y' at *
    simp (disch := first | omega | assumption) only [C.ref6_shift_gos, T.tv, ↓reduceIte, Nat.reduceEqDiff, reduceCtorEq, Nat.reduceLeDiff, Nat.reducePow, Int.reducePow, Int.reduceToNat, Nat.reduceAdd, zn, c, cj, e1, wj, vf, Int.reduceEq, Int.reduceSub, Int.reduceMul, Int.reduceAdd, Int.reduceNeg]
    exact ⟨j, by omega, y', j, rfl, yb, by omega, hz, rfl⟩
end Go.Proofs.Ytedleaeohbjfnaa
