/- Shifts and bits, by the program; shifts of the reference in one. No condition. -/
import Derived.Test.YtedleaeohbjfnaaRD
import Derived.Test.YtedleaeohbjfnaaQZ
import Derived.Test.YtedleaeohbjfnaaQX
namespace Go.Proofs.Ytedleaeohbjfnaa
open Go.Vc Go.Num
set_option maxRecDepth 100000
set_option linter.unusedSimpArgs false
set_option linter.unusedVariables false

theorem rshift32_any {h : Heap} {n x k : Nat} (hn : n ≤ 2) (hx : x < 4294967296) (hk : k < 100) :
    HCalls Try.prog 15 #[.int .i64 (n : Int), .int .u64 (x : Int), .int .i64 (k : Int), .int .i64 32] h fun v h' => h' = h ∧ v = .int .u64 ((shS 4294967296 n x k : Nat) : Int) := by
  rcases (by omega : n = 0 ∨ n = 1 ∨ n = 2) with rfl | rfl | rfl
  · exact rshift32_0 hx hk
  · by_cases hs : x < 2147483648
    · exact rshift32_1_pos hx hk hs
    · exact rshift32_1_neg hx hk (by omega)
  · exact rshift32_2 hx hk
theorem wrap_s32 (a : Nat) : IntKind.i32.wrap (a : Int) = sgI 4294967296 (a % 4294967296) := by
  simp only [IntKind.wrap, IntKind.bits, IntKind.signed, Bool.true_and, decide_eq_true_eq, Nat.reduceSub, Int.reducePow]
  unfold sgI
  split <;> rename_i hh <;> simp at hh <;> split <;> omega
theorem sg_range32 {a : Nat} (ha : a < 4294967296) : -2147483648 ≤ sgI 4294967296 a ∧ sgI 4294967296 a < 2147483648 ∧ sgI 4294967296 a % 4294967296 = (a : Int) := by
  unfold sgI; split <;> omega
theorem shl_s32 {a n : Nat} (ha : a < 4294967296) : IntKind.i32.wrap (sgI 4294967296 a * 2 ^ n) % 4294967296 = ((shS 4294967296 0 a n : Nat) : Int) := by
  rw [(wrap_i32_mod _).1, Int.mul_emod, (sg_range32 ha).2.2]
  show _ = ((a * 2 ^ n % 4294967296 : Nat) : Int)
  rw [Int.natCast_emod, Int.natCast_mul, Int.natCast_pow]
  have e := Int.mul_emod (a : Int) (2 ^ n) 4294967296
  rw [show (a : Int) % 4294967296 = a by omega] at e
  exact e.symm
theorem shr_s32 {a n : Nat} (ha : a < 4294967296) : -2147483648 ≤ (sgI 4294967296 a).fdiv (2 ^ n) ∧ (sgI 4294967296 a).fdiv (2 ^ n) < 2147483648 ∧ (sgI 4294967296 a).fdiv (2 ^ n) % 4294967296 = ((shS 4294967296 1 a n : Nat) : Int) := by
  have p2 : (2 : Int) ^ n = ((2 ^ n : Nat) : Int) := by rw [Int.natCast_pow]; rfl
  have pp : 0 < 2 ^ n := Nat.pow_pos (by decide)
  rw [p2, Int.fdiv_eq_ediv_of_nonneg _ (by omega)]
  obtain ⟨t, ht⟩ : ∃ t, t = 2 ^ n := ⟨_, rfl⟩
  rw [← ht] at pp ⊢
  by_cases c : a < 2147483648
  · have e : sgI 4294967296 a = (a : Int) := by unfold sgI; rw [if_pos (by omega)]
    have l : a / t ≤ a := Nat.div_le_self _ _
    have s : shS 4294967296 1 a n = a / 2 ^ n := by show (if a < 4294967296 / 2 then _ else _) = _; rw [if_pos (by omega)]
    rw [e, ← Int.natCast_ediv, s, ← ht]
    clear s e
    generalize a / t = y at *
    omega
  · obtain ⟨z, hz⟩ : ∃ z, z = 4294967296 - 1 - a := ⟨_, rfl⟩
    have e : sgI 4294967296 a = Int.negSucc z := by unfold sgI; rw [if_neg (by omega), Int.negSucc_eq]; omega
    have l : z / t ≤ z := Nat.div_le_self _ _
    have s : shS 4294967296 1 a n = 4294967296 - 1 - z / 2 ^ n := by show (if a < 4294967296 / 2 then _ else 4294967296 - 1 - (4294967296 - 1 - a) / 2 ^ n) = _; rw [if_neg (by omega), ← hz]
    have d : Int.negSucc z / (t : Int) = -(((z / t : Nat) : Int) + 1) := by
      rw [Int.negSucc_ediv _ (by omega)]
      rfl
    rw [e, d, s, ← ht]
    generalize z / t = y at *
    omega

theorem rshift64_any {h : Heap} {n x k : Nat} (hn : n ≤ 2) (hx : x < 18446744073709551616) (hk : k < 100) :
    HCalls Try.prog 15 #[.int .i64 (n : Int), .int .u64 (x : Int), .int .i64 (k : Int), .int .i64 64] h fun v h' => h' = h ∧ v = .int .u64 ((shS 18446744073709551616 n x k : Nat) : Int) := by
  rcases (by omega : n = 0 ∨ n = 1 ∨ n = 2) with rfl | rfl | rfl
  · exact rshift64_0 hx hk
  · by_cases hs : x < 9223372036854775808
    · exact rshift64_1_pos hx hk hs
    · exact rshift64_1_neg hx hk (by omega)
  · exact rshift64_2 hx hk
theorem wrap_s64 (a : Nat) : IntKind.i64.wrap (a : Int) = sgI 18446744073709551616 (a % 18446744073709551616) := by
  simp only [IntKind.wrap, IntKind.bits, IntKind.signed, Bool.true_and, decide_eq_true_eq, Nat.reduceSub, Int.reducePow]
  unfold sgI
  split <;> rename_i hh <;> simp at hh <;> split <;> omega
theorem sg_range64 {a : Nat} (ha : a < 18446744073709551616) : -9223372036854775808 ≤ sgI 18446744073709551616 a ∧ sgI 18446744073709551616 a < 9223372036854775808 ∧ sgI 18446744073709551616 a % 18446744073709551616 = (a : Int) := by
  unfold sgI; split <;> omega
theorem shl_s64 {a n : Nat} (ha : a < 18446744073709551616) : IntKind.i64.wrap (sgI 18446744073709551616 a * 2 ^ n) % 18446744073709551616 = ((shS 18446744073709551616 0 a n : Nat) : Int) := by
  rw [(wrap_i64_mod _).1, Int.mul_emod, (sg_range64 ha).2.2]
  show _ = ((a * 2 ^ n % 18446744073709551616 : Nat) : Int)
  rw [Int.natCast_emod, Int.natCast_mul, Int.natCast_pow]
  have e := Int.mul_emod (a : Int) (2 ^ n) 18446744073709551616
  rw [show (a : Int) % 18446744073709551616 = a by omega] at e
  exact e.symm
theorem shr_s64 {a n : Nat} (ha : a < 18446744073709551616) : -9223372036854775808 ≤ (sgI 18446744073709551616 a).fdiv (2 ^ n) ∧ (sgI 18446744073709551616 a).fdiv (2 ^ n) < 9223372036854775808 ∧ (sgI 18446744073709551616 a).fdiv (2 ^ n) % 18446744073709551616 = ((shS 18446744073709551616 1 a n : Nat) : Int) := by
  have p2 : (2 : Int) ^ n = ((2 ^ n : Nat) : Int) := by rw [Int.natCast_pow]; rfl
  have pp : 0 < 2 ^ n := Nat.pow_pos (by decide)
  rw [p2, Int.fdiv_eq_ediv_of_nonneg _ (by omega)]
  obtain ⟨t, ht⟩ : ∃ t, t = 2 ^ n := ⟨_, rfl⟩
  rw [← ht] at pp ⊢
  by_cases c : a < 9223372036854775808
  · have e : sgI 18446744073709551616 a = (a : Int) := by unfold sgI; rw [if_pos (by omega)]
    have l : a / t ≤ a := Nat.div_le_self _ _
    have s : shS 18446744073709551616 1 a n = a / 2 ^ n := by show (if a < 18446744073709551616 / 2 then _ else _) = _; rw [if_pos (by omega)]
    rw [e, ← Int.natCast_ediv, s, ← ht]
    clear s e
    generalize a / t = y at *
    omega
  · obtain ⟨z, hz⟩ : ∃ z, z = 18446744073709551616 - 1 - a := ⟨_, rfl⟩
    have e : sgI 18446744073709551616 a = Int.negSucc z := by unfold sgI; rw [if_neg (by omega), Int.negSucc_eq]; omega
    have l : z / t ≤ z := Nat.div_le_self _ _
    have s : shS 18446744073709551616 1 a n = 18446744073709551616 - 1 - z / 2 ^ n := by show (if a < 18446744073709551616 / 2 then _ else 18446744073709551616 - 1 - (18446744073709551616 - 1 - a) / 2 ^ n) = _; rw [if_neg (by omega), ← hz]
    have d : Int.negSucc z / (t : Int) = -(((z / t : Nat) : Int) + 1) := by
      rw [Int.negSucc_ediv _ (by omega)]
      rfl
    rw [e, d, s, ← ht]
    generalize z / t = y at *
    omega

/-- What shifts and bits give, by the instruction's number. -/
def bitS (o a b : Nat) : Nat :=
  if o = 120 then shS 4294967296 0 (a % 4294967296) (b % 32) else if o = 121 then shS 18446744073709551616 0 a (b % 64)
  else if o = 122 then shS 4294967296 1 (a % 4294967296) (b % 32) else if o = 123 then shS 18446744073709551616 1 a (b % 64)
  else if o = 124 then shS 4294967296 2 (a % 4294967296) (b % 32) else if o = 125 then shS 18446744073709551616 2 a (b % 64)
  else if o = 126 ∨ o = 127 then a &&& b else if o = 128 ∨ o = 129 then a ||| b else a ^^^ b

theorem wrap_u64_all (z : Int) : IntKind.u64.wrap z = z % 18446744073709551616 := by
  simp only [IntKind.wrap, IntKind.bits, IntKind.signed, Bool.false_and, Bool.false_eq_true, if_false, Int.reducePow]
theorem fdiv_nat (a n : Nat) : (a : Int).fdiv (2 ^ n) = ((a / 2 ^ n : Nat) : Int) := by
  have p2 : (2 : Int) ^ n = ((2 ^ n : Nat) : Int) := by rw [Int.natCast_pow]; rfl
  rw [p2, Int.fdiv_eq_ediv_of_nonneg _ (Int.natCast_nonneg _), Int.natCast_ediv]
theorem wrap_shl (a n : Nat) : IntKind.u64.wrap ((a : Int) * 2 ^ n) = ((shS 18446744073709551616 0 a n : Nat) : Int) := by
  have p2 : (2 : Int) ^ n = ((2 ^ n : Nat) : Int) := by rw [Int.natCast_pow]; rfl
  rw [p2, ← Int.natCast_mul, wrap_mod]
  rfl
set_option maxHeartbeats 2000000 in
theorem bits_120 {h : Heap} {a b : Nat} (ha : a < 18446744073709551616) (hb : b < 18446744073709551616) :
    HCalls Try.prog 7 #[.int .u8 ((120 : Nat) : Int), .int .u64 (a : Int), .int .u64 (b : Int)] h fun v h' => h' = h ∧ v = .int .u64 ((bitS 120 a b : Nat) : Int) := by
  refine C.num_bits_calls (args := [.int .u8 ((120 : Nat) : Int), .int .u64 (a : Int), .int .u64 (b : Int)]) rfl ?_
  have zn : ((120 : Nat) : Int) = 120 := rfl
  have m31 := and_mask (a := b) (n := 5) hb (by decide)
  have m63 := and_mask (a := b) (n := 6) hb (by decide)
  rw [show (((2 : Nat) ^ 5 - 1 : Nat) : Int) = 31 by decide, show (2 : Nat) ^ 5 = 32 by decide] at m31
  rw [show (((2 : Nat) ^ 6 - 1 : Nat) : Int) = 63 by decide, show (2 : Nat) ^ 6 = 64 by decide] at m63
  have b31 : b % 32 < 32 := by omega
  have b63 : b % 64 < 64 := by omega
  have l31 : b % 32 ≤ 32 := by omega
  have l63 : b % 64 ≤ 64 := by omega
  have p31 : (0 : Int) ≤ ((b % 32 : Nat) : Int) := by omega
  have p63 : (0 : Int) ≤ ((b % 64 : Nat) : Int) := by omega
  have ba := (bv_nat (op := .and) ha hb).1
  have ba2 := (bv_nat (op := .and) ha hb).2.1
  have ba3 := (bv_nat (op := .and) ha hb).2.2.1
  generalize hR : bitS 120 a b = R
  have hR' : R = shS 4294967296 0 (a % 4294967296) (b % 32) := hR.symm
  clear hR
  have w0 := wrap_s32 a
  have g := wrap_i32_mod (sgI 4294967296 (a % 4294967296) * 2 ^ (b % 32))
  have e1 := shl_s32 (a := (a % 4294967296)) (n := b % 32) (by omega)
  simp (disch := first | omega | assumption) only [C.num_bits_gos, T.tv, ↓reduceIte, Nat.reduceEqDiff, reduceCtorEq, Nat.reduceLeDiff, Nat.reducePow, Int.reducePow, Int.reduceToNat, Nat.reduceAdd, zn, m31, m63, vf, Int.reduceEq, Int.reduceSub, Int.reduceMul, Int.reduceAdd, Int.reduceNeg, Int.toNat_natCast, Nat.min_def, l31, l63, if_true]
  rw [w0]
  refine eff_callF rfl ((i32_any g.2).mono ?_)
  rintro v1 h1 ⟨rfl, rfl⟩
  simp (disch := first | omega | assumption) only [C.num_bits_gos, T.tv, ↓reduceIte, Nat.reduceEqDiff, reduceCtorEq, Nat.reduceLeDiff, Nat.reducePow, Int.reducePow, Int.reduceToNat, Nat.reduceAdd, e1, ← hR']
set_option maxHeartbeats 2000000 in
theorem bits_121 {h : Heap} {a b : Nat} (ha : a < 18446744073709551616) (hb : b < 18446744073709551616) :
    HCalls Try.prog 7 #[.int .u8 ((121 : Nat) : Int), .int .u64 (a : Int), .int .u64 (b : Int)] h fun v h' => h' = h ∧ v = .int .u64 ((bitS 121 a b : Nat) : Int) := by
  refine C.num_bits_calls (args := [.int .u8 ((121 : Nat) : Int), .int .u64 (a : Int), .int .u64 (b : Int)]) rfl ?_
  have zn : ((121 : Nat) : Int) = 121 := rfl
  have m31 := and_mask (a := b) (n := 5) hb (by decide)
  have m63 := and_mask (a := b) (n := 6) hb (by decide)
  rw [show (((2 : Nat) ^ 5 - 1 : Nat) : Int) = 31 by decide, show (2 : Nat) ^ 5 = 32 by decide] at m31
  rw [show (((2 : Nat) ^ 6 - 1 : Nat) : Int) = 63 by decide, show (2 : Nat) ^ 6 = 64 by decide] at m63
  have b31 : b % 32 < 32 := by omega
  have b63 : b % 64 < 64 := by omega
  have l31 : b % 32 ≤ 32 := by omega
  have l63 : b % 64 ≤ 64 := by omega
  have p31 : (0 : Int) ≤ ((b % 32 : Nat) : Int) := by omega
  have p63 : (0 : Int) ≤ ((b % 64 : Nat) : Int) := by omega
  have ba := (bv_nat (op := .and) ha hb).1
  have ba2 := (bv_nat (op := .and) ha hb).2.1
  have ba3 := (bv_nat (op := .and) ha hb).2.2.1
  generalize hR : bitS 121 a b = R
  have hR' : R = shS 18446744073709551616 0 a (b % 64) := hR.symm
  clear hR
  skip
  simp (disch := first | omega | assumption) only [C.num_bits_gos, T.tv, ↓reduceIte, Nat.reduceEqDiff, reduceCtorEq, Nat.reduceLeDiff, Nat.reducePow, Int.reducePow, Int.reduceToNat, Nat.reduceAdd, zn, m31, m63, vf, Int.reduceEq, Int.reduceSub, Int.reduceMul, Int.reduceAdd, Int.reduceNeg, Int.toNat_natCast, Nat.min_def, l31, l63, if_true]
  rw [wrap_shl, hR']
set_option maxHeartbeats 2000000 in
theorem bits_122 {h : Heap} {a b : Nat} (ha : a < 18446744073709551616) (hb : b < 18446744073709551616) :
    HCalls Try.prog 7 #[.int .u8 ((122 : Nat) : Int), .int .u64 (a : Int), .int .u64 (b : Int)] h fun v h' => h' = h ∧ v = .int .u64 ((bitS 122 a b : Nat) : Int) := by
  refine C.num_bits_calls (args := [.int .u8 ((122 : Nat) : Int), .int .u64 (a : Int), .int .u64 (b : Int)]) rfl ?_
  have zn : ((122 : Nat) : Int) = 122 := rfl
  have m31 := and_mask (a := b) (n := 5) hb (by decide)
  have m63 := and_mask (a := b) (n := 6) hb (by decide)
  rw [show (((2 : Nat) ^ 5 - 1 : Nat) : Int) = 31 by decide, show (2 : Nat) ^ 5 = 32 by decide] at m31
  rw [show (((2 : Nat) ^ 6 - 1 : Nat) : Int) = 63 by decide, show (2 : Nat) ^ 6 = 64 by decide] at m63
  have b31 : b % 32 < 32 := by omega
  have b63 : b % 64 < 64 := by omega
  have l31 : b % 32 ≤ 32 := by omega
  have l63 : b % 64 ≤ 64 := by omega
  have p31 : (0 : Int) ≤ ((b % 32 : Nat) : Int) := by omega
  have p63 : (0 : Int) ≤ ((b % 64 : Nat) : Int) := by omega
  have ba := (bv_nat (op := .and) ha hb).1
  have ba2 := (bv_nat (op := .and) ha hb).2.1
  have ba3 := (bv_nat (op := .and) ha hb).2.2.1
  generalize hR : bitS 122 a b = R
  have hR' : R = shS 4294967296 1 (a % 4294967296) (b % 32) := hR.symm
  clear hR
  have w0 := wrap_s32 a
  have g := shr_s32 (a := (a % 4294967296)) (n := b % 32) (by omega)
  have e1 := g.2.2
  simp (disch := first | omega | assumption) only [C.num_bits_gos, T.tv, ↓reduceIte, Nat.reduceEqDiff, reduceCtorEq, Nat.reduceLeDiff, Nat.reducePow, Int.reducePow, Int.reduceToNat, Nat.reduceAdd, zn, m31, m63, vf, Int.reduceEq, Int.reduceSub, Int.reduceMul, Int.reduceAdd, Int.reduceNeg, Int.toNat_natCast, Nat.min_def, l31, l63, if_true]
  rw [w0]
  refine eff_callF rfl ((i32_any ⟨g.1, g.2.1⟩).mono ?_)
  rintro v1 h1 ⟨rfl, rfl⟩
  simp (disch := first | omega | assumption) only [C.num_bits_gos, T.tv, ↓reduceIte, Nat.reduceEqDiff, reduceCtorEq, Nat.reduceLeDiff, Nat.reducePow, Int.reducePow, Int.reduceToNat, Nat.reduceAdd, e1, ← hR']
set_option maxHeartbeats 2000000 in
theorem bits_123 {h : Heap} {a b : Nat} (ha : a < 18446744073709551616) (hb : b < 18446744073709551616) :
    HCalls Try.prog 7 #[.int .u8 ((123 : Nat) : Int), .int .u64 (a : Int), .int .u64 (b : Int)] h fun v h' => h' = h ∧ v = .int .u64 ((bitS 123 a b : Nat) : Int) := by
  refine C.num_bits_calls (args := [.int .u8 ((123 : Nat) : Int), .int .u64 (a : Int), .int .u64 (b : Int)]) rfl ?_
  have zn : ((123 : Nat) : Int) = 123 := rfl
  have m31 := and_mask (a := b) (n := 5) hb (by decide)
  have m63 := and_mask (a := b) (n := 6) hb (by decide)
  rw [show (((2 : Nat) ^ 5 - 1 : Nat) : Int) = 31 by decide, show (2 : Nat) ^ 5 = 32 by decide] at m31
  rw [show (((2 : Nat) ^ 6 - 1 : Nat) : Int) = 63 by decide, show (2 : Nat) ^ 6 = 64 by decide] at m63
  have b31 : b % 32 < 32 := by omega
  have b63 : b % 64 < 64 := by omega
  have l31 : b % 32 ≤ 32 := by omega
  have l63 : b % 64 ≤ 64 := by omega
  have p31 : (0 : Int) ≤ ((b % 32 : Nat) : Int) := by omega
  have p63 : (0 : Int) ≤ ((b % 64 : Nat) : Int) := by omega
  have ba := (bv_nat (op := .and) ha hb).1
  have ba2 := (bv_nat (op := .and) ha hb).2.1
  have ba3 := (bv_nat (op := .and) ha hb).2.2.1
  generalize hR : bitS 123 a b = R
  have hR' : R = shS 18446744073709551616 1 a (b % 64) := hR.symm
  clear hR
  skip
  simp (disch := first | omega | assumption) only [C.num_bits_gos, T.tv, ↓reduceIte, Nat.reduceEqDiff, reduceCtorEq, Nat.reduceLeDiff, Nat.reducePow, Int.reducePow, Int.reduceToNat, Nat.reduceAdd, zn, m31, m63, vf, Int.reduceEq, Int.reduceSub, Int.reduceMul, Int.reduceAdd, Int.reduceNeg, Int.toNat_natCast, Nat.min_def, l31, l63, if_true]
  rw [wrap_s64, wrap_u64_all, Nat.mod_eq_of_lt ha, (shr_s64 ha).2.2, hR']
set_option maxHeartbeats 2000000 in
theorem bits_124 {h : Heap} {a b : Nat} (ha : a < 18446744073709551616) (hb : b < 18446744073709551616) :
    HCalls Try.prog 7 #[.int .u8 ((124 : Nat) : Int), .int .u64 (a : Int), .int .u64 (b : Int)] h fun v h' => h' = h ∧ v = .int .u64 ((bitS 124 a b : Nat) : Int) := by
  refine C.num_bits_calls (args := [.int .u8 ((124 : Nat) : Int), .int .u64 (a : Int), .int .u64 (b : Int)]) rfl ?_
  have zn : ((124 : Nat) : Int) = 124 := rfl
  have m31 := and_mask (a := b) (n := 5) hb (by decide)
  have m63 := and_mask (a := b) (n := 6) hb (by decide)
  rw [show (((2 : Nat) ^ 5 - 1 : Nat) : Int) = 31 by decide, show (2 : Nat) ^ 5 = 32 by decide] at m31
  rw [show (((2 : Nat) ^ 6 - 1 : Nat) : Int) = 63 by decide, show (2 : Nat) ^ 6 = 64 by decide] at m63
  have b31 : b % 32 < 32 := by omega
  have b63 : b % 64 < 64 := by omega
  have l31 : b % 32 ≤ 32 := by omega
  have l63 : b % 64 ≤ 64 := by omega
  have p31 : (0 : Int) ≤ ((b % 32 : Nat) : Int) := by omega
  have p63 : (0 : Int) ≤ ((b % 64 : Nat) : Int) := by omega
  have ba := (bv_nat (op := .and) ha hb).1
  have ba2 := (bv_nat (op := .and) ha hb).2.1
  have ba3 := (bv_nat (op := .and) ha hb).2.2.1
  generalize hR : bitS 124 a b = R
  have hR' : R = shS 4294967296 2 (a % 4294967296) (b % 32) := hR.symm
  clear hR
  skip
  simp (disch := first | omega | assumption) only [C.num_bits_gos, T.tv, ↓reduceIte, Nat.reduceEqDiff, reduceCtorEq, Nat.reduceLeDiff, Nat.reducePow, Int.reducePow, Int.reduceToNat, Nat.reduceAdd, zn, m31, m63, vf, Int.reduceEq, Int.reduceSub, Int.reduceMul, Int.reduceAdd, Int.reduceNeg, Int.toNat_natCast, Nat.min_def, l31, l63, if_true]
  rw [wrap_u32_mod, fdiv_nat, wrap_mod, Nat.mod_eq_of_lt (Nat.lt_of_le_of_lt (Nat.div_le_self _ _) (by omega)), hR']
  rfl
set_option maxHeartbeats 2000000 in
theorem bits_125 {h : Heap} {a b : Nat} (ha : a < 18446744073709551616) (hb : b < 18446744073709551616) :
    HCalls Try.prog 7 #[.int .u8 ((125 : Nat) : Int), .int .u64 (a : Int), .int .u64 (b : Int)] h fun v h' => h' = h ∧ v = .int .u64 ((bitS 125 a b : Nat) : Int) := by
  refine C.num_bits_calls (args := [.int .u8 ((125 : Nat) : Int), .int .u64 (a : Int), .int .u64 (b : Int)]) rfl ?_
  have zn : ((125 : Nat) : Int) = 125 := rfl
  have m31 := and_mask (a := b) (n := 5) hb (by decide)
  have m63 := and_mask (a := b) (n := 6) hb (by decide)
  rw [show (((2 : Nat) ^ 5 - 1 : Nat) : Int) = 31 by decide, show (2 : Nat) ^ 5 = 32 by decide] at m31
  rw [show (((2 : Nat) ^ 6 - 1 : Nat) : Int) = 63 by decide, show (2 : Nat) ^ 6 = 64 by decide] at m63
  have b31 : b % 32 < 32 := by omega
  have b63 : b % 64 < 64 := by omega
  have l31 : b % 32 ≤ 32 := by omega
  have l63 : b % 64 ≤ 64 := by omega
  have p31 : (0 : Int) ≤ ((b % 32 : Nat) : Int) := by omega
  have p63 : (0 : Int) ≤ ((b % 64 : Nat) : Int) := by omega
  have ba := (bv_nat (op := .and) ha hb).1
  have ba2 := (bv_nat (op := .and) ha hb).2.1
  have ba3 := (bv_nat (op := .and) ha hb).2.2.1
  generalize hR : bitS 125 a b = R
  have hR' : R = shS 18446744073709551616 2 a (b % 64) := hR.symm
  clear hR
  skip
  simp (disch := first | omega | assumption) only [C.num_bits_gos, T.tv, ↓reduceIte, Nat.reduceEqDiff, reduceCtorEq, Nat.reduceLeDiff, Nat.reducePow, Int.reducePow, Int.reduceToNat, Nat.reduceAdd, zn, m31, m63, vf, Int.reduceEq, Int.reduceSub, Int.reduceMul, Int.reduceAdd, Int.reduceNeg, Int.toNat_natCast, Nat.min_def, l31, l63, if_true]
  rw [fdiv_nat, hR']
  rfl
set_option maxHeartbeats 2000000 in
theorem bits_126 {h : Heap} {a b : Nat} (ha : a < 18446744073709551616) (hb : b < 18446744073709551616) :
    HCalls Try.prog 7 #[.int .u8 ((126 : Nat) : Int), .int .u64 (a : Int), .int .u64 (b : Int)] h fun v h' => h' = h ∧ v = .int .u64 ((bitS 126 a b : Nat) : Int) := by
  refine C.num_bits_calls (args := [.int .u8 ((126 : Nat) : Int), .int .u64 (a : Int), .int .u64 (b : Int)]) rfl ?_
  have zn : ((126 : Nat) : Int) = 126 := rfl
  have m31 := and_mask (a := b) (n := 5) hb (by decide)
  have m63 := and_mask (a := b) (n := 6) hb (by decide)
  rw [show (((2 : Nat) ^ 5 - 1 : Nat) : Int) = 31 by decide, show (2 : Nat) ^ 5 = 32 by decide] at m31
  rw [show (((2 : Nat) ^ 6 - 1 : Nat) : Int) = 63 by decide, show (2 : Nat) ^ 6 = 64 by decide] at m63
  have b31 : b % 32 < 32 := by omega
  have b63 : b % 64 < 64 := by omega
  have l31 : b % 32 ≤ 32 := by omega
  have l63 : b % 64 ≤ 64 := by omega
  have p31 : (0 : Int) ≤ ((b % 32 : Nat) : Int) := by omega
  have p63 : (0 : Int) ≤ ((b % 64 : Nat) : Int) := by omega
  have ba := (bv_nat (op := .and) ha hb).1
  have ba2 := (bv_nat (op := .and) ha hb).2.1
  have ba3 := (bv_nat (op := .and) ha hb).2.2.1
  generalize hR : bitS 126 a b = R
  have hR' : R = a &&& b := hR.symm
  clear hR
  skip
  simp (disch := first | omega | assumption) only [C.num_bits_gos, T.tv, ↓reduceIte, Nat.reduceEqDiff, reduceCtorEq, Nat.reduceLeDiff, Nat.reducePow, Int.reducePow, Int.reduceToNat, Nat.reduceAdd, zn, m31, m63, vf, Int.reduceEq, Int.reduceSub, Int.reduceMul, Int.reduceAdd, Int.reduceNeg, Int.toNat_natCast, Nat.min_def, l31, l63, if_true]
  rw [ba, hR']
set_option maxHeartbeats 2000000 in
theorem bits_127 {h : Heap} {a b : Nat} (ha : a < 18446744073709551616) (hb : b < 18446744073709551616) :
    HCalls Try.prog 7 #[.int .u8 ((127 : Nat) : Int), .int .u64 (a : Int), .int .u64 (b : Int)] h fun v h' => h' = h ∧ v = .int .u64 ((bitS 127 a b : Nat) : Int) := by
  refine C.num_bits_calls (args := [.int .u8 ((127 : Nat) : Int), .int .u64 (a : Int), .int .u64 (b : Int)]) rfl ?_
  have zn : ((127 : Nat) : Int) = 127 := rfl
  have m31 := and_mask (a := b) (n := 5) hb (by decide)
  have m63 := and_mask (a := b) (n := 6) hb (by decide)
  rw [show (((2 : Nat) ^ 5 - 1 : Nat) : Int) = 31 by decide, show (2 : Nat) ^ 5 = 32 by decide] at m31
  rw [show (((2 : Nat) ^ 6 - 1 : Nat) : Int) = 63 by decide, show (2 : Nat) ^ 6 = 64 by decide] at m63
  have b31 : b % 32 < 32 := by omega
  have b63 : b % 64 < 64 := by omega
  have l31 : b % 32 ≤ 32 := by omega
  have l63 : b % 64 ≤ 64 := by omega
  have p31 : (0 : Int) ≤ ((b % 32 : Nat) : Int) := by omega
  have p63 : (0 : Int) ≤ ((b % 64 : Nat) : Int) := by omega
  have ba := (bv_nat (op := .and) ha hb).1
  have ba2 := (bv_nat (op := .and) ha hb).2.1
  have ba3 := (bv_nat (op := .and) ha hb).2.2.1
  generalize hR : bitS 127 a b = R
  have hR' : R = a &&& b := hR.symm
  clear hR
  skip
  simp (disch := first | omega | assumption) only [C.num_bits_gos, T.tv, ↓reduceIte, Nat.reduceEqDiff, reduceCtorEq, Nat.reduceLeDiff, Nat.reducePow, Int.reducePow, Int.reduceToNat, Nat.reduceAdd, zn, m31, m63, vf, Int.reduceEq, Int.reduceSub, Int.reduceMul, Int.reduceAdd, Int.reduceNeg, Int.toNat_natCast, Nat.min_def, l31, l63, if_true]
  rw [ba, hR']
set_option maxHeartbeats 2000000 in
theorem bits_128 {h : Heap} {a b : Nat} (ha : a < 18446744073709551616) (hb : b < 18446744073709551616) :
    HCalls Try.prog 7 #[.int .u8 ((128 : Nat) : Int), .int .u64 (a : Int), .int .u64 (b : Int)] h fun v h' => h' = h ∧ v = .int .u64 ((bitS 128 a b : Nat) : Int) := by
  refine C.num_bits_calls (args := [.int .u8 ((128 : Nat) : Int), .int .u64 (a : Int), .int .u64 (b : Int)]) rfl ?_
  have zn : ((128 : Nat) : Int) = 128 := rfl
  have m31 := and_mask (a := b) (n := 5) hb (by decide)
  have m63 := and_mask (a := b) (n := 6) hb (by decide)
  rw [show (((2 : Nat) ^ 5 - 1 : Nat) : Int) = 31 by decide, show (2 : Nat) ^ 5 = 32 by decide] at m31
  rw [show (((2 : Nat) ^ 6 - 1 : Nat) : Int) = 63 by decide, show (2 : Nat) ^ 6 = 64 by decide] at m63
  have b31 : b % 32 < 32 := by omega
  have b63 : b % 64 < 64 := by omega
  have l31 : b % 32 ≤ 32 := by omega
  have l63 : b % 64 ≤ 64 := by omega
  have p31 : (0 : Int) ≤ ((b % 32 : Nat) : Int) := by omega
  have p63 : (0 : Int) ≤ ((b % 64 : Nat) : Int) := by omega
  have ba := (bv_nat (op := .and) ha hb).1
  have ba2 := (bv_nat (op := .and) ha hb).2.1
  have ba3 := (bv_nat (op := .and) ha hb).2.2.1
  generalize hR : bitS 128 a b = R
  have hR' : R = a ||| b := hR.symm
  clear hR
  skip
  simp (disch := first | omega | assumption) only [C.num_bits_gos, T.tv, ↓reduceIte, Nat.reduceEqDiff, reduceCtorEq, Nat.reduceLeDiff, Nat.reducePow, Int.reducePow, Int.reduceToNat, Nat.reduceAdd, zn, m31, m63, vf, Int.reduceEq, Int.reduceSub, Int.reduceMul, Int.reduceAdd, Int.reduceNeg, Int.toNat_natCast, Nat.min_def, l31, l63, if_true]
  rw [ba2, hR']
set_option maxHeartbeats 2000000 in
theorem bits_129 {h : Heap} {a b : Nat} (ha : a < 18446744073709551616) (hb : b < 18446744073709551616) :
    HCalls Try.prog 7 #[.int .u8 ((129 : Nat) : Int), .int .u64 (a : Int), .int .u64 (b : Int)] h fun v h' => h' = h ∧ v = .int .u64 ((bitS 129 a b : Nat) : Int) := by
  refine C.num_bits_calls (args := [.int .u8 ((129 : Nat) : Int), .int .u64 (a : Int), .int .u64 (b : Int)]) rfl ?_
  have zn : ((129 : Nat) : Int) = 129 := rfl
  have m31 := and_mask (a := b) (n := 5) hb (by decide)
  have m63 := and_mask (a := b) (n := 6) hb (by decide)
  rw [show (((2 : Nat) ^ 5 - 1 : Nat) : Int) = 31 by decide, show (2 : Nat) ^ 5 = 32 by decide] at m31
  rw [show (((2 : Nat) ^ 6 - 1 : Nat) : Int) = 63 by decide, show (2 : Nat) ^ 6 = 64 by decide] at m63
  have b31 : b % 32 < 32 := by omega
  have b63 : b % 64 < 64 := by omega
  have l31 : b % 32 ≤ 32 := by omega
  have l63 : b % 64 ≤ 64 := by omega
  have p31 : (0 : Int) ≤ ((b % 32 : Nat) : Int) := by omega
  have p63 : (0 : Int) ≤ ((b % 64 : Nat) : Int) := by omega
  have ba := (bv_nat (op := .and) ha hb).1
  have ba2 := (bv_nat (op := .and) ha hb).2.1
  have ba3 := (bv_nat (op := .and) ha hb).2.2.1
  generalize hR : bitS 129 a b = R
  have hR' : R = a ||| b := hR.symm
  clear hR
  skip
  simp (disch := first | omega | assumption) only [C.num_bits_gos, T.tv, ↓reduceIte, Nat.reduceEqDiff, reduceCtorEq, Nat.reduceLeDiff, Nat.reducePow, Int.reducePow, Int.reduceToNat, Nat.reduceAdd, zn, m31, m63, vf, Int.reduceEq, Int.reduceSub, Int.reduceMul, Int.reduceAdd, Int.reduceNeg, Int.toNat_natCast, Nat.min_def, l31, l63, if_true]
  rw [ba2, hR']
set_option maxHeartbeats 2000000 in
theorem bits_130 {h : Heap} {a b : Nat} (ha : a < 18446744073709551616) (hb : b < 18446744073709551616) :
    HCalls Try.prog 7 #[.int .u8 ((130 : Nat) : Int), .int .u64 (a : Int), .int .u64 (b : Int)] h fun v h' => h' = h ∧ v = .int .u64 ((bitS 130 a b : Nat) : Int) := by
  refine C.num_bits_calls (args := [.int .u8 ((130 : Nat) : Int), .int .u64 (a : Int), .int .u64 (b : Int)]) rfl ?_
  have zn : ((130 : Nat) : Int) = 130 := rfl
  have m31 := and_mask (a := b) (n := 5) hb (by decide)
  have m63 := and_mask (a := b) (n := 6) hb (by decide)
  rw [show (((2 : Nat) ^ 5 - 1 : Nat) : Int) = 31 by decide, show (2 : Nat) ^ 5 = 32 by decide] at m31
  rw [show (((2 : Nat) ^ 6 - 1 : Nat) : Int) = 63 by decide, show (2 : Nat) ^ 6 = 64 by decide] at m63
  have b31 : b % 32 < 32 := by omega
  have b63 : b % 64 < 64 := by omega
  have l31 : b % 32 ≤ 32 := by omega
  have l63 : b % 64 ≤ 64 := by omega
  have p31 : (0 : Int) ≤ ((b % 32 : Nat) : Int) := by omega
  have p63 : (0 : Int) ≤ ((b % 64 : Nat) : Int) := by omega
  have ba := (bv_nat (op := .and) ha hb).1
  have ba2 := (bv_nat (op := .and) ha hb).2.1
  have ba3 := (bv_nat (op := .and) ha hb).2.2.1
  generalize hR : bitS 130 a b = R
  have hR' : R = a ^^^ b := hR.symm
  clear hR
  skip
  simp (disch := first | omega | assumption) only [C.num_bits_gos, T.tv, ↓reduceIte, Nat.reduceEqDiff, reduceCtorEq, Nat.reduceLeDiff, Nat.reducePow, Int.reducePow, Int.reduceToNat, Nat.reduceAdd, zn, m31, m63, vf, Int.reduceEq, Int.reduceSub, Int.reduceMul, Int.reduceAdd, Int.reduceNeg, Int.toNat_natCast, Nat.min_def, l31, l63, if_true]
  rw [ba3, hR']
set_option maxHeartbeats 2000000 in
theorem bits_131 {h : Heap} {a b : Nat} (ha : a < 18446744073709551616) (hb : b < 18446744073709551616) :
    HCalls Try.prog 7 #[.int .u8 ((131 : Nat) : Int), .int .u64 (a : Int), .int .u64 (b : Int)] h fun v h' => h' = h ∧ v = .int .u64 ((bitS 131 a b : Nat) : Int) := by
  refine C.num_bits_calls (args := [.int .u8 ((131 : Nat) : Int), .int .u64 (a : Int), .int .u64 (b : Int)]) rfl ?_
  have zn : ((131 : Nat) : Int) = 131 := rfl
  have m31 := and_mask (a := b) (n := 5) hb (by decide)
  have m63 := and_mask (a := b) (n := 6) hb (by decide)
  rw [show (((2 : Nat) ^ 5 - 1 : Nat) : Int) = 31 by decide, show (2 : Nat) ^ 5 = 32 by decide] at m31
  rw [show (((2 : Nat) ^ 6 - 1 : Nat) : Int) = 63 by decide, show (2 : Nat) ^ 6 = 64 by decide] at m63
  have b31 : b % 32 < 32 := by omega
  have b63 : b % 64 < 64 := by omega
  have l31 : b % 32 ≤ 32 := by omega
  have l63 : b % 64 ≤ 64 := by omega
  have p31 : (0 : Int) ≤ ((b % 32 : Nat) : Int) := by omega
  have p63 : (0 : Int) ≤ ((b % 64 : Nat) : Int) := by omega
  have ba := (bv_nat (op := .and) ha hb).1
  have ba2 := (bv_nat (op := .and) ha hb).2.1
  have ba3 := (bv_nat (op := .and) ha hb).2.2.1
  generalize hR : bitS 131 a b = R
  have hR' : R = a ^^^ b := hR.symm
  clear hR
  skip
  simp (disch := first | omega | assumption) only [C.num_bits_gos, T.tv, ↓reduceIte, Nat.reduceEqDiff, reduceCtorEq, Nat.reduceLeDiff, Nat.reducePow, Int.reducePow, Int.reduceToNat, Nat.reduceAdd, zn, m31, m63, vf, Int.reduceEq, Int.reduceSub, Int.reduceMul, Int.reduceAdd, Int.reduceNeg, Int.toNat_natCast, Nat.min_def, l31, l63, if_true]
  rw [ba3, hR']
end Go.Proofs.Ytedleaeohbjfnaa
