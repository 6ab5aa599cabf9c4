/- Functions of Go's library math on doubles: bits, Abs, IsNaN, IsInf, NaN, and bits of whole numbers. No condition. -/
import Derived.Test.YtedleaeohbjfnaaQF
import Derived.Test.YtedleaeohbjfnaaVcU
import Derived.Test.YtedleaeohbjfnaaCm
import Derived.Test.YtedleaeohbjfnaaT
namespace Go.Proofs.Ytedleaeohbjfnaa
open Go.Vc Go.Num
set_option maxRecDepth 100000
set_option linter.unusedSimpArgs false
set_option linter.unusedVariables false

/-! ### Bits of whole numbers -/
theorem bv_nat {op : BinOp} {a b : Nat} (ha : a < 18446744073709551616) (hb : b < 18446744073709551616) :
    bitsV .and .u64 (a : Int) (b : Int) = ((a &&& b : Nat) : Int) ∧ bitsV .or .u64 (a : Int) (b : Int) = ((a ||| b : Nat) : Int) ∧ bitsV .xor .u64 (a : Int) (b : Int) = ((a ^^^ b : Nat) : Int) ∧
    bitsV .andNot .u64 (a : Int) (b : Int) = ((a &&& (18446744073709551615 - b) : Nat) : Int) := by
  have h1 : ∀ n : Nat, n < 18446744073709551616 → (BitVec.ofInt 64 (n : Int)).toNat = n := fun n hn => by
    rw [BitVec.toNat_ofInt]
    have : ((n : Int) % ((2 ^ 64 : Nat) : Int)) = n := Int.emod_eq_of_lt (by omega) (by omega)
    rw [this]; rfl
  have h2 : (2 : Nat) ^ 64 = 18446744073709551616 := by decide
  have w : ∀ n : Nat, n < 18446744073709551616 → IntKind.u64.wrap (n : Int) = n := fun n hn => wrap_u64 (by omega) (by omega)
  refine ⟨?_, ?_, ?_, ?_⟩
  · show IntKind.u64.wrap (((BitVec.ofInt 64 (a : Int)) &&& (BitVec.ofInt 64 (b : Int))).toNat : Int) = _
    rw [BitVec.toNat_and, h1 a ha, h1 b hb, w]
    have := @Nat.and_le_left a b
    omega
  · show IntKind.u64.wrap (((BitVec.ofInt 64 (a : Int)) ||| (BitVec.ofInt 64 (b : Int))).toNat : Int) = _
    rw [BitVec.toNat_or, h1 a ha, h1 b hb, w]
    rw [← h2] at *
    exact Nat.or_lt_two_pow ha hb
  · show IntKind.u64.wrap (((BitVec.ofInt 64 (a : Int)) ^^^ (BitVec.ofInt 64 (b : Int))).toNat : Int) = _
    rw [BitVec.toNat_xor, h1 a ha, h1 b hb, w]
    rw [← h2] at *
    exact Nat.xor_lt_two_pow ha hb
  · show IntKind.u64.wrap (((BitVec.ofInt 64 (a : Int)) &&& ~~~(BitVec.ofInt 64 (b : Int))).toNat : Int) = _
    rw [BitVec.toNat_and, BitVec.toNat_not, h1 a ha, h1 b hb, h2, w]
    have := @Nat.and_le_left a (18446744073709551616 - 1 - b)
    omega
theorem and_pow (a n : Nat) : a &&& (2 ^ n - 1) = a % 2 ^ n := Nat.and_two_pow_sub_one_eq_mod a n
/-- Without the exponent. -/
theorem and_frac {a : Nat} (h : a < 9223372036854775808) : a &&& 9227875636482146303 = a % 4503599627370496 := by
  have e : (9227875636482146303 : Nat) = 2 ^ 52 * 2 ^ 11 + (2 ^ 52 - 1) := by decide
  have ha : a = 2 ^ 52 * (a / 4503599627370496) + a % 4503599627370496 := by omega
  have hq : a / 4503599627370496 < 2 ^ 11 := by omega
  have hr : a % 4503599627370496 < 2 ^ 52 := by omega
  generalize a / 4503599627370496 = q at *
  generalize a % 4503599627370496 = r at *
  rw [e, ha]
  apply Nat.eq_of_testBit_eq
  intro i
  rw [Nat.testBit_and, Nat.testBit_two_pow_mul_add _ hr, Nat.testBit_two_pow_mul_add _ (by decide)]
  by_cases c : i < 52
  · rw [if_pos c, if_pos c, Nat.testBit_two_pow_sub_one]; simp [c]
  · rw [if_neg c, if_neg c, Nat.testBit_two_pow]
    have hz : r.testBit i = false := Nat.testBit_lt_two_pow (Nat.lt_of_lt_of_le hr (Nat.pow_le_pow_right (by decide) (by omega)))
    rw [hz]
    by_cases c2 : 11 = i - 52
    · rw [← c2, Nat.testBit_lt_two_pow hq]; rfl
    · simp [c2]
theorem or_exp {q r : Nat} (hr : r < 4503599627370496) : r ||| (4503599627370496 * q) = q * 4503599627370496 + r := by
  have := Nat.two_pow_add_eq_or_of_lt (i := 52) (b := r) hr q
  rw [Nat.or_comm, show (4503599627370496 : Nat) = 2 ^ 52 by decide, ← this, Nat.mul_comm]
theorem xor_sign {a : Nat} (h : a < 9223372036854775808) : a ^^^ 9223372036854775808 = a + 9223372036854775808 ∧ (a + 9223372036854775808) ^^^ 9223372036854775808 = a := by
  have h1 : a ^^^ 2 ^ 63 = a + 2 ^ 63 := by
    have := Nat.two_pow_add_eq_or_of_lt (i := 63) (b := a) h 1
    rw [Nat.mul_one] at this
    rw [Nat.add_comm, this]
    apply Nat.eq_of_testBit_eq
    intro i
    rw [Nat.testBit_xor, Nat.testBit_or, Nat.testBit_two_pow]
    by_cases c : 63 = i
    · subst c; rw [Nat.testBit_lt_two_pow h]; rfl
    · simp [c]
  refine ⟨h1, ?_⟩
  rw [← h1, show (9223372036854775808 : Nat) = 2 ^ 63 by decide, Nat.xor_assoc, Nat.xor_self, Nat.xor_zero]

/-! ### The order of doubles -/
abbrev F64 (w : Nat) : Value := .float .f64 w
theorem rung_pos {a : Nat} (h : a < 9223372036854775808) : rung D a = a ∧ sgn D a = false := by
  unfold rung sgn
  rw [D_sw]
  exact ⟨Nat.mod_eq_of_lt h, by rw [Nat.div_eq_of_lt h]; rfl⟩
theorem rank_pos {a : Nat} (h : a < 9223372036854775808) : rank D a = a := by
  unfold rank sg
  rw [(rung_pos h).1, (rung_pos h).2]; rfl
theorem ord_pos {a b : Nat} (ha : a ≤ 9218868437227405312) (hb : b ≤ 9218868437227405312) : FloatKind.f64.format.order a b = some (compare (a : Int) (b : Int)) := by
  have h1 := rung_pos (a := a) (by omega)
  have h2 := rung_pos (a := b) (by omega)
  have := order_rank D (by decide) (x := a) (y := b) (by rw [h1.1, D_inf]; exact ha) (by rw [h2.1, D_inf]; exact hb)
  rw [rank_pos (by omega), rank_pos (by omega)] at this
  exact this
theorem ord_lt {a b : Nat} (ha : a ≤ 9218868437227405312) (hb : b ≤ 9218868437227405312) : (FloatKind.f64.format.order a b == some .lt) = decide (a < b) := by
  rw [ord_pos ha hb, cmp_lt]; exact decide_eq_decide.2 (by omega)
theorem ord_eq {a b : Nat} (ha : a ≤ 9218868437227405312) (hb : b ≤ 9218868437227405312) : (FloatKind.f64.format.order a b == some .eq) = decide (a = b) := by
  rw [ord_pos ha hb, cmp_eq]; exact decide_eq_decide.2 (by omega)
theorem ord_gt {a b : Nat} (ha : a ≤ 9218868437227405312) (hb : b ≤ 9218868437227405312) : (FloatKind.f64.format.order a b == some .gt) = decide (b < a) := by
  rw [ord_pos ha hb, cmp_gt]; exact decide_eq_decide.2 (by omega)
theorem ord_ge {a b : Nat} (ha : a ≤ 9218868437227405312) (hb : b ≤ 9218868437227405312) : (FloatKind.f64.format.order a b == some .gt || FloatKind.f64.format.order a b == some .eq) = decide (b ≤ a) := by
  rw [ord_gt ha hb, ord_eq ha hb, ← Bool.decide_or]; exact decide_eq_decide.2 (by omega)
theorem rung_lt (a : Nat) : rung D a < 9223372036854775808 := by
  unfold rung; rw [D_sw]; exact Nat.mod_lt _ (by decide)
/-- None but numbers are as they are. -/
theorem ord_self (a : Nat) : (FloatKind.f64.format.order a a != some .eq) = decide (9218868437227405312 < rung D a) := by
  by_cases c : 9218868437227405312 < rung D a
  · have := order_nan D (by decide) (x := a) (y := a) (.inl (by rw [D_inf]; exact c))
    rw [show FloatKind.f64.format.order a a = none from this, decide_eq_true c]; rfl
  · have := order_rank D (by decide) (x := a) (y := a) (by rw [D_inf]; omega) (by rw [D_inf]; omega)
    rw [show FloatKind.f64.format.order a a = some (compare (rank D a) (rank D a)) from this, decide_eq_false c]
    have h := cmp_eq (rank D a) (rank D a)
    rw [decide_eq_true rfl] at h
    simp only [bne, h]; rfl
theorem ord_zero (a : Nat) : (FloatKind.f64.format.order a 0 == some .eq) = decide (rung D a = 0) := by
  by_cases c : 9218868437227405312 < rung D a
  · have := order_nan D (by decide) (x := a) (y := 0) (.inl (by rw [D_inf]; exact c))
    rw [show FloatKind.f64.format.order a 0 = none from this, decide_eq_false (by omega)]; rfl
  · have := order_rank D (by decide) (x := a) (y := 0) (by rw [D_inf]; omega) (by decide)
    rw [show FloatKind.f64.format.order a 0 = some (compare (rank D a) (rank D 0)) from this, cmp_eq, rank_pos (a := 0) (by decide)]
    refine decide_eq_decide.2 ?_
    unfold rank sg
    split <;> omega
theorem ord_neg (a : Nat) (h : rung D a ≤ 9218868437227405312) : (FloatKind.f64.format.order a 0 == some .lt) = (sgn D a && decide (rung D a ≠ 0)) := by
  have := order_rank D (by decide) (x := a) (y := 0) (by rw [D_inf]; omega) (by decide)
  rw [show FloatKind.f64.format.order a 0 = some (compare (rank D a) (rank D 0)) from this, cmp_lt, rank_pos (a := 0) (by decide)]
  unfold rank sg
  cases sgn D a
  · simp only [Bool.false_eq_true, if_false, Bool.false_and]; exact decide_eq_false (by omega)
  · simp only [if_true, Bool.true_and]; exact decide_eq_decide.2 (by omega)
theorem ord_max {a : Nat} (h : a < 9223372036854775808) : (FloatKind.f64.format.order a 9218868437227405311 == some .gt) = decide (a = 9218868437227405312) := by
  by_cases c : 9218868437227405312 < a
  · have := order_nan D (by decide) (x := a) (y := 9218868437227405311) (.inl (by rw [D_inf, (rung_pos h).1]; exact c))
    rw [show FloatKind.f64.format.order a 9218868437227405311 = none from this, decide_eq_false (by omega)]; rfl
  · rw [ord_gt (by omega) (by omega)]; exact decide_eq_decide.2 (by omega)

/-! ### The functions -/
section
variable {P : Program} {τ ρ : Env} {h : Heap} {K : Value → Heap → Prop} {ty : TypeId}
theorem eff_f64bits {l : List Operand} {ats : Array TypeId} {b : Nat} (hv : evs τ ρ l = some [F64 b]) (H : K (.int .u64 (b : Int)) h) :
    eff Try.prog (.call { callee := .value (.func 35), args := l.toArray, argTypes := ats }) ty τ ρ h K :=
  eff_callX (v := .int .u64 (b : Int)) (e := Extern.MathFloatBits.float64bits) hv Try.func35 (by kernel_rfl) (by kernel_rfl) (by kernel_rfl) (by kernel_rfl) (fun _ => rfl) H
theorem eff_f64from {l : List Operand} {ats : Array TypeId} {b : Nat} (hv : evs τ ρ l = some [.int .u64 (b : Int)]) (H : K (F64 b) h) :
    eff Try.prog (.call { callee := .value (.func 26), args := l.toArray, argTypes := ats }) ty τ ρ h K :=
  eff_callX (v := F64 b) (e := Extern.MathFloatBits.float64frombits) hv Try.func26 (by kernel_rfl) (by kernel_rfl) (by kernel_rfl) (by kernel_rfl) (fun _ => rfl) H
end
theorem abs_any {h : Heap} {b : Nat} (hb : b < 18446744073709551616) : HCalls Try.prog 48 #[F64 b] h fun v h' => h' = h ∧ v = F64 (rung D b) := by
  refine C.m_Abs_calls (args := [F64 b]) rfl ?_
  simp (disch := first | omega | assumption) only [C.m_Abs_gos, T.tv, ↓reduceIte, Nat.reduceEqDiff, reduceCtorEq, Nat.reduceLeDiff, Nat.reducePow, Int.reducePow, Int.reduceToNat, Nat.reduceAdd]
  refine eff_f64bits rfl ?_
  have e : bitsV .andNot .u64 (b : Int) 9223372036854775808 = ((rung D b : Nat) : Int) := by
    show bitsV .andNot .u64 (b : Int) ((9223372036854775808 : Nat) : Int) = _
    rw [(bv_nat (op := .and) (b := 9223372036854775808) hb (by decide)).2.2.2, show 18446744073709551615 - 9223372036854775808 = 2 ^ 63 - 1 by decide, and_pow]
    unfold rung; rw [D_sw]
  simp (disch := first | omega | assumption) only [C.m_Abs_gos, T.tv, ↓reduceIte, Nat.reduceEqDiff, reduceCtorEq, Nat.reduceLeDiff, Nat.reducePow, Int.reducePow, Int.reduceToNat, Nat.reduceAdd, e]
  refine eff_f64from rfl ?_
  simp (disch := first | omega | assumption) only [C.m_Abs_gos, T.tv, ↓reduceIte, Nat.reduceEqDiff, reduceCtorEq, Nat.reduceLeDiff, Nat.reducePow, Int.reducePow, Int.reduceToNat, Nat.reduceAdd]
theorem isNaN_any {h : Heap} {b : Nat} : HCalls Try.prog 46 #[F64 b] h fun v h' => h' = h ∧ v = .bool (decide (9218868437227405312 < rung D b)) := by
  refine C.m_IsNaN_calls (args := [F64 b]) rfl ?_
  simp (disch := first | omega | assumption) only [C.m_IsNaN_gos, T.tv, ↓reduceIte, Nat.reduceEqDiff, reduceCtorEq, Nat.reduceLeDiff, Nat.reducePow, Int.reducePow, Int.reduceToNat, Nat.reduceAdd, vf, ord_self]
theorem isInf_any {h : Heap} {b : Nat} (hb : b < 18446744073709551616) : HCalls Try.prog 45 #[F64 b, .int .i64 0] h fun v h' => h' = h ∧ v = .bool (decide (rung D b = 9218868437227405312)) := by
  refine C.m_IsInf_calls (args := [F64 b, .int .i64 0]) rfl ?_
  simp (disch := first | omega | assumption) only [C.m_IsInf_gos, T.tv, ↓reduceIte, Nat.reduceEqDiff, reduceCtorEq, Nat.reduceLeDiff, Nat.reducePow, Int.reducePow, Int.reduceToNat, Nat.reduceAdd]
  refine eff_callF rfl ((abs_any hb).mono ?_)
  rintro v1 h1 ⟨rfl, rfl⟩
  have := rung_lt b
  simp (disch := first | omega | assumption) only [C.m_IsInf_gos, T.tv, ↓reduceIte, Nat.reduceEqDiff, reduceCtorEq, Nat.reduceLeDiff, Nat.reducePow, Int.reducePow, Int.reduceToNat, Nat.reduceAdd, vf, ord_max]
theorem nan_any {h : Heap} : HCalls Try.prog 47 #[] h fun v h' => h' = h ∧ v = F64 9221120237041090561 := by
  refine C.m_NaN_calls (args := []) rfl ?_
  simp (disch := first | omega | assumption) only [C.m_NaN_gos, T.tv, ↓reduceIte, Nat.reduceEqDiff, reduceCtorEq, Nat.reduceLeDiff, Nat.reducePow, Int.reducePow, Int.reduceToNat, Nat.reduceAdd]
  refine eff_f64from (b := 9221120237041090561) rfl ?_
  simp (disch := first | omega | assumption) only [C.m_NaN_gos, T.tv, ↓reduceIte, Nat.reduceEqDiff, reduceCtorEq, Nat.reduceLeDiff, Nat.reducePow, Int.reducePow, Int.reduceToNat, Nat.reduceAdd]
end Go.Proofs.Ytedleaeohbjfnaa
