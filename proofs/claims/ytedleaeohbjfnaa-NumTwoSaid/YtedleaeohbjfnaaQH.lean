/- math.Frexp and math.Ldexp on positive doubles. No condition. -/
import Derived.Test.YtedleaeohbjfnaaQG
namespace Go.Proofs.Ytedleaeohbjfnaa
open Go.Vc Go.Num
set_option maxRecDepth 100000
set_option linter.unusedSimpArgs false
set_option linter.unusedVariables false

theorem mul_pos {a c : Nat} (ha : a < 9218868437227405312) (hc : c < 9218868437227405312) :
    fop .mul FloatKind.f64.format a c = some (rnd D (digs D a * digs D c) (D.leastPlace + plc D a + (D.leastPlace + plc D c)) false) := by
  have h1 := rung_pos (a := a) (by omega)
  have h2 := rung_pos (a := c) (by omega)
  unfold fop Ieee.Format.mul
  rw [show FloatKind.f64.format = D from rfl]
  simp only
  rw [read_rung D (by rw [h1.1, D_inf]; exact ha), read_rung D (by rw [h2.1, D_inf]; exact hc), h1.1, h1.2, h2.1, h2.2]
  simp only [Ieee.Datum.product, Option.map_some, write_number]
  unfold closeP Ieee.Format.word
  rw [if_neg (by decide)]
theorem mul_one {s : Nat} (hs : s < 9218868437227405312) : fop .mul FloatKind.f64.format 4607182418800017408 s = some s := by
  rw [mul_pos (by decide) hs, show digs D 4607182418800017408 = 2 ^ 52 by decide, show plc D 4607182418800017408 = 1022 by decide]
  refine congrArg some ?_
  have h1 := rnd_scale D (digs D s) (D.leastPlace + plc D s) 52
  rw [rnd_units, ← V_digs, rnd_V (by rw [D_inf]; omega)] at h1
  rw [show D.leastPlace + ((1022 : Nat) : Int) + (D.leastPlace + (plc D s : Int)) = D.leastPlace + plc D s - (52 : Nat) by rw [D_least]; omega, Nat.mul_comm]
  exact h1
theorem mul_m53 {F s : Nat} (hF : F < 9218868437227405312) (hs : s < 9218868437227405312) (hv : V D F = V D s * 9007199254740992) : fop .mul FloatKind.f64.format 4368491638549381120 F = some s := by
  rw [mul_pos (by decide) hF, show digs D 4368491638549381120 = 2 ^ 52 by decide, show plc D 4368491638549381120 = 969 by decide]
  refine congrArg some ?_
  have h1 := rnd_scale D (digs D F) (D.leastPlace + plc D F - 53) 52
  rw [V_digs D F, show (9007199254740992 : Nat) = 2 ^ 53 by decide] at hv
  have h2 : rnd D (digs D F) (D.leastPlace + plc D F - 53) false = s := by
    by_cases c : 53 ≤ plc D F
    · refine rnd_at (plc D F - 53) (by rw [D_inf]; omega) (.inr ⟨by omega, ?_⟩)
      apply Nat.eq_of_mul_eq_mul_right (two_pos 53)
      rw [← hv, Nat.mul_assoc, ← Nat.pow_add]
      congr 2; omega
    · refine rnd_at (53 - plc D F) (by rw [D_inf]; omega) (.inl ⟨by omega, ?_⟩)
      apply Nat.eq_of_mul_eq_mul_right (two_pos (plc D F))
      rw [hv, Nat.mul_assoc, ← Nat.pow_add]
      congr 2; omega
  rw [h2] at h1
  rw [show D.leastPlace + ((969 : Nat) : Int) + (D.leastPlace + (plc D F : Int)) = D.leastPlace + plc D F - 53 - (52 : Nat) by rw [D_least]; omega, Nat.mul_comm]
  exact h1
theorem normalize_any {h : Heap} {r : Nat} (h0 : 0 < r) (hr : r < 9218868437227405312) :
    HCalls Try.prog 55 #[F64 r] h fun v h' => h' = h ∧ v = .tuple #[F64 (nrm r), .int .i64 (if r < 4503599627370496 then -52 else 0)] := by
  refine C.m_normalize_calls (args := [F64 r]) rfl ?_
  simp (disch := first | omega | assumption) only [C.m_normalize_gos, T.tv, ↓reduceIte, Nat.reduceEqDiff, reduceCtorEq, Nat.reduceLeDiff, Nat.reducePow, Int.reducePow, Int.reduceToNat, Nat.reduceAdd]
  refine eff_callF rfl ((abs_any (b := r) (by omega)).mono ?_)
  rintro v1 h1 ⟨rfl, rfl⟩
  rw [(rung_pos (a := r) (by omega)).1]
  by_cases c : r < 4503599627370496
  · rw [if_pos c]
    have e : fop .mul FloatKind.f64.format r 4841369599423283200 = some (nrm r) := by
      rw [mul_pos hr (by decide)]
      unfold nrm
      rw [if_pos c]
      have d1 : digs D r = r := by unfold digs; rw [D_m]; exact if_pos c
      have d2 : plc D r = 0 := by unfold plc; rw [D_m]; exact if_pos c
      rw [d1, d2]
      rfl
    simp (disch := first | omega | assumption) only [C.m_normalize_gos, T.tv, ↓reduceIte, Nat.reduceEqDiff, reduceCtorEq, Nat.reduceLeDiff, Nat.reducePow, Int.reducePow, Int.reduceToNat, Nat.reduceAdd, vf, ord_lt, c]
    refine eff_farith rfl rfl rfl ?_ ?_
    · intro z hz
      rw [e] at hz
      cases hz
      simp (disch := first | omega | assumption) only [C.m_normalize_gos, T.tv, ↓reduceIte, Nat.reduceEqDiff, reduceCtorEq, Nat.reduceLeDiff, Nat.reducePow, Int.reducePow, Int.reduceToNat, Nat.reduceAdd]
    · intro hz
      rw [e] at hz
      cases hz
  · rw [if_neg c]
    have e : nrm r = r := by unfold nrm; rw [if_neg c]
    rw [e]
    simp (disch := first | omega | assumption) only [C.m_normalize_gos, T.tv, ↓reduceIte, Nat.reduceEqDiff, reduceCtorEq, Nat.reduceLeDiff, Nat.reducePow, Int.reducePow, Int.reduceToNat, Nat.reduceAdd, vf, ord_lt, c]
theorem frexp_any {h : Heap} {r : Nat} (h0 : 0 < r) (hr : r < 9218868437227405312) :
    HCalls Try.prog 52 #[F64 r] h fun v h' => h' = h ∧ v = .tuple #[F64 (4602678819172646912 + frc r), .int .i64 (xpo r - 1022)] := by
  refine C.m_frexp_calls (args := [F64 r]) rfl ?_
  have c0 : ¬ r = 0 := by omega
  have hg := nrm_ge h0 (by rw [D_inf]; exact hr)
  rw [D_inf] at hg
  have hx := frx h0 (by rw [D_inf]; exact hr)
  simp (disch := first | omega | assumption) only [C.m_frexp_gos, T.tv, ↓reduceIte, Nat.reduceEqDiff, reduceCtorEq, Nat.reduceLeDiff, Nat.reducePow, Int.reducePow, Int.reduceToNat, Nat.reduceAdd, vf, ord_eq, c0]
  refine eff_callF rfl ((isInf_any (b := r) (by omega)).mono ?_)
  rintro v1 h1 ⟨rfl, rfl⟩
  rw [(rung_pos (a := r) (by omega)).1]
  have c1 : ¬ r = 9218868437227405312 := by omega
  simp (disch := first | omega | assumption) only [C.m_frexp_gos, T.tv, ↓reduceIte, Nat.reduceEqDiff, reduceCtorEq, Nat.reduceLeDiff, Nat.reducePow, Int.reducePow, Int.reduceToNat, Nat.reduceAdd, c1]
  refine eff_callF rfl ((isNaN_any (b := r)).mono ?_)
  rintro v1 h1 ⟨rfl, rfl⟩
  rw [(rung_pos (a := r) (by omega)).1]
  have c2 : ¬ 9218868437227405312 < r := by omega
  simp (disch := first | omega | assumption) only [C.m_frexp_gos, T.tv, ↓reduceIte, Nat.reduceEqDiff, reduceCtorEq, Nat.reduceLeDiff, Nat.reducePow, Int.reducePow, Int.reduceToNat, Nat.reduceAdd, c2]
  refine eff_callF rfl ((normalize_any h0 hr).mono ?_)
  rintro v1 h1 ⟨rfl, rfl⟩
  simp (disch := first | omega | assumption) only [C.m_frexp_gos, T.tv, ↓reduceIte, Nat.reduceEqDiff, reduceCtorEq, Nat.reduceLeDiff, Nat.reducePow, Int.reducePow, Int.reduceToNat, Nat.reduceAdd]
  refine eff_f64bits rfl ?_
  obtain ⟨n, hn⟩ : ∃ n, n = nrm r := ⟨_, rfl⟩
  have ex : xpo r = (n / 4503599627370496 : Nat) - (if r < 4503599627370496 then 52 else 0 : Int) := by rw [hn]; rfl
  have ef : frc r = n % 4503599627370496 := by rw [hn]; rfl
  rw [ex] at hx
  rw [ex, ef]
  rw [← hn] at hg ⊢
  have e1 : bitsV .and .u64 ((n : Int) / 4503599627370496) 2047 = ((n / 4503599627370496 : Nat) : Int) := by
    show bitsV .and .u64 ((n : Int) / ((4503599627370496 : Nat) : Int)) ((2047 : Nat) : Int) = _
    rw [← Int.natCast_ediv, (bv_nat (op := .and) (a := n / 4503599627370496) (b := 2047) (by omega) (by decide)).1, show 2047 = 2 ^ 11 - 1 by decide, and_pow, Nat.mod_eq_of_lt (by omega)]
  have e2 : bitsV .andNot .u64 (n : Int) 9218868437227405312 = ((n % 4503599627370496 : Nat) : Int) := by
    show bitsV .andNot .u64 (n : Int) ((9218868437227405312 : Nat) : Int) = _
    rw [(bv_nat (op := .and) (b := 9218868437227405312) (by omega) (by decide)).2.2.2, show 18446744073709551615 - 9218868437227405312 = 9227875636482146303 by decide, and_frac (by omega)]
  have e3 : bitsV .or .u64 ((n % 4503599627370496 : Nat) : Int) 4602678819172646912 = ((4602678819172646912 + n % 4503599627370496 : Nat) : Int) := by
    show bitsV .or .u64 ((n % 4503599627370496 : Nat) : Int) ((4602678819172646912 : Nat) : Int) = _
    rw [(bv_nat (op := .and) (a := n % 4503599627370496) (b := 4602678819172646912) (by omega) (by decide)).2.1, show 4602678819172646912 = 4503599627370496 * 1022 by decide, or_exp (by omega)]
  generalize hs : (if r < 4503599627370496 then 52 else 0 : Int) = s at *
  have hs' : (if r < 4503599627370496 then -52 else 0 : Int) = -s := by rw [← hs]; split <;> rfl
  rw [hs']
  have hs2 : 0 ≤ s ∧ s ≤ 52 := by rw [← hs]; split <;> omega
  rw [show ((n / 4503599627370496 : Nat) : Int) - s - 1022 = -s + (((n / 4503599627370496 : Nat) : Int) - 1023 + 1) by omega]
  simp (disch := first | omega | assumption) only [C.m_frexp_gos, T.tv, ↓reduceIte, Nat.reduceEqDiff, reduceCtorEq, Nat.reduceLeDiff, Nat.reducePow, Int.reducePow, Int.reduceToNat, Nat.reduceAdd, e1, e2, e3]
  refine eff_f64from rfl ?_
  simp (disch := first | omega | assumption) only [C.m_frexp_gos, T.tv, ↓reduceIte, Nat.reduceEqDiff, reduceCtorEq, Nat.reduceLeDiff, Nat.reducePow, Int.reducePow, Int.reduceToNat, Nat.reduceAdd]
theorem Frexp_any {h : Heap} {r : Nat} (h0 : 0 < r) (hr : r < 9218868437227405312) :
    HCalls Try.prog 49 #[F64 r] h fun v h' => h' = h ∧ v = .tuple #[F64 (4602678819172646912 + frc r), .int .i64 (xpo r - 1022)] := by
  refine C.m_Frexp_calls (args := [F64 r]) rfl ?_
  simp (disch := first | omega | assumption) only [C.m_Frexp_gos, T.tv, ↓reduceIte, Nat.reduceEqDiff, reduceCtorEq, Nat.reduceLeDiff, Nat.reducePow, Int.reducePow, Int.reduceToNat, Nat.reduceAdd]
  refine eff_callF rfl ((frexp_any h0 hr).mono ?_)
  rintro v1 h1 ⟨rfl, rfl⟩
  simp (disch := first | omega | assumption) only [C.m_Frexp_gos, T.tv, ↓reduceIte, Nat.reduceEqDiff, reduceCtorEq, Nat.reduceLeDiff, Nat.reducePow, Int.reducePow, Int.reduceToNat, Nat.reduceAdd]
theorem Frexp_inf {h : Heap} : HCalls Try.prog 49 #[F64 9218868437227405312] h fun v h' => h' = h ∧ v = .tuple #[F64 9218868437227405312, .int .i64 0] := by
  refine C.m_Frexp_calls (args := [F64 9218868437227405312]) rfl ?_
  simp (disch := first | omega | assumption) only [C.m_Frexp_gos, T.tv, ↓reduceIte, Nat.reduceEqDiff, reduceCtorEq, Nat.reduceLeDiff, Nat.reducePow, Int.reducePow, Int.reduceToNat, Nat.reduceAdd]
  refine eff_callF rfl (HCalls.mono (R := fun v h' => h' = h ∧ v = .tuple #[F64 9218868437227405312, .int .i64 0]) ?_ ?_)
  · refine C.m_frexp_calls (args := [F64 9218868437227405312]) rfl ?_
    have c0 : ¬ 9218868437227405312 = 0 := by decide
    simp (disch := first | omega | assumption) only [C.m_frexp_gos, T.tv, ↓reduceIte, Nat.reduceEqDiff, reduceCtorEq, Nat.reduceLeDiff, Nat.reducePow, Int.reducePow, Int.reduceToNat, Nat.reduceAdd, vf, ord_eq, c0]
    refine eff_callF rfl ((isInf_any (b := 9218868437227405312) (by decide)).mono ?_)
    rintro v1 h1 ⟨rfl, rfl⟩
    rw [(rung_pos (a := 9218868437227405312) (by decide)).1]
    have c1 : decide (9218868437227405312 = 9218868437227405312) = true := by decide
    rw [c1]
    simp (disch := first | omega | assumption) only [C.m_frexp_gos, T.tv, ↓reduceIte, Nat.reduceEqDiff, reduceCtorEq, Nat.reduceLeDiff, Nat.reducePow, Int.reducePow, Int.reduceToNat, Nat.reduceAdd]
  · rintro v1 h1 ⟨rfl, rfl⟩
    simp (disch := first | omega | assumption) only [C.m_Frexp_gos, T.tv, ↓reduceIte, Nat.reduceEqDiff, reduceCtorEq, Nat.reduceLeDiff, Nat.reducePow, Int.reducePow, Int.reduceToNat, Nat.reduceAdd]
/-- What math.Ldexp gives, where it can be written. -/
theorem Ldexp_any {h : Heap} {y k r : Nat} (h0 : 0 < y) (hy : y < 9218868437227405312) (hr : r < 9218868437227405312) (hk : k + xpo y ≤ 2046) (hle : V D y * 2 ^ k ≤ V D r) :
    HCalls Try.prog 50 #[F64 y, .int .i64 (k : Int)] h fun v h' => h' = h ∧ ∃ s, s < 9218868437227405312 ∧ V D s = V D y * 2 ^ k ∧ v = F64 s := by
  refine C.m_Ldexp_calls (args := [F64 y, .int .i64 (k : Int)]) rfl ?_
  simp (disch := first | omega | assumption) only [C.m_Ldexp_gos, T.tv, ↓reduceIte, Nat.reduceEqDiff, reduceCtorEq, Nat.reduceLeDiff, Nat.reducePow, Int.reducePow, Int.reduceToNat, Nat.reduceAdd]
  refine eff_callF rfl (HCalls.mono (R := fun v h' => h' = h ∧ ∃ s, s < 9218868437227405312 ∧ V D s = V D y * 2 ^ k ∧ v = F64 s) ?_ ?_)
  case refine_2 =>
    rintro v1 h1 ⟨rfl, s, hs1, hs2, rfl⟩
    simp (disch := first | omega | assumption) only [C.m_Ldexp_gos, T.tv, ↓reduceIte, Nat.reduceEqDiff, reduceCtorEq, Nat.reduceLeDiff, Nat.reducePow, Int.reducePow, Int.reduceToNat, Nat.reduceAdd]
    exact ⟨s, hs1, hs2, rfl⟩
  refine C.m_ldexp_calls (args := [F64 y, .int .i64 (k : Int)]) rfl ?_
  have c0 : ¬ y = 0 := by omega
  have hg := nrm_ge h0 (by rw [D_inf]; exact hy)
  rw [D_inf] at hg
  have hx := frx h0 (by rw [D_inf]; exact hy)
  obtain ⟨s, hs1, hs2⟩ := ldx_le (y := y) (k := k) (r := r) hle (by rw [D_inf]; exact hr)
  rw [D_inf] at hs1
  have hl := ldx (k := k) h0 (by rw [D_inf]; exact hy)
  simp (disch := first | omega | assumption) only [C.m_ldexp_gos, T.tv, ↓reduceIte, Nat.reduceEqDiff, reduceCtorEq, Nat.reduceLeDiff, Nat.reducePow, Int.reducePow, Int.reduceToNat, Nat.reduceAdd, vf, ord_eq, c0]
  refine eff_callF rfl ((isInf_any (b := y) (by omega)).mono ?_)
  rintro v1 h1 ⟨rfl, rfl⟩
  rw [(rung_pos (a := y) (by omega)).1]
  have c1 : ¬ y = 9218868437227405312 := by omega
  simp (disch := first | omega | assumption) only [C.m_ldexp_gos, T.tv, ↓reduceIte, Nat.reduceEqDiff, reduceCtorEq, Nat.reduceLeDiff, Nat.reducePow, Int.reducePow, Int.reduceToNat, Nat.reduceAdd, c1]
  refine eff_callF rfl ((isNaN_any (b := y)).mono ?_)
  rintro v1 h1 ⟨rfl, rfl⟩
  rw [(rung_pos (a := y) (by omega)).1]
  have c2 : ¬ 9218868437227405312 < y := by omega
  simp (disch := first | omega | assumption) only [C.m_ldexp_gos, T.tv, ↓reduceIte, Nat.reduceEqDiff, reduceCtorEq, Nat.reduceLeDiff, Nat.reducePow, Int.reducePow, Int.reduceToNat, Nat.reduceAdd, c2]
  refine eff_callF rfl ((normalize_any h0 hy).mono ?_)
  rintro v1 h1 ⟨rfl, rfl⟩
  obtain ⟨n, hn⟩ : ∃ n, n = nrm y := ⟨_, rfl⟩
  have ex : xpo y = (n / 4503599627370496 : Nat) - (if y < 4503599627370496 then 52 else 0 : Int) := by rw [hn]; rfl
  have ef : frc y = n % 4503599627370496 := by rw [hn]; rfl
  obtain ⟨f, hf⟩ : ∃ f, f = frc y := ⟨_, rfl⟩
  obtain ⟨xx, hxx⟩ : ∃ xx, xx = xpo y := ⟨_, rfl⟩
  rw [← hxx] at hx hl hk ex
  rw [← hf] at hx hl ef
  rw [← hn] at hg ⊢
  generalize hsv : (if y < 4503599627370496 then 52 else 0 : Int) = sv at *
  have hs' : (if y < 4503599627370496 then -52 else 0 : Int) = -sv := by rw [← hsv]; split <;> rfl
  rw [hs']
  have hsv2 : 0 ≤ sv ∧ sv ≤ 52 := by rw [← hsv]; split <;> omega
  obtain ⟨q, hq⟩ : ∃ q, q = n / 4503599627370496 := ⟨_, rfl⟩
  rw [← hq] at ex
  have e1 : (n : Int) / 4503599627370496 = (q : Int) := by rw [hq]; rfl
  have e2 : bitsV .and .i64 (q : Int) 2047 = (q : Int) := by
    have hq2 : q < 2048 := by omega
    show IntKind.i64.wrap (((BitVec.ofInt 64 (q : Int)) &&& (BitVec.ofInt 64 (2047 : Int))).toNat : Int) = _
    rw [BitVec.toNat_and, BitVec.toNat_ofInt, show ((q : Int) % ((2 ^ 64 : Nat) : Int)) = q from Int.emod_eq_of_lt (by omega) (by omega), Int.toNat_natCast, show (BitVec.ofInt 64 (2047 : Int)).toNat = 2 ^ 11 - 1 by decide, and_pow, Nat.mod_eq_of_lt (by omega), wrap_i64 (by omega) (by omega)]
  have e3 : bitsV .andNot .u64 (n : Int) 9218868437227405312 = ((f : Nat) : Int) := by
    show bitsV .andNot .u64 (n : Int) ((9218868437227405312 : Nat) : Int) = _
    rw [(bv_nat (op := .and) (b := 9218868437227405312) (by omega) (by decide)).2.2.2, show 18446744073709551615 - 9218868437227405312 = 9227875636482146303 by decide, and_frac (by omega), ef]
  have e4 : (k : Int) + -sv + ((q : Int) - 1023) = k + xx - 1023 := by omega
  have e5 : IntKind.i64.wrap ((k : Int) + -sv) = k + -sv := wrap_i64 (by omega) (by omega)
  simp (disch := first | omega | assumption) only [C.m_ldexp_gos, T.tv, ↓reduceIte, Nat.reduceEqDiff, reduceCtorEq, Nat.reduceLeDiff, Nat.reducePow, Int.reducePow, Int.reduceToNat, Nat.reduceAdd]
  refine eff_f64bits rfl ?_
  have c3 : ¬ (k : Int) + xx - 1023 < -1075 := by omega
  have c4 : ¬ (1023 : Int) < (k : Int) + xx - 1023 := by omega
  by_cases d : (k : Int) + xx < 1
  · have c5 : (k : Int) + xx - 1023 < -1022 := by omega
    obtain ⟨m, hm⟩ : ∃ m, m = ((k : Int) + xx + 53).toNat := ⟨_, rfl⟩
    have e6 : (k : Int) + xx - 1023 + 53 + 1023 = (m : Int) := by omega
    have hF := hl.2 d
    rw [← hm] at hF
    have hFi : m * 4503599627370496 + f < 9218868437227405312 := by omega
    have e9 : IntKind.u64.wrap (m : Int) = m := wrap_u64 (by omega) (by omega)
    have e10 : IntKind.u64.wrap ((m : Int) * 4503599627370496) = (m : Int) * 4503599627370496 := wrap_u64 (by omega) (by omega)
    have e7 : bitsV .or .u64 (f : Int) ((m : Int) * 4503599627370496) = ((m * 4503599627370496 + f : Nat) : Int) := by
      rw [show (m : Int) * 4503599627370496 = ((4503599627370496 * m : Nat) : Int) by omega, (bv_nat (op := .and) (by omega) (by omega)).2.1, or_exp (by omega)]
    simp (disch := first | omega | assumption) only [C.m_ldexp_gos, T.tv, ↓reduceIte, Nat.reduceEqDiff, reduceCtorEq, Nat.reduceLeDiff, Nat.reducePow, Int.reducePow, Int.reduceToNat, Nat.reduceAdd, e1, e2, e3, e4, c3, c4, c5, e6, e9, e10, e7]
    refine eff_f64from rfl ?_
    simp (disch := first | omega | assumption) only [C.m_ldexp_gos, T.tv, ↓reduceIte, Nat.reduceEqDiff, reduceCtorEq, Nat.reduceLeDiff, Nat.reducePow, Int.reducePow, Int.reduceToNat, Nat.reduceAdd]
    have e8 := mul_m53 hFi hs1 (by rw [hF, hs2])
    refine eff_farith rfl rfl rfl ?_ ?_
    · intro z hz
      rw [e8] at hz
      cases hz
      simp (disch := first | omega | assumption) only [C.m_ldexp_gos, T.tv, ↓reduceIte, Nat.reduceEqDiff, reduceCtorEq, Nat.reduceLeDiff, Nat.reducePow, Int.reducePow, Int.reduceToNat, Nat.reduceAdd]
      exact ⟨s, hs1, hs2, rfl⟩
    · intro hz
      rw [e8] at hz
      cases hz
  · have c5 : ¬ (k : Int) + xx - 1023 < -1022 := by omega
    obtain ⟨m, hm⟩ : ∃ m, m = ((k : Int) + xx).toNat := ⟨_, rfl⟩
    have e6 : (k : Int) + xx - 1023 + 1023 = (m : Int) := by omega
    have hF := hl.1 (by omega)
    rw [← hm] at hF
    have hFi : m * 4503599627370496 + f < 9218868437227405312 := by omega
    have e9 : IntKind.u64.wrap (m : Int) = m := wrap_u64 (by omega) (by omega)
    have e10 : IntKind.u64.wrap ((m : Int) * 4503599627370496) = (m : Int) * 4503599627370496 := wrap_u64 (by omega) (by omega)
    have e7 : bitsV .or .u64 (f : Int) ((m : Int) * 4503599627370496) = ((m * 4503599627370496 + f : Nat) : Int) := by
      rw [show (m : Int) * 4503599627370496 = ((4503599627370496 * m : Nat) : Int) by omega, (bv_nat (op := .and) (by omega) (by omega)).2.1, or_exp (by omega)]
    simp (disch := first | omega | assumption) only [C.m_ldexp_gos, T.tv, ↓reduceIte, Nat.reduceEqDiff, reduceCtorEq, Nat.reduceLeDiff, Nat.reducePow, Int.reducePow, Int.reduceToNat, Nat.reduceAdd, e1, e2, e3, e4, c3, c4, c5, e6, e9, e10, e7]
    refine eff_f64from rfl ?_
    simp (disch := first | omega | assumption) only [C.m_ldexp_gos, T.tv, ↓reduceIte, Nat.reduceEqDiff, reduceCtorEq, Nat.reduceLeDiff, Nat.reducePow, Int.reducePow, Int.reduceToNat, Nat.reduceAdd]
    have e8 := mul_one hFi
    refine eff_farith rfl rfl rfl ?_ ?_
    · intro z hz
      rw [e8] at hz
      cases hz
      simp (disch := first | omega | assumption) only [C.m_ldexp_gos, T.tv, ↓reduceIte, Nat.reduceEqDiff, reduceCtorEq, Nat.reduceLeDiff, Nat.reducePow, Int.reducePow, Int.reduceToNat, Nat.reduceAdd]
      exact ⟨_, hFi, hF, rfl⟩
    · intro hz
      rw [e8] at hz
      cases hz
end Go.Proofs.Ytedleaeohbjfnaa
