/- math.Mod. No condition. -/
import Derived.Test.YtedleaeohbjfnaaQH
namespace Go.Proofs.Ytedleaeohbjfnaa
open Go.Vc Go.Num
set_option maxRecDepth 100000
set_option linter.unusedSimpArgs false
set_option linter.unusedVariables false

theorem sub_pos {r z s : Nat} (hr : r < 9218868437227405312) (hz : z < 9218868437227405312) (hs : s < 9218868437227405312) (hv : V D s + V D z = V D r) : fop .sub FloatKind.f64.format r z = some s := by
  have h1 := rung_pos (a := r) (by omega)
  have h2 := rung_pos (a := z) (by omega)
  unfold fop Ieee.Format.sub
  rw [show FloatKind.f64.format = D from rfl]
  simp only
  rw [read_rung D (by rw [h1.1, D_inf]; exact hr), read_rung D (by rw [h2.1, D_inf]; exact hz), h1.1, h1.2, h2.1, h2.2]
  simp only [Ieee.Datum.opposite, Ieee.Datum.sum, Option.map_some, write_number, signed_sg]
  refine congrArg some ?_
  rw [V_digs D r, V_digs D z] at hv
  generalize digs D r = m at *
  generalize digs D z = n at *
  generalize plc D r = i at *
  generalize plc D z = j at *
  obtain ⟨c, hc⟩ : ∃ c, c = min i j := ⟨_, rfl⟩
  have e1 : (D.leastPlace + (i : Int) - min (D.leastPlace + (i : Int)) (D.leastPlace + (j : Int))).toNat = i - c := by omega
  have e2 : (D.leastPlace + (j : Int) - min (D.leastPlace + (i : Int)) (D.leastPlace + (j : Int))).toNat = j - c := by omega
  have e3 : min (D.leastPlace + (i : Int)) (D.leastPlace + (j : Int)) = D.leastPlace + c := by omega
  rw [e1, e2, e3]
  have f1 : m * 2 ^ i = m * 2 ^ (i - c) * 2 ^ c := by rw [Nat.mul_assoc, ← Nat.pow_add]; congr 2; omega
  have f2 : n * 2 ^ j = n * 2 ^ (j - c) * 2 ^ c := by rw [Nat.mul_assoc, ← Nat.pow_add]; congr 2; omega
  rw [f1, f2] at hv
  generalize m * 2 ^ (i - c) = A at *
  generalize n * 2 ^ (j - c) = B at *
  have hle : B ≤ A := Nat.le_of_mul_le_mul_right (by omega) (two_pos c)
  have g1 : sg false A + sg (!false) B = ((A - B : Nat) : Int) := by
    simp only [sg, Bool.not_false, if_true, Bool.false_eq_true, if_false]; omega
  rw [g1]
  have g2 : (if ((A - B : Nat) : Int) = 0 then (false && !false) else decide (((A - B : Nat) : Int) < 0)) = false := by
    split
    · rfl
    · exact decide_eq_false (by omega)
  rw [g2, Int.natAbs_natCast]
  unfold closeP Ieee.Format.word
  rw [if_neg (by decide), rnd_units]
  have g3 : (A - B) * 2 ^ c = V D s := by rw [Nat.sub_mul]; omega
  rw [g3, rnd_V (by rw [D_inf]; omega)]
theorem neg_of {x : Nat} (hx : x < 18446744073709551616) (hs : sgn D x = true) : x ^^^ 2 ^ (FloatKind.f64.format.exponentBits + FloatKind.f64.format.fractionBits) = rung D x := by
  have h1 := word_of D (x := x) (by show x < 2 ^ 64; rw [show (2 : Nat) ^ 64 = 18446744073709551616 by decide]; exact hx)
  rw [hs] at h1
  unfold Ieee.Format.word at h1
  rw [if_pos rfl, D_sw, Nat.add_comm] at h1
  have := xor_sign (rung_lt x)
  show x ^^^ 9223372036854775808 = _
  rw [h1]
  rw [← h1]
  have h2 := this.2
  rw [← h1] at h2
  exact h2
theorem neg_to {r : Nat} (hr : r < 9223372036854775808) : r ^^^ 2 ^ (FloatKind.f64.format.exponentBits + FloatKind.f64.format.fractionBits) = D.word true r := by
  show r ^^^ 9223372036854775808 = _
  rw [(xor_sign hr).1]
  unfold Ieee.Format.word
  rw [if_pos rfl, D_sw, Nat.add_comm]
/-- What math.Mod gives. -/
def ModR (x y w : Nat) : Prop :=
  if 9218868437227405312 ≤ rung D x ∨ 9218868437227405312 < rung D y ∨ rung D y = 0 then w = 9221120237041090561
  else if rung D y = 9218868437227405312 then w = x
  else ∃ s, s < 9218868437227405312 ∧ V D s = V D (rung D x) % V D (rung D y) ∧ w = D.word (sgn D x) s
/-- The sign put on. -/
def sgnW (bn : Bool) (r : Nat) : Nat := if bn = true then r ^^^ 2 ^ (FloatKind.f64.format.exponentBits + FloatKind.f64.format.fractionBits) else r
theorem mod_out {h : Heap} {x Y r0 yf : Nat} {ye : Int} {u4 u34 : Value} {bn : Bool} {Q : Value → Heap → Prop} (hneg : (FloatKind.f64.format.order x 0 == some .lt) = bn)
    (hexit : (FloatKind.f64.format.order r0 Y == some .gt || FloatKind.f64.format.order r0 Y == some .eq) = false) (hQ : Q (F64 (sgnW bn r0)) h) :
    Cd.vc Try.prog C.m_mod_t0 (retQ Try.prog [(4, none)] Q)
      [(0, F64 x), (1, F64 Y), (4, u4), (5, F64 yf), (6, .int .i64 ye), (7, F64 r0), (8, undef), (9, undef), (23, .bool false), (34, u34), (39, undef), (47, undef), (58, undef)] h := by
  rw [C.m_mod_t0_go]
  simp (disch := first | omega | assumption) only [C.m_mod_gos, T.tv, ↓reduceIte, Nat.reduceEqDiff, reduceCtorEq, Nat.reduceLeDiff, Nat.reducePow, Int.reducePow, Int.reduceToNat, Nat.reduceAdd]
  refine loop_intro [0, 1, 5, 6, 7] (fun m ρ hc => ρ = [(0, F64 x), (1, F64 Y), (5, F64 yf), (6, .int .i64 ye), (7, F64 r0)] ∧ hc = h) ?_ ?_
  · simp (disch := first | omega | assumption) only [C.m_mod_gos, T.tv, ↓reduceIte, Nat.reduceEqDiff, reduceCtorEq, Nat.reduceLeDiff, Nat.reducePow, Int.reducePow, Int.reduceToNat, Nat.reduceAdd]
    first | exact ⟨0, rfl⟩ | exact ⟨0, trivial⟩
  rintro m ρ hc ⟨rfl, rfl⟩
  cases bn
  · simp (disch := first | omega | assumption) only [C.m_mod_gos, T.tv, ↓reduceIte, Nat.reduceEqDiff, reduceCtorEq, Nat.reduceLeDiff, Nat.reducePow, Int.reducePow, Int.reduceToNat, Nat.reduceAdd, vf, hexit, hneg]
    exact hQ
  · simp (disch := first | omega | assumption) only [C.m_mod_gos, T.tv, ↓reduceIte, Nat.reduceEqDiff, reduceCtorEq, Nat.reduceLeDiff, Nat.reducePow, Int.reducePow, Int.reduceToNat, Nat.reduceAdd, vf, hexit, hneg]
    exact hQ
set_option maxHeartbeats 1000000 in
theorem mod_loop {h : Heap} {x Y r0 : Nat} {u4 u34 : Value} {bn : Bool} {Q : Value → Heap → Prop} (hneg : (FloatKind.f64.format.order x 0 == some .lt) = bn)
    (hY0 : 0 < Y) (hY : Y < 9218868437227405312) (hr0 : r0 < 9218868437227405312) (hQ : ∀ r, r < 9218868437227405312 → V D r = V D r0 % V D Y → Q (F64 (sgnW bn r)) h) :
    Cd.vc Try.prog C.m_mod_t0 (retQ Try.prog [(4, none)] Q)
      [(0, F64 x), (1, F64 Y), (4, u4), (5, F64 (4602678819172646912 + frc Y)), (6, .int .i64 (xpo Y - 1022)), (7, F64 r0), (8, undef), (9, undef), (23, .bool false), (34, u34), (39, undef), (47, undef), (58, undef)] h := by
  rw [C.m_mod_t0_go]
  simp (disch := first | omega | assumption) only [C.m_mod_gos, T.tv, ↓reduceIte, Nat.reduceEqDiff, reduceCtorEq, Nat.reduceLeDiff, Nat.reducePow, Int.reducePow, Int.reduceToNat, Nat.reduceAdd]
  refine loop_intro [0, 1, 5, 6, 7] (fun m ρ hc => ∃ r : Nat, m = r ∧ r < 9218868437227405312 ∧ V D r % V D Y = V D r0 % V D Y ∧
    ρ = [(0, F64 x), (1, F64 Y), (5, F64 (4602678819172646912 + frc Y)), (6, .int .i64 (xpo Y - 1022)), (7, F64 r)] ∧ hc = h) ?_ ?_
  · simp (disch := first | omega | assumption) only [C.m_mod_gos, T.tv, ↓reduceIte, Nat.reduceEqDiff, reduceCtorEq, Nat.reduceLeDiff, Nat.reducePow, Int.reducePow, Int.reduceToNat, Nat.reduceAdd]
    exact ⟨_, r0, rfl, hr0, rfl, rfl⟩
  rintro m ρ hc ⟨r, rfl, hr, hV, rfl, rfl⟩
  by_cases hge : Y ≤ m
  · obtain ⟨k0, k1, k2, k3⟩ := kmod_spec hY0 hge (by rw [D_inf]; exact hr)
    obtain ⟨a1, a2, a3, _⟩ := frx (r := m) (by omega) (by rw [D_inf]; exact hr)
    obtain ⟨b1, b2, b3, _⟩ := frx hY0 (by rw [D_inf]; exact hY)
    obtain ⟨k, hk⟩ : ∃ k : Nat, k = (kmod m Y).toNat := ⟨_, rfl⟩
    rw [← hk] at k1 k2
    have hkk : kmod m Y = (k : Int) := by omega
    rw [hkk] at k3
    unfold kmod at hkk
    simp (disch := first | omega | assumption) only [C.m_mod_gos, T.tv, ↓reduceIte, Nat.reduceEqDiff, reduceCtorEq, Nat.reduceLeDiff, Nat.reducePow, Int.reducePow, Int.reduceToNat, Nat.reduceAdd, vf, ord_ge, hge]
    refine eff_callF rfl ((Frexp_any (r := m) (by omega) hr).mono ?_)
    rintro v1 h1 ⟨rfl, rfl⟩
    have fin : ∀ z, z < 9218868437227405312 → V D z = V D Y * 2 ^ k → ∃ s, fop .sub FloatKind.f64.format m z = some s ∧ s < m ∧ s < 9218868437227405312 ∧ V D s % V D Y = V D r0 % V D Y := by
      intro z hz hv
      obtain ⟨s, s1, s2⟩ := rep_step (r := m) (y := Y) (k := k) (by rw [D_inf]; exact hr) k1 k2
      rw [D_inf] at s1
      have hYv : 0 < V D Y := by have := V_lt (f := D) hY0; omega
      have hYk : 0 < V D Y * 2 ^ k := Nat.mul_pos hYv (two_pos k)
      refine ⟨s, sub_pos hr hz s1 (by omega), ?_, s1, ?_⟩
      · exact (V_lt_iff (f := D)).1 (by omega)
      · rw [s2, mod_step k1, hV]
    by_cases c : frc m < frc Y
    · rw [if_pos c] at hkk
      have c' : 4602678819172646912 + frc m < 4602678819172646912 + frc Y := by omega
      have e1 : xpo m - 1022 - 1 - (xpo Y - 1022) = (k : Int) := by omega
      simp (disch := first | omega | assumption) only [C.m_mod_gos, T.tv, ↓reduceIte, Nat.reduceEqDiff, reduceCtorEq, Nat.reduceLeDiff, Nat.reducePow, Int.reducePow, Int.reduceToNat, Nat.reduceAdd, vf, ord_lt, c', e1]
      refine eff_callF rfl ((Ldexp_any (r := m) hY0 hY hr (by omega) k1).mono ?_)
      rintro v1 h1 ⟨rfl, z, z1, z2, rfl⟩
      obtain ⟨s, s1, s2, s3, s4⟩ := fin z z1 z2
      simp (disch := first | omega | assumption) only [C.m_mod_gos, T.tv, ↓reduceIte, Nat.reduceEqDiff, reduceCtorEq, Nat.reduceLeDiff, Nat.reducePow, Int.reducePow, Int.reduceToNat, Nat.reduceAdd]
      refine eff_farith rfl rfl rfl ?_ ?_
      · intro z' hz
        rw [s1] at hz
        cases hz
        simp (disch := first | omega | assumption) only [C.m_mod_gos, T.tv, ↓reduceIte, Nat.reduceEqDiff, reduceCtorEq, Nat.reduceLeDiff, Nat.reducePow, Int.reducePow, Int.reduceToNat, Nat.reduceAdd]
        exact ⟨s, s2, s, rfl, s3, s4, rfl⟩
      · intro hz
        rw [s1] at hz
        cases hz
    · rw [if_neg c] at hkk
      have c' : ¬ 4602678819172646912 + frc m < 4602678819172646912 + frc Y := by omega
      have e1 : xpo m - 1022 - (xpo Y - 1022) = (k : Int) := by omega
      simp (disch := first | omega | assumption) only [C.m_mod_gos, T.tv, ↓reduceIte, Nat.reduceEqDiff, reduceCtorEq, Nat.reduceLeDiff, Nat.reducePow, Int.reducePow, Int.reduceToNat, Nat.reduceAdd, vf, ord_lt, c', e1]
      refine eff_callF rfl ((Ldexp_any (r := m) hY0 hY hr (by omega) k1).mono ?_)
      rintro v1 h1 ⟨rfl, z, z1, z2, rfl⟩
      obtain ⟨s, s1, s2, s3, s4⟩ := fin z z1 z2
      simp (disch := first | omega | assumption) only [C.m_mod_gos, T.tv, ↓reduceIte, Nat.reduceEqDiff, reduceCtorEq, Nat.reduceLeDiff, Nat.reducePow, Int.reducePow, Int.reduceToNat, Nat.reduceAdd]
      refine eff_farith rfl rfl rfl ?_ ?_
      · intro z' hz
        rw [s1] at hz
        cases hz
        simp (disch := first | omega | assumption) only [C.m_mod_gos, T.tv, ↓reduceIte, Nat.reduceEqDiff, reduceCtorEq, Nat.reduceLeDiff, Nat.reducePow, Int.reducePow, Int.reduceToNat, Nat.reduceAdd]
        exact ⟨s, s2, s, rfl, s3, s4, rfl⟩
      · intro hz
        rw [s1] at hz
        cases hz
  · have hlt : V D m < V D Y := V_lt (by omega)
    have hq := hQ m hr (by rw [← hV, Nat.mod_eq_of_lt hlt])
    cases bn
    · simp (disch := first | omega | assumption) only [C.m_mod_gos, T.tv, ↓reduceIte, Nat.reduceEqDiff, reduceCtorEq, Nat.reduceLeDiff, Nat.reducePow, Int.reducePow, Int.reduceToNat, Nat.reduceAdd, vf, ord_ge, hge, hneg]
      exact hq
    · simp (disch := first | omega | assumption) only [C.m_mod_gos, T.tv, ↓reduceIte, Nat.reduceEqDiff, reduceCtorEq, Nat.reduceLeDiff, Nat.reducePow, Int.reducePow, Int.reduceToNat, Nat.reduceAdd, vf, ord_ge, hge, hneg]
      exact hq
set_option maxHeartbeats 2000000 in
theorem mod_any {h : Heap} {x y : Nat} (hx : x < 18446744073709551616) (hy : y < 18446744073709551616) :
    HCalls Try.prog 44 #[F64 x, F64 y] h fun v h' => h' = h ∧ ∃ w, ModR x y w ∧ v = F64 w := by
  refine C.m_mod_calls (args := [F64 x, F64 y]) rfl ?_
  by_cases y0 : rung D y = 0
  · simp (disch := first | omega | assumption) only [C.m_mod_gos, T.tv, ↓reduceIte, Nat.reduceEqDiff, reduceCtorEq, Nat.reduceLeDiff, Nat.reducePow, Int.reducePow, Int.reduceToNat, Nat.reduceAdd, vf, ord_zero, y0]
    refine eff_callF rfl (nan_any.mono ?_)
    rintro v1 h1 ⟨rfl, rfl⟩
    simp (disch := first | omega | assumption) only [C.m_mod_gos, T.tv, ↓reduceIte, Nat.reduceEqDiff, reduceCtorEq, Nat.reduceLeDiff, Nat.reducePow, Int.reducePow, Int.reduceToNat, Nat.reduceAdd]
    exact ⟨9221120237041090561, by unfold ModR; rw [if_pos (.inr (.inr y0))], rfl⟩
  simp (disch := first | omega | assumption) only [C.m_mod_gos, T.tv, ↓reduceIte, Nat.reduceEqDiff, reduceCtorEq, Nat.reduceLeDiff, Nat.reducePow, Int.reducePow, Int.reduceToNat, Nat.reduceAdd, vf, ord_zero, y0]
  refine eff_callF rfl ((isInf_any hx).mono ?_)
  rintro v1 h1 ⟨rfl, rfl⟩
  by_cases x1 : rung D x = 9218868437227405312
  · simp (disch := first | omega | assumption) only [C.m_mod_gos, T.tv, ↓reduceIte, Nat.reduceEqDiff, reduceCtorEq, Nat.reduceLeDiff, Nat.reducePow, Int.reducePow, Int.reduceToNat, Nat.reduceAdd, x1]
    refine eff_callF rfl (nan_any.mono ?_)
    rintro v1 h1 ⟨rfl, rfl⟩
    simp (disch := first | omega | assumption) only [C.m_mod_gos, T.tv, ↓reduceIte, Nat.reduceEqDiff, reduceCtorEq, Nat.reduceLeDiff, Nat.reducePow, Int.reducePow, Int.reduceToNat, Nat.reduceAdd]
    exact ⟨9221120237041090561, by unfold ModR; rw [if_pos (.inl (by omega))], rfl⟩
  simp (disch := first | omega | assumption) only [C.m_mod_gos, T.tv, ↓reduceIte, Nat.reduceEqDiff, reduceCtorEq, Nat.reduceLeDiff, Nat.reducePow, Int.reducePow, Int.reduceToNat, Nat.reduceAdd, x1]
  refine eff_callF rfl ((isNaN_any (b := x)).mono ?_)
  rintro v1 h1 ⟨rfl, rfl⟩
  by_cases x2 : 9218868437227405312 < rung D x
  · simp (disch := first | omega | assumption) only [C.m_mod_gos, T.tv, ↓reduceIte, Nat.reduceEqDiff, reduceCtorEq, Nat.reduceLeDiff, Nat.reducePow, Int.reducePow, Int.reduceToNat, Nat.reduceAdd, x2]
    refine eff_callF rfl (nan_any.mono ?_)
    rintro v1 h1 ⟨rfl, rfl⟩
    simp (disch := first | omega | assumption) only [C.m_mod_gos, T.tv, ↓reduceIte, Nat.reduceEqDiff, reduceCtorEq, Nat.reduceLeDiff, Nat.reducePow, Int.reducePow, Int.reduceToNat, Nat.reduceAdd]
    exact ⟨9221120237041090561, by unfold ModR; rw [if_pos (.inl (by omega))], rfl⟩
  simp (disch := first | omega | assumption) only [C.m_mod_gos, T.tv, ↓reduceIte, Nat.reduceEqDiff, reduceCtorEq, Nat.reduceLeDiff, Nat.reducePow, Int.reducePow, Int.reduceToNat, Nat.reduceAdd, x2]
  refine eff_callF rfl ((isNaN_any (b := y)).mono ?_)
  rintro v1 h1 ⟨rfl, rfl⟩
  by_cases y1 : 9218868437227405312 < rung D y
  · simp (disch := first | omega | assumption) only [C.m_mod_gos, T.tv, ↓reduceIte, Nat.reduceEqDiff, reduceCtorEq, Nat.reduceLeDiff, Nat.reducePow, Int.reducePow, Int.reduceToNat, Nat.reduceAdd, y1]
    refine eff_callF rfl (nan_any.mono ?_)
    rintro v1 h1 ⟨rfl, rfl⟩
    simp (disch := first | omega | assumption) only [C.m_mod_gos, T.tv, ↓reduceIte, Nat.reduceEqDiff, reduceCtorEq, Nat.reduceLeDiff, Nat.reducePow, Int.reducePow, Int.reduceToNat, Nat.reduceAdd]
    exact ⟨9221120237041090561, by unfold ModR; rw [if_pos (.inr (.inl y1))], rfl⟩
  simp (disch := first | omega | assumption) only [C.m_mod_gos, T.tv, ↓reduceIte, Nat.reduceEqDiff, reduceCtorEq, Nat.reduceLeDiff, Nat.reducePow, Int.reducePow, Int.reduceToNat, Nat.reduceAdd, y1]
  refine eff_callF rfl ((abs_any hy).mono ?_)
  rintro v1 h1 ⟨rfl, rfl⟩
  have hxl : rung D x < 9218868437227405312 := by omega
  have hM : ∀ w, ModR x y w ↔ (if rung D y = 9218868437227405312 then w = x else ∃ s, s < 9218868437227405312 ∧ V D s = V D (rung D x) % V D (rung D y) ∧ w = D.word (sgn D x) s) := fun w => by
    unfold ModR; rw [if_neg (by omega)]
  have hxw := word_of D (x := x) (by show x < 2 ^ 64; rw [show (2 : Nat) ^ 64 = 18446744073709551616 by decide]; exact hx)
  simp only [hM]
  clear hM
  generalize hYd : rung D y = Y at *
  clear hYd
  obtain ⟨bn, hbn⟩ : ∃ b, b = (sgn D x && decide (rung D x ≠ 0)) := ⟨_, rfl⟩
  have hneg : (FloatKind.f64.format.order x 0 == some .lt) = bn := by rw [ord_neg x (by omega), hbn]
  obtain ⟨r0, hr0⟩ : ∃ r0, r0 = (if bn = true then rung D x else x) := ⟨_, rfl⟩
  have hback : ∀ s, s < 9218868437227405312 → (rung D x = 0 → s = 0) → rung D x ≠ 0 → sgnW bn s = D.word (sgn D x) s := by
    intro s hs _ hx0
    unfold sgnW
    cases hsg : sgn D x
    · rw [hsg] at hbn
      rw [hbn]
      simp only [Bool.false_and, Bool.false_eq_true, if_false]
      rfl
    · rw [hsg] at hbn
      rw [hbn, decide_eq_true hx0]
      simp only [Bool.true_and, if_true]
      exact neg_to (by omega)
  have hr0x : rung D x ≠ 0 → r0 = rung D x := by
    intro hx0
    rw [hr0]
    cases hsg : sgn D x
    · rw [hsg] at hbn hxw
      rw [hbn]
      simp only [Bool.false_and, Bool.false_eq_true, if_false]
      exact hxw
    · rw [hsg] at hbn
      rw [hbn, decide_eq_true hx0]
      simp only [Bool.true_and, if_true]
  have hr00 : rung D x = 0 → r0 = x ∧ bn = false := by
    intro hx0
    rw [hx0] at hbn
    have : bn = false := by rw [hbn]; simp
    rw [hr0, this]
    exact ⟨if_neg (by decide), rfl⟩
  have hself : sgnW bn r0 = x := by
    by_cases hx0 : rung D x = 0
    · obtain ⟨g1, g2⟩ := hr00 hx0
      rw [g1, g2]; rfl
    · rw [hr0x hx0, hback _ hxl (fun h => absurd h hx0) hx0, ← hxw]
  have hexit : rung D x = 0 ∨ Y = 9218868437227405312 → (FloatKind.f64.format.order r0 Y == some .gt || FloatKind.f64.format.order r0 Y == some .eq) = false := by
    intro hc
    by_cases hx0 : rung D x = 0
    · rw [(hr00 hx0).1]
      have h2 := rung_pos (a := Y) (by omega)
      have := order_rank D (by decide) (x := x) (y := Y) (by rw [D_inf]; omega) (by rw [D_inf, h2.1]; omega)
      rw [show FloatKind.f64.format.order x Y = some (compare (rank D x) (rank D Y)) from this, cmp_gt, cmp_eq, rank_pos (a := Y) (by omega)]
      unfold rank sg
      rw [hx0, ← Bool.decide_or]
      exact decide_eq_false (by split <;> omega)
    · rw [hr0x hx0, ord_ge (by omega) (by omega)]
      rcases hc with hc | hc
      · exact absurd hc hx0
      · exact decide_eq_false (by omega)
  by_cases yi : Y = 9218868437227405312
  · subst yi
    simp (disch := first | omega | assumption) only [C.m_mod_gos, T.tv, ↓reduceIte, Nat.reduceEqDiff, reduceCtorEq, Nat.reduceLeDiff, Nat.reducePow, Int.reducePow, Int.reduceToNat, Nat.reduceAdd]
    refine eff_callF rfl (Frexp_inf.mono ?_)
    rintro v1 h1 ⟨rfl, rfl⟩
    cases bn
    · rw [if_neg (by decide)] at hr0
      subst hr0
      simp (disch := first | omega | assumption) only [C.m_mod_gos, T.tv, ↓reduceIte, Nat.reduceEqDiff, reduceCtorEq, Nat.reduceLeDiff, Nat.reducePow, Int.reducePow, Int.reduceToNat, Nat.reduceAdd, vf, hneg]
      exact mod_out hneg (hexit (.inr rfl)) ⟨rfl, _, by first | exact hself | (rw [if_pos rfl]; exact hself), rfl⟩
    · rw [if_pos rfl] at hr0
      have hs : sgn D x = true := by cases hsg : sgn D x <;> rw [hsg] at hbn <;> simp at hbn ⊢
      simp (disch := first | omega | assumption) only [C.m_mod_gos, T.tv, ↓reduceIte, Nat.reduceEqDiff, reduceCtorEq, Nat.reduceLeDiff, Nat.reducePow, Int.reducePow, Int.reduceToNat, Nat.reduceAdd, vf, hneg, neg_of hx hs]
      rw [← hr0]
      exact mod_out hneg (hexit (.inr rfl)) ⟨rfl, _, by first | exact hself | (rw [if_pos rfl]; exact hself), rfl⟩
  have hYi : Y < 9218868437227405312 := by omega
  simp (disch := first | omega | assumption) only [C.m_mod_gos, T.tv, ↓reduceIte, Nat.reduceEqDiff, reduceCtorEq, Nat.reduceLeDiff, Nat.reducePow, Int.reducePow, Int.reduceToNat, Nat.reduceAdd]
  refine eff_callF rfl ((Frexp_any (r := Y) (by omega) hYi).mono ?_)
  rintro v1 h1 ⟨rfl, rfl⟩
  by_cases hx0 : rung D x = 0
  · obtain ⟨g1, g2⟩ := hr00 hx0
    subst g1
    subst g2
    simp (disch := first | omega | assumption) only [C.m_mod_gos, T.tv, ↓reduceIte, Nat.reduceEqDiff, reduceCtorEq, Nat.reduceLeDiff, Nat.reducePow, Int.reducePow, Int.reduceToNat, Nat.reduceAdd, vf, hneg]
    refine mod_out hneg (hexit (.inl hx0)) ⟨rfl, _, ?_, rfl⟩
    rw [if_neg yi]
    refine ⟨0, by decide, ?_, ?_⟩
    · rw [hx0, V_zero, Nat.zero_mod]
    · rw [hself, ← hx0, ← hxw]
  · have hr := hr0x hx0
    have hfin : ∀ r, r < 9218868437227405312 → V D r = V D r0 % V D Y → ∃ w, (if Y = 9218868437227405312 then w = x else ∃ s, s < 9218868437227405312 ∧ V D s = V D (rung D x) % V D Y ∧ w = D.word (sgn D x) s) ∧ F64 (sgnW bn r) = F64 w := by
      intro r g1 g2
      refine ⟨_, ?_, rfl⟩
      rw [if_neg yi]
      exact ⟨r, g1, by rw [g2, hr], hback r g1 (fun h => absurd h hx0) hx0⟩
    cases bn
    · rw [if_neg (by decide)] at hr0
      subst hr0
      simp (disch := first | omega | assumption) only [C.m_mod_gos, T.tv, ↓reduceIte, Nat.reduceEqDiff, reduceCtorEq, Nat.reduceLeDiff, Nat.reducePow, Int.reducePow, Int.reduceToNat, Nat.reduceAdd, vf, hneg]
      exact mod_loop hneg (by omega) hYi (by omega) fun r g1 g2 => ⟨rfl, hfin r g1 g2⟩
    · have hs : sgn D x = true := by cases hsg : sgn D x <;> rw [hsg] at hbn <;> simp at hbn ⊢
      simp (disch := first | omega | assumption) only [C.m_mod_gos, T.tv, ↓reduceIte, Nat.reduceEqDiff, reduceCtorEq, Nat.reduceLeDiff, Nat.reducePow, Int.reducePow, Int.reduceToNat, Nat.reduceAdd, vf, hneg, neg_of hx hs]
      rw [← hr]
      exact mod_loop hneg (by omega) hYi (by omega) fun r g1 g2 => ⟨rfl, by have h7 := hfin r g1 g2; rw [← hr] at h7; exact h7⟩
theorem Mod_any {h : Heap} {x y : Nat} (hx : x < 18446744073709551616) (hy : y < 18446744073709551616) :
    HCalls Try.prog 34 #[F64 x, F64 y] h fun v h' => h' = h ∧ ∃ w, ModR x y w ∧ v = F64 w := by
  refine C.m_Mod_calls (args := [F64 x, F64 y]) rfl ?_
  simp (disch := first | omega | assumption) only [C.m_Mod_gos, T.tv, ↓reduceIte, Nat.reduceEqDiff, reduceCtorEq, Nat.reduceLeDiff, Nat.reducePow, Int.reducePow, Int.reduceToNat, Nat.reduceAdd]
  refine eff_callF rfl ((mod_any hx hy).mono ?_)
  rintro v1 h1 ⟨rfl, w, hw, rfl⟩
  simp (disch := first | omega | assumption) only [C.m_Mod_gos, T.tv, ↓reduceIte, Nat.reduceEqDiff, reduceCtorEq, Nat.reduceLeDiff, Nat.reducePow, Int.reducePow, Int.reduceToNat, Nat.reduceAdd]
  exact ⟨w, hw, rfl⟩
end Go.Proofs.Ytedleaeohbjfnaa
