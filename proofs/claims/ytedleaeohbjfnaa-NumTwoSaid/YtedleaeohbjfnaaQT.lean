/- The reference's quotient. No condition. -/
import Derived.Test.YtedleaeohbjfnaaQN
import Derived.Test.YtedleaeohbjfnaaQL
namespace Go.Proofs.Ytedleaeohbjfnaa
open Go.Vc Go.Num
set_option maxRecDepth 100000
set_option linter.unusedSimpArgs false
set_option linter.unusedVariables false

theorem div_step {X B q r : Nat} (hB : 0 < B) (hq : q = X / B) (hr : r = X % B) : (2 * X / B = if B ≤ 2 * r then 2 * q + 1 else 2 * q) ∧ (2 * X % B = if B ≤ 2 * r then 2 * r - B else 2 * r) := by
  have h1 := Nat.div_add_mod X B
  have h2 := Nat.mod_lt X hB
  rw [← hq, ← hr] at h1
  rw [← hr] at h2
  rw [Nat.div_mod_unique hB]
  have e1 : B * (2 * q) = 2 * (B * q) := by rw [Nat.mul_left_comm]
  by_cases c : B ≤ 2 * r
  · rw [if_pos c, if_pos c, Nat.mul_add, e1]
    omega
  · rw [if_neg c, if_neg c, e1]
    omega
set_option maxHeartbeats 1000000 in
theorem div_fin {h0 h : Heap} {m e g3 g4 g5 : Nat} {a b : Nm} {ng : Bool} {v0 v1 v2 u8 u9 u53 u60 u68 u89 u99 : Value} (hk : Kd m e) (E : Ext h0 h) (H : KB h g3 m e) (HA : NB h g4 a) (HB : NB h g5 b)
    (ha0 : 0 < a.m) (hb0 : 0 < b.m) (ha : a.m < 9007199254740992) (hb : b.m < 9007199254740992) (hae : -10000 ≤ a.e ∧ a.e ≤ 10000) (hbe : -10000 ≤ b.e ∧ b.e ≤ 10000) :
    Cd.vc Try.prog C.k_div_t0 (retQ Try.prog [(6, none)] fun v h' => Ext h0 h' ∧ v = .int .u64 ((closeP (fmt m e) ng (a.m * 2 ^ 120 / b.m) (a.e - b.e - (120 : Nat)) (decide (a.m * 2 ^ 120 % b.m ≠ 0)) : Nat) : Int))
      [(0, v0), (1, v1), (2, v2), (3, .pointer (some ⟨g3, 0, none⟩)), (4, .pointer (some ⟨g4, 0, none⟩)), (5, .pointer (some ⟨g5, 0, none⟩)), (6, .int .u64 0), (7, .bool ng), (8, u8), (9, u9), (10, undef), (11, undef), (12, undef), (53, u53), (60, u60), (68, u68), (89, u89), (99, u99)] h := by
  rw [C.k_div_t0_go]
  have lk := H.ld
  have a3 := HA.c3
  have a4 := HA.c4
  have b3 := HB.c3
  have b4 := HB.c4
  generalize a.e = ae at *
  generalize b.e = be at *
  generalize a.m = A at *
  generalize b.m = B at *
  have hm53 : 2 ^ (m + 1) ≤ 2 ^ 59 := Nat.pow_le_pow_right (by decide) (by rcases hk with ⟨rfl, rfl⟩ | ⟨rfl, rfl⟩ <;> decide)
  have low : ∀ t : Nat, 2 ^ t ≤ A * 2 ^ t := fun t => Nat.le_mul_of_pos_left _ ha0
  have h120 : 2 ^ (m + 1) ≤ A * 2 ^ 120 / B := by
    rw [Nat.le_div_iff_mul_le hb0]
    have h1 := low 120
    have h2 : 2 ^ (m + 1) * B ≤ 2 ^ 59 * 2 ^ 53 := Nat.mul_le_mul hm53 (by rw [show (2 : Nat) ^ 53 = 9007199254740992 by decide]; omega)
    rw [← Nat.pow_add] at h2
    have h3 : 2 ^ (59 + 53) ≤ 2 ^ 120 := Nat.pow_le_pow_right (by decide) (by decide)
    exact Nat.le_trans h2 (Nat.le_trans h3 h1)
  have same : ∀ t : Nat, 2 ^ 59 ≤ A * 2 ^ t / B → closeP (fmt m e) ng (A * 2 ^ 120 / B) (ae - be - (120 : Nat)) (decide (A * 2 ^ 120 % B ≠ 0)) = closeP (fmt m e) ng (A * 2 ^ t / B) (ae - be - (t : Nat)) (decide (A * 2 ^ t % B ≠ 0)) := by
    intro t ht
    unfold closeP
    rw [quot_same (f := fmt m e) (e := ae - be) hb0 h120 (Nat.le_trans hm53 ht)]
  generalize hR : closeP (fmt m e) ng (A * 2 ^ 120 / B) (ae - be - (120 : Nat)) (decide (A * 2 ^ 120 % B ≠ 0)) = R at *
  clear hR h120
  have close := fun (h' : Heap) (st : Bool) (x : Nat) (p : Int) (hx : x < 18446744073709551616) (hp : -100000 ≤ p ∧ p ≤ 100000) => close_any (h := h') (neg := ng) (st := st) hk hx hp
  have hq0 : A / B < 9007199254740992 := Nat.lt_of_le_of_lt (Nat.div_le_self _ _) ha
  have hr0 := Nat.mod_lt A hb0
  have f1 : ((A / B : Nat) : Int) = (A : Int) / (B : Int) := Int.natCast_ediv A B
  have f2 : ((A % B : Nat) : Int) = (A : Int) % (B : Int) := Int.natCast_emod A B
  have t1 : (A : Int).tdiv (B : Int) = ((A / B : Nat) : Int) := by rw [Int.tdiv_eq_ediv_of_nonneg (by omega), f1]
  have t2 : (A : Int).tmod (B : Int) = ((A % B : Nat) : Int) := by rw [Int.tmod_eq_emod_of_nonneg (by omega), f2]
  have nb : ¬ (B : Int) = 0 := by omega
  clear f1 f2
  obtain ⟨q0, hq0e⟩ : ∃ q, q = A / B := ⟨_, rfl⟩
  obtain ⟨r0, hr0e⟩ : ∃ r, r = A % B := ⟨_, rfl⟩
  replace t1 : (A : Int) / (B : Int) = (q0 : Int) := by rw [hq0e, Int.natCast_ediv]
  replace t2 : (A : Int) % (B : Int) = (r0 : Int) := by rw [hr0e, Int.natCast_emod]
  rw [← hq0e] at hq0
  rw [← hr0e] at hr0
  have w1 : IntKind.u64.wrap (q0 : Int) = (q0 : Int) := wrap_u64 (by omega) (by omega)
  simp (disch := first | omega | assumption) only [C.k_div_gos, T.tv, ↓reduceIte, Nat.reduceEqDiff, reduceCtorEq, Nat.reduceLeDiff, Nat.reducePow, Int.reducePow, Int.reduceToNat, Nat.reduceAdd, vf, a3, a4, b3, b4, t1, t2, w1, ne_eq, nb]
  refine loop_intro [3, 4, 5, 6, 7, 10, 11, 12] (fun k ρ hc => ∃ t q r : Nat, k = 200 - t ∧ t ≤ 130 ∧ q = A * 2 ^ t / B ∧ r = A * 2 ^ t % B ∧ q < 2305843009213693952 ∧
    ρ = [(3, .pointer (some ⟨g3, 0, none⟩)), (4, .pointer (some ⟨g4, 0, none⟩)), (5, .pointer (some ⟨g5, 0, none⟩)), (6, .int .u64 0), (7, .bool ng), (10, .int .u64 (q : Int)), (11, .int .u64 (r : Int)), (12, .int .i64 (ae - be - (t : Int)))] ∧ hc = h) ?_ ?_
  · simp (disch := first | omega | assumption) only [C.k_div_gos, T.tv, ↓reduceIte, Nat.reduceEqDiff, reduceCtorEq, Nat.reduceLeDiff, Nat.reducePow, Int.reducePow, Int.reduceToNat, Nat.reduceAdd]
    exact ⟨_, 0, q0, r0, rfl, by omega, by rw [Nat.pow_zero, Nat.mul_one]; exact hq0e, by rw [Nat.pow_zero, Nat.mul_one]; exact hr0e, by omega, by first | rfl | simp⟩
  rintro k ρ hc ⟨t, q, r, rfl, ht, hq, hr, hqb, rfl, rfl⟩
  have hrB : r < B := by rw [hr]; exact Nat.mod_lt _ hb0
  simp (disch := first | omega | assumption) only [C.k_div_gos, T.tv, ↓reduceIte, Nat.reduceEqDiff, reduceCtorEq, Nat.reduceLeDiff, Nat.reducePow, Int.reducePow, Int.reduceToNat, Nat.reduceAdd]
  refine eff_callF rfl ((length_any (x := q) (by omega)).mono ?_)
  rintro v1 hz ⟨rfl, rfl⟩
  by_cases c : len q < 60
  · have c' : ((len q : Nat) : Int) < 60 := by omega
    have hq60 : q < 2 ^ 59 := by
      have h1 := lt_len q
      have h2 : 2 ^ len q ≤ 2 ^ 59 := Nat.pow_le_pow_right (by decide) (by omega)
      omega
    have ht2 : t < 113 := by
      apply Nat.lt_of_not_le
      intro h113
      have h1 : 2 ^ 59 ≤ A * 2 ^ t / B := by
        rw [Nat.le_div_iff_mul_le hb0]
        have h2 : 2 ^ 59 * B ≤ 2 ^ 59 * 2 ^ 53 := Nat.mul_le_mul_left _ (by rw [show (2 : Nat) ^ 53 = 9007199254740992 by decide]; omega)
        rw [← Nat.pow_add] at h2
        have h3 : 2 ^ (59 + 53) ≤ 2 ^ t := Nat.pow_le_pow_right (by decide) (by omega)
        exact Nat.le_trans h2 (Nat.le_trans h3 (low t))
      omega
    rw [show (2 : Nat) ^ 59 = 576460752303423488 by decide] at hq60
    have st := div_step hb0 hq hr
    rw [show 2 * (A * 2 ^ t) = A * 2 ^ (t + 1) by rw [Nat.pow_succ, Nat.mul_left_comm, Nat.mul_comm 2 (2 ^ t)]] at st
    have wr : IntKind.u64.wrap (2 * (r : Int)) = 2 * (r : Int) := wrap_u64 (by omega) (by omega)
    have wq : IntKind.u64.wrap (2 * (q : Int)) = 2 * (q : Int) := wrap_u64 (by omega) (by omega)
    by_cases d : B ≤ 2 * r
    · have d' : (B : Int) ≤ 2 * (r : Int) := by omega
      rw [if_pos d, if_pos d] at st
      have e1 : IntKind.u64.wrap (2 * (r : Int) - (B : Int)) = ((2 * r - B : Nat) : Int) := by rw [wrap_u64 (by omega) (by omega)]; omega
      have e2 : IntKind.u64.wrap (2 * (q : Int) + 1) = ((2 * q + 1 : Nat) : Int) := by rw [wrap_u64 (by omega) (by omega)]; omega
      have e3 : ae - be - (t : Int) - 1 = ae - be - ((t + 1 : Nat) : Int) := by omega
      simp (disch := first | omega | assumption) only [C.k_div_gos, T.tv, ↓reduceIte, Nat.reduceEqDiff, reduceCtorEq, Nat.reduceLeDiff, Nat.reducePow, Int.reducePow, Int.reduceToNat, Nat.reduceAdd, vf, b3, c', d', wr, wq, e1, e2, e3]
      exact ⟨200 - (t + 1), by omega, t + 1, _, _, rfl, by omega, st.1.symm, st.2.symm, by omega, by first | rfl | simp⟩
    · have d' : ¬ (B : Int) ≤ 2 * (r : Int) := by omega
      rw [if_neg d, if_neg d] at st
      have e1 : 2 * (r : Int) = ((2 * r : Nat) : Int) := by omega
      have e2 : 2 * (q : Int) = ((2 * q : Nat) : Int) := by omega
      have e3 : ae - be - (t : Int) - 1 = ae - be - ((t + 1 : Nat) : Int) := by omega
      rw [e1] at wr d'
      rw [e2] at wq
      simp (disch := first | omega | assumption) only [C.k_div_gos, T.tv, ↓reduceIte, Nat.reduceEqDiff, reduceCtorEq, Nat.reduceLeDiff, Nat.reducePow, Int.reducePow, Int.reduceToNat, Nat.reduceAdd, vf, b3, c', d', wr, wq, e1, e2, e3]
      exact ⟨200 - (t + 1), by omega, t + 1, _, _, rfl, by omega, st.1.symm, st.2.symm, by omega, by first | rfl | simp⟩
  · have c' : ¬ ((len q : Nat) : Int) < 60 := by omega
    have hq59 : 2 ^ 59 ≤ q := by
      have hq0 : q ≠ 0 := by intro h0; rw [h0] at c; exact c (by decide)
      have h1 := len_le hq0
      have h2 : 2 ^ 59 ≤ 2 ^ (len q - 1) := Nat.pow_le_pow_right (by decide) (by omega)
      omega
    rw [same t (by rw [← hq]; exact hq59), ← hq, ← hr]
    have dr : decide ((0 : Int) < (r : Int)) = decide (r ≠ 0) := decide_eq_decide.2 (by omega)
    simp (disch := first | omega | assumption) only [C.k_div_gos, T.tv, ↓reduceIte, Nat.reduceEqDiff, reduceCtorEq, Nat.reduceLeDiff, Nat.reducePow, Int.reducePow, Int.reduceToNat, Nat.reduceAdd, vf, lk, c', dr]
    refine eff_callF rfl ((close _ _ _ _ (by omega) (by omega)).mono ?_)
    rintro v1 hw ⟨hx1, rfl⟩
    simp (disch := first | omega | assumption) only [C.k_div_gos, T.tv, ↓reduceIte, Nat.reduceEqDiff, reduceCtorEq, Nat.reduceLeDiff, Nat.reducePow, Int.reducePow, Int.reduceToNat, Nat.reduceAdd]
    first | exact E.trans hx1 | exact ⟨E.trans hx1, rfl⟩
set_option maxHeartbeats 1000000 in
theorem div_any {h : Heap} {m e : Nat} {a b : Nm} (hk : Kd m e) (ha : a.m < 9007199254740992) (hb : b.m < 9007199254740992) (hae : -10000 ≤ a.e ∧ a.e ≤ 10000) (hbe : -10000 ≤ b.e ∧ b.e ≤ 10000) :
    HCalls Try.prog 30 #[kV m e, nV a, nV b] h fun v h' => Ext h h' ∧ v = .int .u64 ((divP (fmt m e) 120 a b : Nat) : Int) := by
  refine C.k_div_calls (args := [kV m e, nV a, nV b]) rfl ?_
  simp (disch := first | omega | assumption) only [C.k_div_gos, T.tv, ↓reduceIte, Nat.reduceEqDiff, reduceCtorEq, Nat.reduceLeDiff, Nat.reducePow, Int.reducePow, Int.reduceToNat, Nat.reduceAdd]
  refine eff_box ?_
  have H := KB.push h m e
  have E := Ext.push h (.cells #[.int .i64 (m : Int), .int .i64 (e : Int)] 35)
  simp (disch := first | omega | assumption) only [C.k_div_gos, T.tv, ↓reduceIte, Nat.reduceEqDiff, reduceCtorEq, Nat.reduceLeDiff, Nat.reducePow, Int.reducePow, Int.reduceToNat, Nat.reduceAdd, Nat.zero_add]
  generalize h.push (.cells #[.int .i64 (m : Int), .int .i64 (e : Int)] 35) = h1 at *
  generalize h.size = g3 at *
  refine eff_box ?_
  have HA := NB.push h1 a
  have E1 := Ext.push h1 (.cells (nC a) 52)
  simp (disch := first | omega | assumption) only [C.k_div_gos, T.tv, ↓reduceIte, Nat.reduceEqDiff, reduceCtorEq, Nat.reduceLeDiff, Nat.reducePow, Int.reducePow, Int.reduceToNat, Nat.reduceAdd, Nat.zero_add]
  generalize h1.push (.cells (nC a) 52) = h2 at *
  generalize h1.size = g4 at *
  replace H := H.ext E1
  replace E := E.trans E1
  refine eff_box ?_
  have HB := NB.push h2 b
  have E2 := Ext.push h2 (.cells (nC b) 52)
  simp (disch := first | omega | assumption) only [C.k_div_gos, T.tv, ↓reduceIte, Nat.reduceEqDiff, reduceCtorEq, Nat.reduceLeDiff, Nat.reducePow, Int.reducePow, Int.reduceToNat, Nat.reduceAdd, Nat.zero_add]
  generalize h2.push (.cells (nC b) 52) = h3 at *
  generalize h2.size = g5 at *
  replace H := H.ext E2
  replace HA := HA.ext E2
  replace E := E.trans E2
  clear E1 E2
  have lk := H.ld
  have a0 := HA.c0
  have a1 := HA.c1
  have a2 := HA.c2
  have a3 := HA.c3
  have a4 := HA.c4
  have b0 := HB.c0
  have b1 := HB.c1
  have b2 := HB.c2
  have b3 := HB.c3
  have b4 := HB.c4
  obtain ⟨an, ai, sa, am, ae⟩ := a
  obtain ⟨bn, bi, sb, bm, be⟩ := b
  simp only at a0 a1 a2 a3 a4 b0 b1 b2 b3 b4 ha hb hae hbe
  obtain ⟨R, hR⟩ : ∃ R, R = divP (fmt m e) 120 ⟨an, ai, sa, am, ae⟩ ⟨bn, bi, sb, bm, be⟩ := ⟨_, rfl⟩
  rw [← hR]
  unfold divP at hR
  simp only at hR
  have hneg : decide (sa ≠ sb) = (sa != sb) := by cases sa <;> cases sb <;> rfl
  generalize hng : (sa != sb) = ng at *
  have aZ : decide ((am : Int) = 0) = decide (am = 0) := decide_eq_decide.2 (by omega)
  have bZ : decide ((bm : Int) = 0) = decide (bm = 0) := decide_eq_decide.2 (by omega)
  cases an
  case true =>
    rw [if_pos (by simp)] at hR
    subst hR
    by_cases az : am = 0
    all_goals
      by_cases bz : bm = 0
      all_goals
        cases ai
        all_goals
          cases bi
          all_goals
            have az1 : (am : Int) = 0 ∨ ¬ (am : Int) = 0 := by omega
            simp (disch := first | omega | assumption) only [C.k_div_gos, T.tv, ↓reduceIte, Nat.reduceEqDiff, reduceCtorEq, Nat.reduceLeDiff, Nat.reducePow, Int.reducePow, Int.reduceToNat, Nat.reduceAdd, va, vf, lk, a0, b0, a1, b1, a2, b2, a3, b3, a4, b4, hneg]
            refine eff_callF rfl ((nan_any' hk).mono ?_)
            rintro v1 hz ⟨hx1, rfl⟩
            simp (disch := first | omega | assumption) only [C.k_div_gos, T.tv, ↓reduceIte, Nat.reduceEqDiff, reduceCtorEq, Nat.reduceLeDiff, Nat.reducePow, Int.reducePow, Int.reduceToNat, Nat.reduceAdd]
            first | exact E.trans hx1 | exact ⟨E.trans hx1, rfl⟩
  cases bn
  case true =>
    rw [if_pos (by simp)] at hR
    subst hR
    by_cases az : am = 0
    all_goals
      by_cases bz : bm = 0
      all_goals
        cases ai
        all_goals
          cases bi
          all_goals
            have az1 : (am : Int) = 0 ∨ ¬ (am : Int) = 0 := by omega
            simp (disch := first | omega | assumption) only [C.k_div_gos, T.tv, ↓reduceIte, Nat.reduceEqDiff, reduceCtorEq, Nat.reduceLeDiff, Nat.reducePow, Int.reducePow, Int.reduceToNat, Nat.reduceAdd, va, vf, lk, a0, b0, a1, b1, a2, b2, a3, b3, a4, b4, hneg]
            refine eff_callF rfl ((nan_any' hk).mono ?_)
            rintro v1 hz ⟨hx1, rfl⟩
            simp (disch := first | omega | assumption) only [C.k_div_gos, T.tv, ↓reduceIte, Nat.reduceEqDiff, reduceCtorEq, Nat.reduceLeDiff, Nat.reducePow, Int.reducePow, Int.reduceToNat, Nat.reduceAdd]
            first | exact E.trans hx1 | exact ⟨E.trans hx1, rfl⟩
  by_cases az : am = 0
  · have az1 : (am : Int) = 0 := by omega
    have dz : decide (am = 0) = true := decide_eq_true az
    by_cases bz : bm = 0
    · have bz1 : (bm : Int) = 0 := by omega
      have ez : decide (bm = 0) = true := decide_eq_true bz
      cases ai
      case false =>
        cases bi
        case false =>
          simp only [dz, ez, Bool.not_true, Bool.not_false, Bool.and_true, Bool.and_false, Bool.true_and, Bool.false_and, Bool.or_true, Bool.or_false, Bool.true_or, Bool.false_or, Bool.false_eq_true, if_true, if_false] at hR
          subst hR
          simp (disch := first | omega | assumption) only [C.k_div_gos, T.tv, ↓reduceIte, Nat.reduceEqDiff, reduceCtorEq, Nat.reduceLeDiff, Nat.reducePow, Int.reducePow, Int.reduceToNat, Nat.reduceAdd, vf, lk, a0, b0, a1, b1, a2, b2, a3, b3, a4, b4, hneg, eq_true az1, eq_true bz1]
          refine eff_callF rfl ((nan_any' hk).mono ?_)
          rintro v1 hz ⟨hx1, rfl⟩
          simp (disch := first | omega | assumption) only [C.k_div_gos, T.tv, ↓reduceIte, Nat.reduceEqDiff, reduceCtorEq, Nat.reduceLeDiff, Nat.reducePow, Int.reducePow, Int.reduceToNat, Nat.reduceAdd]
          first | exact E.trans hx1 | exact ⟨E.trans hx1, rfl⟩
        case true =>
          simp only [dz, ez, Bool.not_true, Bool.not_false, Bool.and_true, Bool.and_false, Bool.true_and, Bool.false_and, Bool.or_true, Bool.or_false, Bool.true_or, Bool.false_or, Bool.false_eq_true, if_true, if_false] at hR
          subst hR
          simp (disch := first | omega | assumption) only [C.k_div_gos, T.tv, ↓reduceIte, Nat.reduceEqDiff, reduceCtorEq, Nat.reduceLeDiff, Nat.reducePow, Int.reducePow, Int.reduceToNat, Nat.reduceAdd, vf, lk, a0, b0, a1, b1, a2, b2, a3, b3, a4, b4, hneg, eq_true az1, eq_true bz1]
          refine eff_callF rfl ((sign_any _ hk).mono ?_)
          rintro v1 hz ⟨hx1, rfl⟩
          simp (disch := first | omega | assumption) only [C.k_div_gos, T.tv, ↓reduceIte, Nat.reduceEqDiff, reduceCtorEq, Nat.reduceLeDiff, Nat.reducePow, Int.reducePow, Int.reduceToNat, Nat.reduceAdd]
          first | exact E.trans hx1 | exact ⟨E.trans hx1, rfl⟩
      case true =>
        cases bi
        case false =>
          simp only [dz, ez, Bool.not_true, Bool.not_false, Bool.and_true, Bool.and_false, Bool.true_and, Bool.false_and, Bool.or_true, Bool.or_false, Bool.true_or, Bool.false_or, Bool.false_eq_true, if_true, if_false] at hR
          subst hR
          simp (disch := first | omega | assumption) only [C.k_div_gos, T.tv, ↓reduceIte, Nat.reduceEqDiff, reduceCtorEq, Nat.reduceLeDiff, Nat.reducePow, Int.reducePow, Int.reduceToNat, Nat.reduceAdd, vf, lk, a0, b0, a1, b1, a2, b2, a3, b3, a4, b4, hneg, eq_true az1, eq_true bz1]
          refine eff_callF rfl ((inf_any _ hk).mono ?_)
          rintro v1 hz ⟨hx1, rfl⟩
          simp (disch := first | omega | assumption) only [C.k_div_gos, T.tv, ↓reduceIte, Nat.reduceEqDiff, reduceCtorEq, Nat.reduceLeDiff, Nat.reducePow, Int.reducePow, Int.reduceToNat, Nat.reduceAdd]
          first | exact E.trans hx1 | exact ⟨E.trans hx1, rfl⟩
        case true =>
          simp only [dz, ez, Bool.not_true, Bool.not_false, Bool.and_true, Bool.and_false, Bool.true_and, Bool.false_and, Bool.or_true, Bool.or_false, Bool.true_or, Bool.false_or, Bool.false_eq_true, if_true, if_false] at hR
          subst hR
          simp (disch := first | omega | assumption) only [C.k_div_gos, T.tv, ↓reduceIte, Nat.reduceEqDiff, reduceCtorEq, Nat.reduceLeDiff, Nat.reducePow, Int.reducePow, Int.reduceToNat, Nat.reduceAdd, vf, lk, a0, b0, a1, b1, a2, b2, a3, b3, a4, b4, hneg, eq_true az1, eq_true bz1]
          refine eff_callF rfl ((nan_any' hk).mono ?_)
          rintro v1 hz ⟨hx1, rfl⟩
          simp (disch := first | omega | assumption) only [C.k_div_gos, T.tv, ↓reduceIte, Nat.reduceEqDiff, reduceCtorEq, Nat.reduceLeDiff, Nat.reducePow, Int.reducePow, Int.reduceToNat, Nat.reduceAdd]
          first | exact E.trans hx1 | exact ⟨E.trans hx1, rfl⟩
    · have bz1 : ¬ (bm : Int) = 0 := by omega
      have ez : decide (bm = 0) = false := decide_eq_false bz
      cases ai
      case false =>
        cases bi
        case false =>
          simp only [dz, ez, Bool.not_true, Bool.not_false, Bool.and_true, Bool.and_false, Bool.true_and, Bool.false_and, Bool.or_true, Bool.or_false, Bool.true_or, Bool.false_or, Bool.false_eq_true, if_true, if_false] at hR
          subst hR
          simp (disch := first | omega | assumption) only [C.k_div_gos, T.tv, ↓reduceIte, Nat.reduceEqDiff, reduceCtorEq, Nat.reduceLeDiff, Nat.reducePow, Int.reducePow, Int.reduceToNat, Nat.reduceAdd, vf, lk, a0, b0, a1, b1, a2, b2, a3, b3, a4, b4, hneg, eq_true az1, bz1]
          refine eff_callF rfl ((sign_any _ hk).mono ?_)
          rintro v1 hz ⟨hx1, rfl⟩
          simp (disch := first | omega | assumption) only [C.k_div_gos, T.tv, ↓reduceIte, Nat.reduceEqDiff, reduceCtorEq, Nat.reduceLeDiff, Nat.reducePow, Int.reducePow, Int.reduceToNat, Nat.reduceAdd]
          first | exact E.trans hx1 | exact ⟨E.trans hx1, rfl⟩
        case true =>
          simp only [dz, ez, Bool.not_true, Bool.not_false, Bool.and_true, Bool.and_false, Bool.true_and, Bool.false_and, Bool.or_true, Bool.or_false, Bool.true_or, Bool.false_or, Bool.false_eq_true, if_true, if_false] at hR
          subst hR
          simp (disch := first | omega | assumption) only [C.k_div_gos, T.tv, ↓reduceIte, Nat.reduceEqDiff, reduceCtorEq, Nat.reduceLeDiff, Nat.reducePow, Int.reducePow, Int.reduceToNat, Nat.reduceAdd, vf, lk, a0, b0, a1, b1, a2, b2, a3, b3, a4, b4, hneg, eq_true az1, bz1]
          refine eff_callF rfl ((sign_any _ hk).mono ?_)
          rintro v1 hz ⟨hx1, rfl⟩
          simp (disch := first | omega | assumption) only [C.k_div_gos, T.tv, ↓reduceIte, Nat.reduceEqDiff, reduceCtorEq, Nat.reduceLeDiff, Nat.reducePow, Int.reducePow, Int.reduceToNat, Nat.reduceAdd]
          first | exact E.trans hx1 | exact ⟨E.trans hx1, rfl⟩
      case true =>
        cases bi
        case false =>
          simp only [dz, ez, Bool.not_true, Bool.not_false, Bool.and_true, Bool.and_false, Bool.true_and, Bool.false_and, Bool.or_true, Bool.or_false, Bool.true_or, Bool.false_or, Bool.false_eq_true, if_true, if_false] at hR
          subst hR
          simp (disch := first | omega | assumption) only [C.k_div_gos, T.tv, ↓reduceIte, Nat.reduceEqDiff, reduceCtorEq, Nat.reduceLeDiff, Nat.reducePow, Int.reducePow, Int.reduceToNat, Nat.reduceAdd, vf, lk, a0, b0, a1, b1, a2, b2, a3, b3, a4, b4, hneg, eq_true az1, bz1]
          refine eff_callF rfl ((inf_any _ hk).mono ?_)
          rintro v1 hz ⟨hx1, rfl⟩
          simp (disch := first | omega | assumption) only [C.k_div_gos, T.tv, ↓reduceIte, Nat.reduceEqDiff, reduceCtorEq, Nat.reduceLeDiff, Nat.reducePow, Int.reducePow, Int.reduceToNat, Nat.reduceAdd]
          first | exact E.trans hx1 | exact ⟨E.trans hx1, rfl⟩
        case true =>
          simp only [dz, ez, Bool.not_true, Bool.not_false, Bool.and_true, Bool.and_false, Bool.true_and, Bool.false_and, Bool.or_true, Bool.or_false, Bool.true_or, Bool.false_or, Bool.false_eq_true, if_true, if_false] at hR
          subst hR
          simp (disch := first | omega | assumption) only [C.k_div_gos, T.tv, ↓reduceIte, Nat.reduceEqDiff, reduceCtorEq, Nat.reduceLeDiff, Nat.reducePow, Int.reducePow, Int.reduceToNat, Nat.reduceAdd, vf, lk, a0, b0, a1, b1, a2, b2, a3, b3, a4, b4, hneg, eq_true az1, bz1]
          refine eff_callF rfl ((nan_any' hk).mono ?_)
          rintro v1 hz ⟨hx1, rfl⟩
          simp (disch := first | omega | assumption) only [C.k_div_gos, T.tv, ↓reduceIte, Nat.reduceEqDiff, reduceCtorEq, Nat.reduceLeDiff, Nat.reducePow, Int.reducePow, Int.reduceToNat, Nat.reduceAdd]
          first | exact E.trans hx1 | exact ⟨E.trans hx1, rfl⟩
  · have az1 : ¬ (am : Int) = 0 := by omega
    have dz : decide (am = 0) = false := decide_eq_false az
    by_cases bz : bm = 0
    · have bz1 : (bm : Int) = 0 := by omega
      have ez : decide (bm = 0) = true := decide_eq_true bz
      cases ai
      case false =>
        cases bi
        case false =>
          simp only [dz, ez, Bool.not_true, Bool.not_false, Bool.and_true, Bool.and_false, Bool.true_and, Bool.false_and, Bool.or_true, Bool.or_false, Bool.true_or, Bool.false_or, Bool.false_eq_true, if_true, if_false] at hR
          subst hR
          simp (disch := first | omega | assumption) only [C.k_div_gos, T.tv, ↓reduceIte, Nat.reduceEqDiff, reduceCtorEq, Nat.reduceLeDiff, Nat.reducePow, Int.reducePow, Int.reduceToNat, Nat.reduceAdd, vf, lk, a0, b0, a1, b1, a2, b2, a3, b3, a4, b4, hneg, az1, eq_true bz1]
          refine eff_callF rfl ((inf_any _ hk).mono ?_)
          rintro v1 hz ⟨hx1, rfl⟩
          simp (disch := first | omega | assumption) only [C.k_div_gos, T.tv, ↓reduceIte, Nat.reduceEqDiff, reduceCtorEq, Nat.reduceLeDiff, Nat.reducePow, Int.reducePow, Int.reduceToNat, Nat.reduceAdd]
          first | exact E.trans hx1 | exact ⟨E.trans hx1, rfl⟩
        case true =>
          simp only [dz, ez, Bool.not_true, Bool.not_false, Bool.and_true, Bool.and_false, Bool.true_and, Bool.false_and, Bool.or_true, Bool.or_false, Bool.true_or, Bool.false_or, Bool.false_eq_true, if_true, if_false] at hR
          subst hR
          simp (disch := first | omega | assumption) only [C.k_div_gos, T.tv, ↓reduceIte, Nat.reduceEqDiff, reduceCtorEq, Nat.reduceLeDiff, Nat.reducePow, Int.reducePow, Int.reduceToNat, Nat.reduceAdd, vf, lk, a0, b0, a1, b1, a2, b2, a3, b3, a4, b4, hneg, az1, eq_true bz1]
          refine eff_callF rfl ((sign_any _ hk).mono ?_)
          rintro v1 hz ⟨hx1, rfl⟩
          simp (disch := first | omega | assumption) only [C.k_div_gos, T.tv, ↓reduceIte, Nat.reduceEqDiff, reduceCtorEq, Nat.reduceLeDiff, Nat.reducePow, Int.reducePow, Int.reduceToNat, Nat.reduceAdd]
          first | exact E.trans hx1 | exact ⟨E.trans hx1, rfl⟩
      case true =>
        cases bi
        case false =>
          simp only [dz, ez, Bool.not_true, Bool.not_false, Bool.and_true, Bool.and_false, Bool.true_and, Bool.false_and, Bool.or_true, Bool.or_false, Bool.true_or, Bool.false_or, Bool.false_eq_true, if_true, if_false] at hR
          subst hR
          simp (disch := first | omega | assumption) only [C.k_div_gos, T.tv, ↓reduceIte, Nat.reduceEqDiff, reduceCtorEq, Nat.reduceLeDiff, Nat.reducePow, Int.reducePow, Int.reduceToNat, Nat.reduceAdd, vf, lk, a0, b0, a1, b1, a2, b2, a3, b3, a4, b4, hneg, az1, eq_true bz1]
          refine eff_callF rfl ((inf_any _ hk).mono ?_)
          rintro v1 hz ⟨hx1, rfl⟩
          simp (disch := first | omega | assumption) only [C.k_div_gos, T.tv, ↓reduceIte, Nat.reduceEqDiff, reduceCtorEq, Nat.reduceLeDiff, Nat.reducePow, Int.reducePow, Int.reduceToNat, Nat.reduceAdd]
          first | exact E.trans hx1 | exact ⟨E.trans hx1, rfl⟩
        case true =>
          simp only [dz, ez, Bool.not_true, Bool.not_false, Bool.and_true, Bool.and_false, Bool.true_and, Bool.false_and, Bool.or_true, Bool.or_false, Bool.true_or, Bool.false_or, Bool.false_eq_true, if_true, if_false] at hR
          subst hR
          simp (disch := first | omega | assumption) only [C.k_div_gos, T.tv, ↓reduceIte, Nat.reduceEqDiff, reduceCtorEq, Nat.reduceLeDiff, Nat.reducePow, Int.reducePow, Int.reduceToNat, Nat.reduceAdd, vf, lk, a0, b0, a1, b1, a2, b2, a3, b3, a4, b4, hneg, az1, eq_true bz1]
          refine eff_callF rfl ((nan_any' hk).mono ?_)
          rintro v1 hz ⟨hx1, rfl⟩
          simp (disch := first | omega | assumption) only [C.k_div_gos, T.tv, ↓reduceIte, Nat.reduceEqDiff, reduceCtorEq, Nat.reduceLeDiff, Nat.reducePow, Int.reducePow, Int.reduceToNat, Nat.reduceAdd]
          first | exact E.trans hx1 | exact ⟨E.trans hx1, rfl⟩
    · have bz1 : ¬ (bm : Int) = 0 := by omega
      have ez : decide (bm = 0) = false := decide_eq_false bz
      cases ai
      case false =>
        cases bi
        case false =>
          simp only [dz, ez, Bool.not_true, Bool.not_false, Bool.and_true, Bool.and_false, Bool.true_and, Bool.false_and, Bool.or_true, Bool.or_false, Bool.true_or, Bool.false_or, Bool.false_eq_true, if_true, if_false] at hR
          simp (disch := first | omega | assumption) only [C.k_div_gos, T.tv, ↓reduceIte, Nat.reduceEqDiff, reduceCtorEq, Nat.reduceLeDiff, Nat.reducePow, Int.reducePow, Int.reduceToNat, Nat.reduceAdd, vf, lk, a0, b0, a1, b1, a2, b2, a3, b3, a4, b4, hneg, az1, bz1]
          rw [hR]
          exact div_fin (a := ⟨false, false, sa, am, ae⟩) (b := ⟨false, false, sb, bm, be⟩) hk E H HA HB (Nat.pos_of_ne_zero az) (Nat.pos_of_ne_zero bz) ha hb hae hbe
        case true =>
          simp only [dz, ez, Bool.not_true, Bool.not_false, Bool.and_true, Bool.and_false, Bool.true_and, Bool.false_and, Bool.or_true, Bool.or_false, Bool.true_or, Bool.false_or, Bool.false_eq_true, if_true, if_false] at hR
          subst hR
          simp (disch := first | omega | assumption) only [C.k_div_gos, T.tv, ↓reduceIte, Nat.reduceEqDiff, reduceCtorEq, Nat.reduceLeDiff, Nat.reducePow, Int.reducePow, Int.reduceToNat, Nat.reduceAdd, vf, lk, a0, b0, a1, b1, a2, b2, a3, b3, a4, b4, hneg, az1, bz1]
          refine eff_callF rfl ((sign_any _ hk).mono ?_)
          rintro v1 hz ⟨hx1, rfl⟩
          simp (disch := first | omega | assumption) only [C.k_div_gos, T.tv, ↓reduceIte, Nat.reduceEqDiff, reduceCtorEq, Nat.reduceLeDiff, Nat.reducePow, Int.reducePow, Int.reduceToNat, Nat.reduceAdd]
          first | exact E.trans hx1 | exact ⟨E.trans hx1, rfl⟩
      case true =>
        cases bi
        case false =>
          simp only [dz, ez, Bool.not_true, Bool.not_false, Bool.and_true, Bool.and_false, Bool.true_and, Bool.false_and, Bool.or_true, Bool.or_false, Bool.true_or, Bool.false_or, Bool.false_eq_true, if_true, if_false] at hR
          subst hR
          simp (disch := first | omega | assumption) only [C.k_div_gos, T.tv, ↓reduceIte, Nat.reduceEqDiff, reduceCtorEq, Nat.reduceLeDiff, Nat.reducePow, Int.reducePow, Int.reduceToNat, Nat.reduceAdd, vf, lk, a0, b0, a1, b1, a2, b2, a3, b3, a4, b4, hneg, az1, bz1]
          refine eff_callF rfl ((inf_any _ hk).mono ?_)
          rintro v1 hz ⟨hx1, rfl⟩
          simp (disch := first | omega | assumption) only [C.k_div_gos, T.tv, ↓reduceIte, Nat.reduceEqDiff, reduceCtorEq, Nat.reduceLeDiff, Nat.reducePow, Int.reducePow, Int.reduceToNat, Nat.reduceAdd]
          first | exact E.trans hx1 | exact ⟨E.trans hx1, rfl⟩
        case true =>
          simp only [dz, ez, Bool.not_true, Bool.not_false, Bool.and_true, Bool.and_false, Bool.true_and, Bool.false_and, Bool.or_true, Bool.or_false, Bool.true_or, Bool.false_or, Bool.false_eq_true, if_true, if_false] at hR
          subst hR
          simp (disch := first | omega | assumption) only [C.k_div_gos, T.tv, ↓reduceIte, Nat.reduceEqDiff, reduceCtorEq, Nat.reduceLeDiff, Nat.reducePow, Int.reducePow, Int.reduceToNat, Nat.reduceAdd, vf, lk, a0, b0, a1, b1, a2, b2, a3, b3, a4, b4, hneg, az1, bz1]
          refine eff_callF rfl ((nan_any' hk).mono ?_)
          rintro v1 hz ⟨hx1, rfl⟩
          simp (disch := first | omega | assumption) only [C.k_div_gos, T.tv, ↓reduceIte, Nat.reduceEqDiff, reduceCtorEq, Nat.reduceLeDiff, Nat.reducePow, Int.reducePow, Int.reduceToNat, Nat.reduceAdd]
          first | exact E.trans hx1 | exact ⟨E.trans hx1, rfl⟩
end Go.Proofs.Ytedleaeohbjfnaa
