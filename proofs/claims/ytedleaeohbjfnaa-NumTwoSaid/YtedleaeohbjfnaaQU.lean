/- The reference's rest. No condition. -/
import Derived.Test.YtedleaeohbjfnaaQN
import Derived.Test.YtedleaeohbjfnaaQL
namespace Go.Proofs.Ytedleaeohbjfnaa
open Go.Vc Go.Num
set_option maxRecDepth 100000
set_option linter.unusedSimpArgs false
set_option linter.unusedVariables false

set_option maxHeartbeats 1000000 in
theorem rem_fin {h0 h : Heap} {m e g3 g4 g5 : Nat} {a b : Nm} {v0 v1 v2 u28 u44 u64 : Value} (hk : Kd m e) (E : Ext h0 h) (H : KB h g3 m e) (HA : NB h g4 a) (HB : NB h g5 b)
    (hb0 : 0 < b.m) (ha : a.m < 9007199254740992) (hb : b.m < 9007199254740992) (hae : -10000 ≤ a.e ∧ a.e ≤ 10000) (hbe : -10000 ≤ b.e ∧ b.e ≤ 10000) (hle : b.e ≤ a.e) :
    Cd.vc Try.prog C.k_rem_t0 (retQ Try.prog [(6, none)] fun v h' => Ext h0 h' ∧ v = .int .u64 ((closeP (fmt m e) a.neg (a.m * 2 ^ (a.e - b.e).toNat % b.m) b.e false : Nat) : Int))
      [(0, v0), (1, v1), (2, v2), (3, .pointer (some ⟨g3, 0, none⟩)), (4, .pointer (some ⟨g4, 0, none⟩)), (5, .pointer (some ⟨g5, 0, none⟩)), (6, .int .u64 0), (7, undef), (8, undef), (28, u28), (44, u44), (64, u64)] h := by
  rw [C.k_rem_t0_go]
  have lk := H.ld
  have a2 := HA.c2
  have a3 := HA.c3
  have a4 := HA.c4
  have b3 := HB.c3
  have b4 := HB.c4
  generalize a.e = ae at *
  generalize b.e = be at *
  generalize a.m = A at *
  generalize b.m = B at *
  generalize a.neg = ng at *
  obtain ⟨N, hN⟩ : ∃ N, N = (ae - be).toNat := ⟨_, rfl⟩
  rw [← hN]
  have hd : ae - be = (N : Int) := by omega
  have hr0 := Nat.mod_lt A hb0
  obtain ⟨r0, hr0e⟩ : ∃ r, r = A % B := ⟨_, rfl⟩
  have t2 : (A : Int) % (B : Int) = (r0 : Int) := by rw [hr0e, Int.natCast_emod]
  rw [← hr0e] at hr0
  have nb : ¬ (B : Int) = 0 := by omega
  have close := fun (h' : Heap) (st : Bool) (x : Nat) (p : Int) (hx : x < 18446744073709551616) (hp : -100000 ≤ p ∧ p ≤ 100000) => close_any (h := h') (neg := ng) (st := st) hk hx hp
  simp (disch := first | omega | assumption) only [C.k_rem_gos, T.tv, ↓reduceIte, Nat.reduceEqDiff, reduceCtorEq, Nat.reduceLeDiff, Nat.reducePow, Int.reducePow, Int.reduceToNat, Nat.reduceAdd, vf, a3, a4, b3, b4, t2, ne_eq, nb, hd]
  refine loop_intro [3, 4, 5, 6, 7, 8] (fun k ρ hc => ∃ n r : Nat, k = n ∧ n ≤ N ∧ r = A * 2 ^ (N - n) % B ∧
    ρ = [(3, .pointer (some ⟨g3, 0, none⟩)), (4, .pointer (some ⟨g4, 0, none⟩)), (5, .pointer (some ⟨g5, 0, none⟩)), (6, .int .u64 0), (7, .int .u64 (r : Int)), (8, .int .i64 (n : Int))] ∧ hc = h) ?_ ?_
  · simp (disch := first | omega | assumption) only [C.k_rem_gos, T.tv, ↓reduceIte, Nat.reduceEqDiff, reduceCtorEq, Nat.reduceLeDiff, Nat.reducePow, Int.reducePow, Int.reduceToNat, Nat.reduceAdd]
    exact ⟨_, N, r0, rfl, Nat.le_refl _, by rw [Nat.sub_self, Nat.pow_zero, Nat.mul_one]; exact hr0e, by first | rfl | simp⟩
  rintro k ρ hc ⟨n, r, rfl, hn, hr, rfl, rfl⟩
  have hrB : r < B := by rw [hr]; exact Nat.mod_lt _ hb0
  by_cases c : 0 < k
  · have c' : (0 : Int) < (k : Int) := by omega
    have wr : IntKind.u64.wrap (2 * (r : Int)) = 2 * (r : Int) := wrap_u64 (by omega) (by omega)
    obtain ⟨r1, hr1⟩ : ∃ r1, r1 = 2 * r % B := ⟨_, rfl⟩
    have e1 : 2 * (r : Int) % (B : Int) = (r1 : Int) := by rw [hr1, Int.natCast_emod, Int.natCast_mul]; rfl
    have e2 : (k : Int) - 1 = ((k - 1 : Nat) : Int) := by omega
    have e3 : r1 = A * 2 ^ (N - (k - 1)) % B := by
      rw [hr1, hr, show N - (k - 1) = (N - k) + 1 by omega, Nat.pow_succ, ← Nat.mul_assoc, Nat.mul_comm _ 2, Nat.mul_mod_mod]
    simp (disch := first | omega | assumption) only [C.k_rem_gos, T.tv, ↓reduceIte, Nat.reduceEqDiff, reduceCtorEq, Nat.reduceLeDiff, Nat.reducePow, Int.reducePow, Int.reduceToNat, Nat.reduceAdd, vf, b3, c', wr, e1, e2, ne_eq, nb]
    exact ⟨k - 1, by omega, k - 1, r1, rfl, by omega, e3, by first | rfl | simp⟩
  · have c' : ¬ (0 : Int) < (k : Int) := by omega
    have hk0 : k = 0 := by omega
    subst hk0
    rw [Nat.sub_zero] at hr
    rw [← hr]
    simp (disch := first | omega | assumption) only [C.k_rem_gos, T.tv, ↓reduceIte, Nat.reduceEqDiff, reduceCtorEq, Nat.reduceLeDiff, Nat.reducePow, Int.reducePow, Int.reduceToNat, Nat.reduceAdd, vf, lk, a2, b4, c']
    refine eff_callF rfl ((close _ _ _ _ (by omega) (by omega)).mono ?_)
    rintro v1 hw ⟨hx1, rfl⟩
    simp (disch := first | omega | assumption) only [C.k_rem_gos, T.tv, ↓reduceIte, Nat.reduceEqDiff, reduceCtorEq, Nat.reduceLeDiff, Nat.reducePow, Int.reducePow, Int.reduceToNat, Nat.reduceAdd]
    first | exact E.trans hx1 | exact ⟨E.trans hx1, rfl⟩
set_option maxHeartbeats 1000000 in
theorem rem_any {h : Heap} {m e : Nat} {a b : Nm} (hk : Kd m e) (ha : a.m < 9007199254740992) (hb : b.m < 9007199254740992) (hae : -10000 ≤ a.e ∧ a.e ≤ 10000) (hbe : -10000 ≤ b.e ∧ b.e ≤ 10000) :
    HCalls Try.prog 31 #[kV m e, nV a, nV b] h fun v h' => Ext h h' ∧ v = .int .u64 ((remP (fmt m e) a b : Nat) : Int) := by
  refine C.k_rem_calls (args := [kV m e, nV a, nV b]) rfl ?_
  simp (disch := first | omega | assumption) only [C.k_rem_gos, T.tv, ↓reduceIte, Nat.reduceEqDiff, reduceCtorEq, Nat.reduceLeDiff, Nat.reducePow, Int.reducePow, Int.reduceToNat, Nat.reduceAdd]
  refine eff_box ?_
  have H := KB.push h m e
  have E := Ext.push h (.cells #[.int .i64 (m : Int), .int .i64 (e : Int)] 35)
  simp (disch := first | omega | assumption) only [C.k_rem_gos, T.tv, ↓reduceIte, Nat.reduceEqDiff, reduceCtorEq, Nat.reduceLeDiff, Nat.reducePow, Int.reducePow, Int.reduceToNat, Nat.reduceAdd, Nat.zero_add]
  generalize h.push (.cells #[.int .i64 (m : Int), .int .i64 (e : Int)] 35) = h1 at *
  generalize h.size = g3 at *
  refine eff_box ?_
  have HA := NB.push h1 a
  have E1 := Ext.push h1 (.cells (nC a) 52)
  simp (disch := first | omega | assumption) only [C.k_rem_gos, T.tv, ↓reduceIte, Nat.reduceEqDiff, reduceCtorEq, Nat.reduceLeDiff, Nat.reducePow, Int.reducePow, Int.reduceToNat, Nat.reduceAdd, Nat.zero_add]
  generalize h1.push (.cells (nC a) 52) = h2 at *
  generalize h1.size = g4 at *
  replace H := H.ext E1
  replace E := E.trans E1
  refine eff_box ?_
  have HB := NB.push h2 b
  have E2 := Ext.push h2 (.cells (nC b) 52)
  simp (disch := first | omega | assumption) only [C.k_rem_gos, T.tv, ↓reduceIte, Nat.reduceEqDiff, reduceCtorEq, Nat.reduceLeDiff, Nat.reducePow, Int.reducePow, Int.reduceToNat, Nat.reduceAdd, Nat.zero_add]
  generalize h2.push (.cells (nC b) 52) = h3 at *
  generalize h2.size = g5 at *
  replace H := H.ext E2
  replace HA := HA.ext E2
  replace E := E.trans E2
  clear E1 E2
  have lk := H.ld
  have a0 := HA.c0
  have a1 := HA.c1
  have a2 := HA.c2
  have a3 := HA.c3
  have a4 := HA.c4
  have b0 := HB.c0
  have b1 := HB.c1
  have b2 := HB.c2
  have b3 := HB.c3
  have b4 := HB.c4
  obtain ⟨an, ai, sa, am, ae⟩ := a
  obtain ⟨bn, bi, sb, bm, be⟩ := b
  simp only at a0 a1 a2 a3 a4 b0 b1 b2 b3 b4 ha hb hae hbe
  obtain ⟨R, hR⟩ : ∃ R, R = remP (fmt m e) ⟨an, ai, sa, am, ae⟩ ⟨bn, bi, sb, bm, be⟩ := ⟨_, rfl⟩
  rw [← hR]
  unfold remP at hR
  simp only at hR
  have aZ : decide ((am : Int) = 0) = decide (am = 0) := decide_eq_decide.2 (by omega)
  have bZ : decide ((bm : Int) = 0) = decide (bm = 0) := decide_eq_decide.2 (by omega)
  cases an
  case true =>
    rw [if_pos (by simp)] at hR
    subst hR
    simp (disch := first | omega | assumption) only [C.k_rem_gos, T.tv, ↓reduceIte, Nat.reduceEqDiff, reduceCtorEq, Nat.reduceLeDiff, Nat.reducePow, Int.reducePow, Int.reduceToNat, Nat.reduceAdd, vf, lk, a0, b0, a1, b1, a2, b2, a3, b3, a4, b4]
    refine eff_callF rfl ((nan_any' hk).mono ?_)
    rintro v1 hz ⟨hx1, rfl⟩
    simp (disch := first | omega | assumption) only [C.k_rem_gos, T.tv, ↓reduceIte, Nat.reduceEqDiff, reduceCtorEq, Nat.reduceLeDiff, Nat.reducePow, Int.reducePow, Int.reduceToNat, Nat.reduceAdd]
    first | exact E.trans hx1 | exact ⟨E.trans hx1, rfl⟩
  cases bn
  case true =>
    rw [if_pos (by simp)] at hR
    subst hR
    simp (disch := first | omega | assumption) only [C.k_rem_gos, T.tv, ↓reduceIte, Nat.reduceEqDiff, reduceCtorEq, Nat.reduceLeDiff, Nat.reducePow, Int.reducePow, Int.reduceToNat, Nat.reduceAdd, vf, lk, a0, b0, a1, b1, a2, b2, a3, b3, a4, b4]
    refine eff_callF rfl ((nan_any' hk).mono ?_)
    rintro v1 hz ⟨hx1, rfl⟩
    simp (disch := first | omega | assumption) only [C.k_rem_gos, T.tv, ↓reduceIte, Nat.reduceEqDiff, reduceCtorEq, Nat.reduceLeDiff, Nat.reducePow, Int.reducePow, Int.reduceToNat, Nat.reduceAdd]
    first | exact E.trans hx1 | exact ⟨E.trans hx1, rfl⟩
  by_cases az : am = 0
  · have az1 : (am : Int) = 0 := by omega
    have dz : decide (am = 0) = true := decide_eq_true az
    by_cases bz : bm = 0
    · have bz1 : (bm : Int) = 0 := by omega
      have ez : decide (bm = 0) = true := decide_eq_true bz
      cases ai
      case false =>
        cases bi
        case false =>
          simp only [dz, ez, Bool.not_true, Bool.not_false, Bool.and_true, Bool.and_false, Bool.true_and, Bool.false_and, Bool.or_true, Bool.or_false, Bool.true_or, Bool.false_or, Bool.false_eq_true, if_true, if_false] at hR
          subst hR
          simp (disch := first | omega | assumption) only [C.k_rem_gos, T.tv, ↓reduceIte, Nat.reduceEqDiff, reduceCtorEq, Nat.reduceLeDiff, Nat.reducePow, Int.reducePow, Int.reduceToNat, Nat.reduceAdd, vf, lk, a0, b0, a1, b1, a2, b2, a3, b3, a4, b4, eq_true az1, eq_true bz1]
          refine eff_callF rfl ((nan_any' hk).mono ?_)
          rintro v1 hz ⟨hx1, rfl⟩
          simp (disch := first | omega | assumption) only [C.k_rem_gos, T.tv, ↓reduceIte, Nat.reduceEqDiff, reduceCtorEq, Nat.reduceLeDiff, Nat.reducePow, Int.reducePow, Int.reduceToNat, Nat.reduceAdd]
          first | exact E.trans hx1 | exact ⟨E.trans hx1, rfl⟩
        case true =>
          simp only [dz, ez, Bool.not_true, Bool.not_false, Bool.and_true, Bool.and_false, Bool.true_and, Bool.false_and, Bool.or_true, Bool.or_false, Bool.true_or, Bool.false_or, Bool.false_eq_true, if_true, if_false] at hR
          subst hR
          have close := close_any (h := h3) (neg := sa) (st := false) (x := am) (p := ae) hk (by omega) (by omega)
          simp (disch := first | omega | assumption) only [C.k_rem_gos, T.tv, ↓reduceIte, Nat.reduceEqDiff, reduceCtorEq, Nat.reduceLeDiff, Nat.reducePow, Int.reducePow, Int.reduceToNat, Nat.reduceAdd, vf, lk, a0, b0, a1, b1, a2, b2, a3, b3, a4, b4, eq_true az1, eq_true bz1]
          refine eff_callF rfl ((close).mono ?_)
          rintro v1 hz ⟨hx1, rfl⟩
          simp (disch := first | omega | assumption) only [C.k_rem_gos, T.tv, ↓reduceIte, Nat.reduceEqDiff, reduceCtorEq, Nat.reduceLeDiff, Nat.reducePow, Int.reducePow, Int.reduceToNat, Nat.reduceAdd]
          first | exact E.trans hx1 | exact ⟨E.trans hx1, rfl⟩
      case true =>
        cases bi
        case false =>
          simp only [dz, ez, Bool.not_true, Bool.not_false, Bool.and_true, Bool.and_false, Bool.true_and, Bool.false_and, Bool.or_true, Bool.or_false, Bool.true_or, Bool.false_or, Bool.false_eq_true, if_true, if_false] at hR
          subst hR
          simp (disch := first | omega | assumption) only [C.k_rem_gos, T.tv, ↓reduceIte, Nat.reduceEqDiff, reduceCtorEq, Nat.reduceLeDiff, Nat.reducePow, Int.reducePow, Int.reduceToNat, Nat.reduceAdd, vf, lk, a0, b0, a1, b1, a2, b2, a3, b3, a4, b4, eq_true az1, eq_true bz1]
          refine eff_callF rfl ((nan_any' hk).mono ?_)
          rintro v1 hz ⟨hx1, rfl⟩
          simp (disch := first | omega | assumption) only [C.k_rem_gos, T.tv, ↓reduceIte, Nat.reduceEqDiff, reduceCtorEq, Nat.reduceLeDiff, Nat.reducePow, Int.reducePow, Int.reduceToNat, Nat.reduceAdd]
          first | exact E.trans hx1 | exact ⟨E.trans hx1, rfl⟩
        case true =>
          simp only [dz, ez, Bool.not_true, Bool.not_false, Bool.and_true, Bool.and_false, Bool.true_and, Bool.false_and, Bool.or_true, Bool.or_false, Bool.true_or, Bool.false_or, Bool.false_eq_true, if_true, if_false] at hR
          subst hR
          simp (disch := first | omega | assumption) only [C.k_rem_gos, T.tv, ↓reduceIte, Nat.reduceEqDiff, reduceCtorEq, Nat.reduceLeDiff, Nat.reducePow, Int.reducePow, Int.reduceToNat, Nat.reduceAdd, vf, lk, a0, b0, a1, b1, a2, b2, a3, b3, a4, b4, eq_true az1, eq_true bz1]
          refine eff_callF rfl ((nan_any' hk).mono ?_)
          rintro v1 hz ⟨hx1, rfl⟩
          simp (disch := first | omega | assumption) only [C.k_rem_gos, T.tv, ↓reduceIte, Nat.reduceEqDiff, reduceCtorEq, Nat.reduceLeDiff, Nat.reducePow, Int.reducePow, Int.reduceToNat, Nat.reduceAdd]
          first | exact E.trans hx1 | exact ⟨E.trans hx1, rfl⟩
    · have bz1 : ¬ (bm : Int) = 0 := by omega
      have ez : decide (bm = 0) = false := decide_eq_false bz
      cases ai
      case false =>
        cases bi
        case false =>
          simp only [dz, ez, Bool.not_true, Bool.not_false, Bool.and_true, Bool.and_false, Bool.true_and, Bool.false_and, Bool.or_true, Bool.or_false, Bool.true_or, Bool.false_or, Bool.false_eq_true, if_true, if_false] at hR
          subst hR
          have close := close_any (h := h3) (neg := sa) (st := false) (x := am) (p := ae) hk (by omega) (by omega)
          simp (disch := first | omega | assumption) only [C.k_rem_gos, T.tv, ↓reduceIte, Nat.reduceEqDiff, reduceCtorEq, Nat.reduceLeDiff, Nat.reducePow, Int.reducePow, Int.reduceToNat, Nat.reduceAdd, vf, lk, a0, b0, a1, b1, a2, b2, a3, b3, a4, b4, eq_true az1, bz1]
          refine eff_callF rfl ((close).mono ?_)
          rintro v1 hz ⟨hx1, rfl⟩
          simp (disch := first | omega | assumption) only [C.k_rem_gos, T.tv, ↓reduceIte, Nat.reduceEqDiff, reduceCtorEq, Nat.reduceLeDiff, Nat.reducePow, Int.reducePow, Int.reduceToNat, Nat.reduceAdd]
          first | exact E.trans hx1 | exact ⟨E.trans hx1, rfl⟩
        case true =>
          simp only [dz, ez, Bool.not_true, Bool.not_false, Bool.and_true, Bool.and_false, Bool.true_and, Bool.false_and, Bool.or_true, Bool.or_false, Bool.true_or, Bool.false_or, Bool.false_eq_true, if_true, if_false] at hR
          subst hR
          have close := close_any (h := h3) (neg := sa) (st := false) (x := am) (p := ae) hk (by omega) (by omega)
          simp (disch := first | omega | assumption) only [C.k_rem_gos, T.tv, ↓reduceIte, Nat.reduceEqDiff, reduceCtorEq, Nat.reduceLeDiff, Nat.reducePow, Int.reducePow, Int.reduceToNat, Nat.reduceAdd, vf, lk, a0, b0, a1, b1, a2, b2, a3, b3, a4, b4, eq_true az1, bz1]
          refine eff_callF rfl ((close).mono ?_)
          rintro v1 hz ⟨hx1, rfl⟩
          simp (disch := first | omega | assumption) only [C.k_rem_gos, T.tv, ↓reduceIte, Nat.reduceEqDiff, reduceCtorEq, Nat.reduceLeDiff, Nat.reducePow, Int.reducePow, Int.reduceToNat, Nat.reduceAdd]
          first | exact E.trans hx1 | exact ⟨E.trans hx1, rfl⟩
      case true =>
        cases bi
        case false =>
          simp only [dz, ez, Bool.not_true, Bool.not_false, Bool.and_true, Bool.and_false, Bool.true_and, Bool.false_and, Bool.or_true, Bool.or_false, Bool.true_or, Bool.false_or, Bool.false_eq_true, if_true, if_false] at hR
          subst hR
          simp (disch := first | omega | assumption) only [C.k_rem_gos, T.tv, ↓reduceIte, Nat.reduceEqDiff, reduceCtorEq, Nat.reduceLeDiff, Nat.reducePow, Int.reducePow, Int.reduceToNat, Nat.reduceAdd, vf, lk, a0, b0, a1, b1, a2, b2, a3, b3, a4, b4, eq_true az1, bz1]
          refine eff_callF rfl ((nan_any' hk).mono ?_)
          rintro v1 hz ⟨hx1, rfl⟩
          simp (disch := first | omega | assumption) only [C.k_rem_gos, T.tv, ↓reduceIte, Nat.reduceEqDiff, reduceCtorEq, Nat.reduceLeDiff, Nat.reducePow, Int.reducePow, Int.reduceToNat, Nat.reduceAdd]
          first | exact E.trans hx1 | exact ⟨E.trans hx1, rfl⟩
        case true =>
          simp only [dz, ez, Bool.not_true, Bool.not_false, Bool.and_true, Bool.and_false, Bool.true_and, Bool.false_and, Bool.or_true, Bool.or_false, Bool.true_or, Bool.false_or, Bool.false_eq_true, if_true, if_false] at hR
          subst hR
          simp (disch := first | omega | assumption) only [C.k_rem_gos, T.tv, ↓reduceIte, Nat.reduceEqDiff, reduceCtorEq, Nat.reduceLeDiff, Nat.reducePow, Int.reducePow, Int.reduceToNat, Nat.reduceAdd, vf, lk, a0, b0, a1, b1, a2, b2, a3, b3, a4, b4, eq_true az1, bz1]
          refine eff_callF rfl ((nan_any' hk).mono ?_)
          rintro v1 hz ⟨hx1, rfl⟩
          simp (disch := first | omega | assumption) only [C.k_rem_gos, T.tv, ↓reduceIte, Nat.reduceEqDiff, reduceCtorEq, Nat.reduceLeDiff, Nat.reducePow, Int.reducePow, Int.reduceToNat, Nat.reduceAdd]
          first | exact E.trans hx1 | exact ⟨E.trans hx1, rfl⟩
  · have az1 : ¬ (am : Int) = 0 := by omega
    have dz : decide (am = 0) = false := decide_eq_false az
    by_cases bz : bm = 0
    · have bz1 : (bm : Int) = 0 := by omega
      have ez : decide (bm = 0) = true := decide_eq_true bz
      cases ai
      case false =>
        cases bi
        case false =>
          simp only [dz, ez, Bool.not_true, Bool.not_false, Bool.and_true, Bool.and_false, Bool.true_and, Bool.false_and, Bool.or_true, Bool.or_false, Bool.true_or, Bool.false_or, Bool.false_eq_true, if_true, if_false] at hR
          subst hR
          simp (disch := first | omega | assumption) only [C.k_rem_gos, T.tv, ↓reduceIte, Nat.reduceEqDiff, reduceCtorEq, Nat.reduceLeDiff, Nat.reducePow, Int.reducePow, Int.reduceToNat, Nat.reduceAdd, vf, lk, a0, b0, a1, b1, a2, b2, a3, b3, a4, b4, az1, eq_true bz1]
          refine eff_callF rfl ((nan_any' hk).mono ?_)
          rintro v1 hz ⟨hx1, rfl⟩
          simp (disch := first | omega | assumption) only [C.k_rem_gos, T.tv, ↓reduceIte, Nat.reduceEqDiff, reduceCtorEq, Nat.reduceLeDiff, Nat.reducePow, Int.reducePow, Int.reduceToNat, Nat.reduceAdd]
          first | exact E.trans hx1 | exact ⟨E.trans hx1, rfl⟩
        case true =>
          simp only [dz, ez, Bool.not_true, Bool.not_false, Bool.and_true, Bool.and_false, Bool.true_and, Bool.false_and, Bool.or_true, Bool.or_false, Bool.true_or, Bool.false_or, Bool.false_eq_true, if_true, if_false] at hR
          subst hR
          have close := close_any (h := h3) (neg := sa) (st := false) (x := am) (p := ae) hk (by omega) (by omega)
          simp (disch := first | omega | assumption) only [C.k_rem_gos, T.tv, ↓reduceIte, Nat.reduceEqDiff, reduceCtorEq, Nat.reduceLeDiff, Nat.reducePow, Int.reducePow, Int.reduceToNat, Nat.reduceAdd, vf, lk, a0, b0, a1, b1, a2, b2, a3, b3, a4, b4, az1, eq_true bz1]
          refine eff_callF rfl ((close).mono ?_)
          rintro v1 hz ⟨hx1, rfl⟩
          simp (disch := first | omega | assumption) only [C.k_rem_gos, T.tv, ↓reduceIte, Nat.reduceEqDiff, reduceCtorEq, Nat.reduceLeDiff, Nat.reducePow, Int.reducePow, Int.reduceToNat, Nat.reduceAdd]
          first | exact E.trans hx1 | exact ⟨E.trans hx1, rfl⟩
      case true =>
        cases bi
        case false =>
          simp only [dz, ez, Bool.not_true, Bool.not_false, Bool.and_true, Bool.and_false, Bool.true_and, Bool.false_and, Bool.or_true, Bool.or_false, Bool.true_or, Bool.false_or, Bool.false_eq_true, if_true, if_false] at hR
          subst hR
          simp (disch := first | omega | assumption) only [C.k_rem_gos, T.tv, ↓reduceIte, Nat.reduceEqDiff, reduceCtorEq, Nat.reduceLeDiff, Nat.reducePow, Int.reducePow, Int.reduceToNat, Nat.reduceAdd, vf, lk, a0, b0, a1, b1, a2, b2, a3, b3, a4, b4, az1, eq_true bz1]
          refine eff_callF rfl ((nan_any' hk).mono ?_)
          rintro v1 hz ⟨hx1, rfl⟩
          simp (disch := first | omega | assumption) only [C.k_rem_gos, T.tv, ↓reduceIte, Nat.reduceEqDiff, reduceCtorEq, Nat.reduceLeDiff, Nat.reducePow, Int.reducePow, Int.reduceToNat, Nat.reduceAdd]
          first | exact E.trans hx1 | exact ⟨E.trans hx1, rfl⟩
        case true =>
          simp only [dz, ez, Bool.not_true, Bool.not_false, Bool.and_true, Bool.and_false, Bool.true_and, Bool.false_and, Bool.or_true, Bool.or_false, Bool.true_or, Bool.false_or, Bool.false_eq_true, if_true, if_false] at hR
          subst hR
          simp (disch := first | omega | assumption) only [C.k_rem_gos, T.tv, ↓reduceIte, Nat.reduceEqDiff, reduceCtorEq, Nat.reduceLeDiff, Nat.reducePow, Int.reducePow, Int.reduceToNat, Nat.reduceAdd, vf, lk, a0, b0, a1, b1, a2, b2, a3, b3, a4, b4, az1, eq_true bz1]
          refine eff_callF rfl ((nan_any' hk).mono ?_)
          rintro v1 hz ⟨hx1, rfl⟩
          simp (disch := first | omega | assumption) only [C.k_rem_gos, T.tv, ↓reduceIte, Nat.reduceEqDiff, reduceCtorEq, Nat.reduceLeDiff, Nat.reducePow, Int.reducePow, Int.reduceToNat, Nat.reduceAdd]
          first | exact E.trans hx1 | exact ⟨E.trans hx1, rfl⟩
    · have bz1 : ¬ (bm : Int) = 0 := by omega
      have ez : decide (bm = 0) = false := decide_eq_false bz
      cases ai
      case false =>
        cases bi
        case false =>
          simp only [dz, ez, Bool.not_true, Bool.not_false, Bool.and_true, Bool.and_false, Bool.true_and, Bool.false_and, Bool.or_true, Bool.or_false, Bool.true_or, Bool.false_or, Bool.false_eq_true, if_true, if_false] at hR
          by_cases lt : ae < be
          · rw [decide_eq_true lt, if_pos rfl] at hR
            subst hR
            have close := close_any (h := h3) (neg := sa) (st := false) (x := am) (p := ae) hk (by omega) (by omega)
            simp (disch := first | omega | assumption) only [C.k_rem_gos, T.tv, ↓reduceIte, Nat.reduceEqDiff, reduceCtorEq, Nat.reduceLeDiff, Nat.reducePow, Int.reducePow, Int.reduceToNat, Nat.reduceAdd, vf, lk, a0, b0, a1, b1, a2, b2, a3, b3, a4, b4, az1, bz1, lt]
            refine eff_callF rfl ((close).mono ?_)
            rintro v1 hz ⟨hx1, rfl⟩
            simp (disch := first | omega | assumption) only [C.k_rem_gos, T.tv, ↓reduceIte, Nat.reduceEqDiff, reduceCtorEq, Nat.reduceLeDiff, Nat.reducePow, Int.reducePow, Int.reduceToNat, Nat.reduceAdd]
            first | exact E.trans hx1 | exact ⟨E.trans hx1, rfl⟩
          · rw [decide_eq_false lt, if_neg (by decide)] at hR
            simp (disch := first | omega | assumption) only [C.k_rem_gos, T.tv, ↓reduceIte, Nat.reduceEqDiff, reduceCtorEq, Nat.reduceLeDiff, Nat.reducePow, Int.reducePow, Int.reduceToNat, Nat.reduceAdd, vf, lk, a0, b0, a1, b1, a2, b2, a3, b3, a4, b4, az1, bz1, lt]
            rw [hR]
            exact rem_fin (a := ⟨false, false, sa, am, ae⟩) (b := ⟨false, false, sb, bm, be⟩) hk E H HA HB (Nat.pos_of_ne_zero bz) ha hb hae hbe (by simp only; omega)
        case true =>
          simp only [dz, ez, Bool.not_true, Bool.not_false, Bool.and_true, Bool.and_false, Bool.true_and, Bool.false_and, Bool.or_true, Bool.or_false, Bool.true_or, Bool.false_or, Bool.false_eq_true, if_true, if_false] at hR
          subst hR
          have close := close_any (h := h3) (neg := sa) (st := false) (x := am) (p := ae) hk (by omega) (by omega)
          simp (disch := first | omega | assumption) only [C.k_rem_gos, T.tv, ↓reduceIte, Nat.reduceEqDiff, reduceCtorEq, Nat.reduceLeDiff, Nat.reducePow, Int.reducePow, Int.reduceToNat, Nat.reduceAdd, vf, lk, a0, b0, a1, b1, a2, b2, a3, b3, a4, b4, az1, bz1]
          refine eff_callF rfl ((close).mono ?_)
          rintro v1 hz ⟨hx1, rfl⟩
          simp (disch := first | omega | assumption) only [C.k_rem_gos, T.tv, ↓reduceIte, Nat.reduceEqDiff, reduceCtorEq, Nat.reduceLeDiff, Nat.reducePow, Int.reducePow, Int.reduceToNat, Nat.reduceAdd]
          first | exact E.trans hx1 | exact ⟨E.trans hx1, rfl⟩
      case true =>
        cases bi
        case false =>
          simp only [dz, ez, Bool.not_true, Bool.not_false, Bool.and_true, Bool.and_false, Bool.true_and, Bool.false_and, Bool.or_true, Bool.or_false, Bool.true_or, Bool.false_or, Bool.false_eq_true, if_true, if_false] at hR
          subst hR
          simp (disch := first | omega | assumption) only [C.k_rem_gos, T.tv, ↓reduceIte, Nat.reduceEqDiff, reduceCtorEq, Nat.reduceLeDiff, Nat.reducePow, Int.reducePow, Int.reduceToNat, Nat.reduceAdd, vf, lk, a0, b0, a1, b1, a2, b2, a3, b3, a4, b4, az1, bz1]
          refine eff_callF rfl ((nan_any' hk).mono ?_)
          rintro v1 hz ⟨hx1, rfl⟩
          simp (disch := first | omega | assumption) only [C.k_rem_gos, T.tv, ↓reduceIte, Nat.reduceEqDiff, reduceCtorEq, Nat.reduceLeDiff, Nat.reducePow, Int.reducePow, Int.reduceToNat, Nat.reduceAdd]
          first | exact E.trans hx1 | exact ⟨E.trans hx1, rfl⟩
        case true =>
          simp only [dz, ez, Bool.not_true, Bool.not_false, Bool.and_true, Bool.and_false, Bool.true_and, Bool.false_and, Bool.or_true, Bool.or_false, Bool.true_or, Bool.false_or, Bool.false_eq_true, if_true, if_false] at hR
          subst hR
          simp (disch := first | omega | assumption) only [C.k_rem_gos, T.tv, ↓reduceIte, Nat.reduceEqDiff, reduceCtorEq, Nat.reduceLeDiff, Nat.reducePow, Int.reducePow, Int.reduceToNat, Nat.reduceAdd, vf, lk, a0, b0, a1, b1, a2, b2, a3, b3, a4, b4, az1, bz1]
          refine eff_callF rfl ((nan_any' hk).mono ?_)
          rintro v1 hz ⟨hx1, rfl⟩
          simp (disch := first | omega | assumption) only [C.k_rem_gos, T.tv, ↓reduceIte, Nat.reduceEqDiff, reduceCtorEq, Nat.reduceLeDiff, Nat.reducePow, Int.reducePow, Int.reduceToNat, Nat.reduceAdd]
          first | exact E.trans hx1 | exact ⟨E.trans hx1, rfl⟩
end Go.Proofs.Ytedleaeohbjfnaa
