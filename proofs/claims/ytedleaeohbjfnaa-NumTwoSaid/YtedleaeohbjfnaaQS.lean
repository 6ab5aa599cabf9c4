/- The reference's product. No condition. -/
import Derived.Test.YtedleaeohbjfnaaQN
import Derived.Test.YtedleaeohbjfnaaQL
namespace Go.Proofs.Ytedleaeohbjfnaa
open Go.Vc Go.Num
set_option maxRecDepth 100000
set_option linter.unusedSimpArgs false
set_option linter.unusedVariables false

theorem wrap_mod (n : Nat) : IntKind.u64.wrap (n : Int) = ((n % 18446744073709551616 : Nat) : Int) := by
  simp only [IntKind.wrap, IntKind.bits, IntKind.signed, Bool.false_and, Bool.false_eq_true, if_false, Int.reducePow]; omega
/-- A product of two in halves of 32 bits. -/
theorem halves {A B a0 a1 b0 b1 : Nat} (hA : A = a1 * 4294967296 + a0) (hB : B = b1 * 4294967296 + b0) : A * B = a1 * b1 * 18446744073709551616 + (a1 * b0 + b1 * a0) * 4294967296 + a0 * b0 := by
  subst hA hB
  rw [Nat.add_mul, Nat.mul_add, Nat.mul_add, Nat.add_mul]
  have e1 : a1 * 4294967296 * (b1 * 4294967296) = a1 * b1 * 18446744073709551616 := by
    rw [Nat.mul_mul_mul_comm]
  have e2 : a1 * 4294967296 * b0 = a1 * b0 * 4294967296 := by rw [Nat.mul_right_comm]
  have e3 : a0 * (b1 * 4294967296) = b1 * a0 * 4294967296 := by rw [← Nat.mul_assoc, Nat.mul_comm a0 b1]
  rw [e1, e2, e3]; omega
set_option maxHeartbeats 1000000 in
theorem mul_fin {h0 h : Heap} {m e g3 g4 g5 : Nat} {a b : Nm} {ng : Bool} {v0 v1 v2 u51 u59 u107 : Value} (hk : Kd m e) (E : Ext h0 h) (H : KB h g3 m e) (HA : NB h g4 a) (HB : NB h g5 b)
    (ha : a.m < 9007199254740992) (hb : b.m < 9007199254740992) (hae : -10000 ≤ a.e ∧ a.e ≤ 10000) (hbe : -10000 ≤ b.e ∧ b.e ≤ 10000) :
    Cd.vc Try.prog C.k_mul_t0 (retQ Try.prog [(6, none)] fun v h' => Ext h0 h' ∧ v = .int .u64 ((closeP (fmt m e) ng (a.m * b.m / 2 ^ len (a.m * b.m / 2 ^ 64)) (a.e + b.e + (len (a.m * b.m / 2 ^ 64) : Nat)) (decide (a.m * b.m % 2 ^ len (a.m * b.m / 2 ^ 64) ≠ 0)) : Nat) : Int))
      [(0, v0), (1, v1), (2, v2), (3, .pointer (some ⟨g3, 0, none⟩)), (4, .pointer (some ⟨g4, 0, none⟩)), (5, .pointer (some ⟨g5, 0, none⟩)), (6, .int .u64 0), (7, .bool ng), (8, undef), (9, undef), (10, undef), (11, undef), (12, undef), (51, u51), (59, u59), (107, u107)] h := by
  rw [C.k_mul_t0_go]
  have lk := H.ld
  have a3 := HA.c3
  have a4 := HA.c4
  have b3 := HB.c3
  have b4 := HB.c4
  generalize a.e = ae at *
  generalize b.e = be at *
  generalize a.m = A at *
  generalize b.m = B at *
  obtain ⟨x0, hx0⟩ : ∃ x0, x0 = A % 4294967296 := ⟨_, rfl⟩
  obtain ⟨x1, hx1⟩ : ∃ x1, x1 = A / 4294967296 := ⟨_, rfl⟩
  obtain ⟨y0, hy0⟩ : ∃ y0, y0 = B % 4294967296 := ⟨_, rfl⟩
  obtain ⟨y1, hy1⟩ : ∃ y1, y1 = B / 4294967296 := ⟨_, rfl⟩
  have hh := halves (A := A) (B := B) (a0 := x0) (a1 := x1) (b0 := y0) (b1 := y1) (by omega) (by omega)
  have f1 : (A : Int) % 4294967296 = (x0 : Int) := by omega
  have f2 : (B : Int) % 4294967296 = (y0 : Int) := by omega
  have f3 : (A : Int) / 4294967296 = (x1 : Int) := by omega
  have f4 : (B : Int) / 4294967296 = (y1 : Int) := by omega
  have q1 : x0 * y0 ≤ 4294967295 * 4294967295 := Nat.mul_le_mul (by omega) (by omega)
  have q2 : x1 * y0 ≤ 2097151 * 4294967295 := Nat.mul_le_mul (by omega) (by omega)
  have q3 : y1 * x0 ≤ 2097151 * 4294967295 := Nat.mul_le_mul (by omega) (by omega)
  have q4 : x1 * y1 ≤ 2097151 * 2097151 := Nat.mul_le_mul (by omega) (by omega)
  have hAB : A * B ≤ 9007199254740991 * 9007199254740991 := Nat.mul_le_mul (by omega) (by omega)
  have g1 : (x0 : Int) * (y0 : Int) = ((x0 * y0 : Nat) : Int) := by rw [Int.natCast_mul]
  have g2 : (x1 : Int) * (y0 : Int) = ((x1 * y0 : Nat) : Int) := by rw [Int.natCast_mul]
  have g3' : (y1 : Int) * (x0 : Int) = ((y1 * x0 : Nat) : Int) := by rw [Int.natCast_mul]
  have g4' : (x1 : Int) * (y1 : Int) = ((x1 * y1 : Nat) : Int) := by rw [Int.natCast_mul]
  generalize x0 * y0 = L at *
  generalize x1 * y0 = P at *
  generalize y1 * x0 = Q at *
  generalize x1 * y1 = TT at *
  generalize A * B = p at *
  clear hx0 hx1 hy0 hy1
  obtain ⟨M, hM⟩ : ∃ M, M = P + Q + L / 4294967296 := ⟨_, rfl⟩
  obtain ⟨hi, hhi⟩ : ∃ hi, hi = p / 18446744073709551616 := ⟨_, rfl⟩
  obtain ⟨lo, hlo⟩ : ∃ lo, lo = p % 18446744073709551616 := ⟨_, rfl⟩
  have k1 : (P : Int) + (Q : Int) + (L : Int) / 4294967296 = (M : Int) := by omega
  have k2 : (TT : Int) + (M : Int) / 4294967296 = (hi : Int) := by omega
  have k3 : (M : Int) % 4294967296 * 4294967296 + (L : Int) % 4294967296 = (lo : Int) := by omega
  have hib : hi < 4398046511104 := by omega
  have w1 : IntKind.u64.wrap (L : Int) = L := wrap_u64 (by omega) (by omega)
  have w2 : IntKind.u64.wrap (P : Int) = P := wrap_u64 (by omega) (by omega)
  have w3 : IntKind.u64.wrap (Q : Int) = Q := wrap_u64 (by omega) (by omega)
  have w4 : IntKind.u64.wrap ((P : Int) + (Q : Int)) = (P : Int) + (Q : Int) := wrap_u64 (by omega) (by omega)
  have w5 : IntKind.u64.wrap (M : Int) = M := wrap_u64 (by omega) (by omega)
  have w6 : IntKind.u64.wrap (TT : Int) = TT := wrap_u64 (by omega) (by omega)
  have w7 : IntKind.u64.wrap (hi : Int) = hi := wrap_u64 (by omega) (by omega)
  have w8 : IntKind.u64.wrap (lo : Int) = lo := wrap_u64 (by omega) (by omega)
  have w9 : IntKind.u64.wrap ((M : Int) % 4294967296 * 4294967296) = (M : Int) % 4294967296 * 4294967296 := wrap_u64 (by omega) (by omega)
  rw [show (2 : Nat) ^ 64 = 18446744073709551616 by decide, ← hhi]
  have close := fun (h' : Heap) (st : Bool) (x : Nat) (p : Int) (hx : x < 18446744073709551616) (hp : -100000 ≤ p ∧ p ≤ 100000) => close_any (h := h') (neg := ng) (st := st) hk hx hp
  simp (disch := first | omega | assumption) only [C.k_mul_gos, T.tv, ↓reduceIte, Nat.reduceEqDiff, reduceCtorEq, Nat.reduceLeDiff, Nat.reducePow, Int.reducePow, Int.reduceToNat, Nat.reduceAdd, vf, a3, b3, f1, f2, f3, f4, g1, g2, g3', g4', k1, k2, k3, w1, w2, w3, w4, w5, w6, w7, w8, w9]
  refine eff_callF rfl ((length_any (x := hi) (by omega)).mono ?_)
  rintro v1 hz ⟨rfl, rfl⟩
  by_cases hi0 : hi = 0
  · subst hi0
    have hpl : p = lo := by omega
    rw [show len 0 = 0 from rfl, Nat.pow_zero, Nat.div_one, Nat.mod_one, hpl]
    have z0 : ((0 : Nat) : Int) = 0 := rfl
    simp (disch := first | omega | assumption) only [C.k_mul_gos, T.tv, ↓reduceIte, Nat.reduceEqDiff, reduceCtorEq, Nat.reduceLeDiff, Nat.reducePow, Int.reducePow, Int.reduceToNat, Nat.reduceAdd, vf, lk, a4, b4, z0]
    refine eff_callF rfl ((close _ _ _ _ (by omega) (by omega)).mono ?_)
    rintro v1 hw ⟨hx1, rfl⟩
    rw [Int.add_zero]
    simp (disch := first | omega | assumption) only [C.k_mul_gos, T.tv, ↓reduceIte, Nat.reduceEqDiff, reduceCtorEq, Nat.reduceLeDiff, Nat.reducePow, Int.reducePow, Int.reduceToNat, Nat.reduceAdd]
    first | exact E.trans hx1 | exact ⟨E.trans hx1, rfl⟩
  · have hn1 := len_pos hi0
    have hn2 := lt_len hi
    have hn3 : len hi ≤ 42 := le_len (by rw [show (2 : Nat) ^ 42 = 4398046511104 by decide]; exact hib)
    generalize len hi = n at *
    have z0 : ¬ (n : Int) = 0 := by omega
    obtain ⟨r, hr⟩ : ∃ r, r = 64 - n := ⟨_, rfl⟩
    have d1 : (64 : Int) - (n : Int) = (r : Int) := by omega
    have hr64 : r ≤ 64 := by omega
    have hn64 : n ≤ 64 := by omega
    have hp64 : 2 ^ n * 2 ^ r = 18446744073709551616 := by rw [← Nat.pow_add, show n + r = 64 by omega]
    have hpr := two_pos r
    have hpn := two_pos n
    have hs : hi * 2 ^ r < 18446744073709551616 := by rw [← hp64]; exact Nat.mul_lt_mul_of_pos_right hn2 hpr
    have e1 : IntKind.u64.wrap ((hi : Int) * 2 ^ r) = ((hi * 2 ^ r : Nat) : Int) := by
      rw [show (hi : Int) * 2 ^ r = ((hi * 2 ^ r : Nat) : Int) by rw [Int.natCast_mul, Int.natCast_pow]; rfl, wrap_mod, Nat.mod_eq_of_lt hs]
    have e2 : (lo : Int).fdiv (2 ^ n) = ((lo / 2 ^ n : Nat) : Int) := by
      have hn : (2 : Int) ^ n = ((2 ^ n : Nat) : Int) := by rw [Int.natCast_pow]; rfl
      rw [hn, Int.fdiv_eq_ediv_of_nonneg _ (by omega), Int.natCast_ediv]
    have e3a : lo * 2 ^ r % 18446744073709551616 = lo % 2 ^ n * 2 ^ r := by
      have h7 := Nat.mul_mod_mul_right (2 ^ r) lo (2 ^ n)
      rw [hp64] at h7; exact h7
    have e3 : IntKind.u64.wrap ((lo : Int) * 2 ^ r) = ((lo % 2 ^ n * 2 ^ r : Nat) : Int) := by
      rw [show (lo : Int) * 2 ^ r = ((lo * 2 ^ r : Nat) : Int) by rw [Int.natCast_mul, Int.natCast_pow]; rfl, wrap_mod, e3a]
    have hpp : p = hi * 18446744073709551616 + lo := by
      rw [hhi, hlo, Nat.mul_comm]; exact (Nat.div_add_mod p 18446744073709551616).symm
    have hq : p / 2 ^ n = hi * 2 ^ r + lo / 2 ^ n := by
      rw [hpp, ← hp64, Nat.mul_comm (2 ^ n), ← Nat.mul_assoc, Nat.add_comm, Nat.add_mul_div_right _ _ hpn, Nat.add_comm]
    have hm : p % 2 ^ n = lo % 2 ^ n := by
      rw [hpp, ← hp64, Nat.mul_comm (2 ^ n), ← Nat.mul_assoc, Nat.add_comm, Nat.add_mul_mod_self_right]
    have hqb : p / 2 ^ n < 18446744073709551616 := by
      rw [Nat.div_lt_iff_lt_mul hpn, hpp]
      have h2 : (hi + 1) * 18446744073709551616 ≤ 2 ^ n * 18446744073709551616 := Nat.mul_le_mul_right _ hn2
      omega
    have e4 : ((hi * 2 ^ r : Nat) : Int) + ((lo / 2 ^ n : Nat) : Int) = ((p / 2 ^ n : Nat) : Int) := by rw [hq, Int.natCast_add]
    have e5 : IntKind.u64.wrap ((p / 2 ^ n : Nat) : Int) = ((p / 2 ^ n : Nat) : Int) := by rw [wrap_mod, Nat.mod_eq_of_lt hqb]
    have e6 : decide (¬ ((lo % 2 ^ n * 2 ^ r : Nat) : Int) = 0) = decide (p % 2 ^ n ≠ 0) := by
      rw [hm]
      refine decide_eq_decide.2 ?_
      have : lo % 2 ^ n * 2 ^ r = 0 ↔ lo % 2 ^ n = 0 := by rw [Nat.mul_eq_zero]; omega
      omega
    generalize p / 2 ^ n = pq at *
    simp (disch := first | omega | assumption) only [C.k_mul_gos, T.tv, ↓reduceIte, Nat.reduceEqDiff, reduceCtorEq, Nat.reduceLeDiff, Nat.reducePow, Int.reducePow, Int.reduceToNat, Nat.reduceAdd, vf, lk, a4, b4, z0, d1, hr64, hn64, e1, e2, e3, e4, e5, e6]
    refine eff_callF rfl ((close _ _ _ _ (by first | omega | exact hqb) (by omega)).mono ?_)
    rintro v1 hw ⟨hx1, rfl⟩
    simp (disch := first | omega | assumption) only [C.k_mul_gos, T.tv, ↓reduceIte, Nat.reduceEqDiff, reduceCtorEq, Nat.reduceLeDiff, Nat.reducePow, Int.reducePow, Int.reduceToNat, Nat.reduceAdd]
    first | exact E.trans hx1 | exact ⟨E.trans hx1, rfl⟩
set_option maxHeartbeats 600000 in
theorem mul_any {h : Heap} {m e : Nat} {a b : Nm} (hk : Kd m e) (ha : a.m < 9007199254740992) (hb : b.m < 9007199254740992) (hae : -10000 ≤ a.e ∧ a.e ≤ 10000) (hbe : -10000 ≤ b.e ∧ b.e ≤ 10000) :
    HCalls Try.prog 29 #[kV m e, nV a, nV b] h fun v h' => Ext h h' ∧ v = .int .u64 ((mulP (fmt m e) a b : Nat) : Int) := by
  refine C.k_mul_calls (args := [kV m e, nV a, nV b]) rfl ?_
  simp (disch := first | omega | assumption) only [C.k_mul_gos, T.tv, ↓reduceIte, Nat.reduceEqDiff, reduceCtorEq, Nat.reduceLeDiff, Nat.reducePow, Int.reducePow, Int.reduceToNat, Nat.reduceAdd]
  refine eff_box ?_
  have H := KB.push h m e
  have E := Ext.push h (.cells #[.int .i64 (m : Int), .int .i64 (e : Int)] 35)
  simp (disch := first | omega | assumption) only [C.k_mul_gos, T.tv, ↓reduceIte, Nat.reduceEqDiff, reduceCtorEq, Nat.reduceLeDiff, Nat.reducePow, Int.reducePow, Int.reduceToNat, Nat.reduceAdd, Nat.zero_add]
  generalize h.push (.cells #[.int .i64 (m : Int), .int .i64 (e : Int)] 35) = h1 at *
  generalize h.size = g3 at *
  refine eff_box ?_
  have HA := NB.push h1 a
  have E1 := Ext.push h1 (.cells (nC a) 52)
  simp (disch := first | omega | assumption) only [C.k_mul_gos, T.tv, ↓reduceIte, Nat.reduceEqDiff, reduceCtorEq, Nat.reduceLeDiff, Nat.reducePow, Int.reducePow, Int.reduceToNat, Nat.reduceAdd, Nat.zero_add]
  generalize h1.push (.cells (nC a) 52) = h2 at *
  generalize h1.size = g4 at *
  replace H := H.ext E1
  replace E := E.trans E1
  refine eff_box ?_
  have HB := NB.push h2 b
  have E2 := Ext.push h2 (.cells (nC b) 52)
  simp (disch := first | omega | assumption) only [C.k_mul_gos, T.tv, ↓reduceIte, Nat.reduceEqDiff, reduceCtorEq, Nat.reduceLeDiff, Nat.reducePow, Int.reducePow, Int.reduceToNat, Nat.reduceAdd, Nat.zero_add]
  generalize h2.push (.cells (nC b) 52) = h3 at *
  generalize h2.size = g5 at *
  replace H := H.ext E2
  replace HA := HA.ext E2
  replace E := E.trans E2
  clear E1 E2
  have lk := H.ld
  have a0 := HA.c0
  have a1 := HA.c1
  have a2 := HA.c2
  have a3 := HA.c3
  have a4 := HA.c4
  have b0 := HB.c0
  have b1 := HB.c1
  have b2 := HB.c2
  have b3 := HB.c3
  have b4 := HB.c4
  obtain ⟨an, ai, sa, am, ae⟩ := a
  obtain ⟨bn, bi, sb, bm, be⟩ := b
  simp only at a0 a1 a2 a3 a4 b0 b1 b2 b3 b4 ha hb hae hbe
  obtain ⟨R, hR⟩ : ∃ R, R = mulP (fmt m e) ⟨an, ai, sa, am, ae⟩ ⟨bn, bi, sb, bm, be⟩ := ⟨_, rfl⟩
  rw [← hR]
  unfold mulP at hR
  simp only at hR
  have hneg : decide (sa ≠ sb) = (sa != sb) := by cases sa <;> cases sb <;> rfl
  generalize hng : (sa != sb) = ng at *
  have aZ : decide ((am : Int) = 0) = decide (am = 0) := decide_eq_decide.2 (by omega)
  have bZ : decide ((bm : Int) = 0) = decide (bm = 0) := decide_eq_decide.2 (by omega)
  cases an
  case true =>
    rw [if_pos (by rfl)] at hR
    subst hR
    simp (disch := first | omega | assumption) only [C.k_mul_gos, T.tv, ↓reduceIte, Nat.reduceEqDiff, reduceCtorEq, Nat.reduceLeDiff, Nat.reducePow, Int.reducePow, Int.reduceToNat, Nat.reduceAdd, vf, lk, a0, b0, a1, b1, a2, b2, a3, b3, a4, b4, hneg]
    refine eff_callF rfl ((nan_any' hk).mono ?_)
    rintro v1 hz ⟨hx1, rfl⟩
    simp (disch := first | omega | assumption) only [C.k_mul_gos, T.tv, ↓reduceIte, Nat.reduceEqDiff, reduceCtorEq, Nat.reduceLeDiff, Nat.reducePow, Int.reducePow, Int.reduceToNat, Nat.reduceAdd]
    first | exact E.trans hx1 | exact ⟨E.trans hx1, rfl⟩
  cases bn
  case true =>
    rw [if_pos (by simp)] at hR
    subst hR
    simp (disch := first | omega | assumption) only [C.k_mul_gos, T.tv, ↓reduceIte, Nat.reduceEqDiff, reduceCtorEq, Nat.reduceLeDiff, Nat.reducePow, Int.reducePow, Int.reduceToNat, Nat.reduceAdd, vf, lk, a0, b0, a1, b1, a2, b2, a3, b3, a4, b4, hneg]
    refine eff_callF rfl ((nan_any' hk).mono ?_)
    rintro v1 hz ⟨hx1, rfl⟩
    simp (disch := first | omega | assumption) only [C.k_mul_gos, T.tv, ↓reduceIte, Nat.reduceEqDiff, reduceCtorEq, Nat.reduceLeDiff, Nat.reducePow, Int.reducePow, Int.reduceToNat, Nat.reduceAdd]
    first | exact E.trans hx1 | exact ⟨E.trans hx1, rfl⟩
  by_cases az : am = 0
  · have az1 : (am : Int) = 0 := by omega
    have dz : decide (am = 0) = true := decide_eq_true az
    by_cases bz : bm = 0
    · have bz1 : (bm : Int) = 0 := by omega
      have ez : decide (bm = 0) = true := decide_eq_true bz
      cases ai
      case false =>
        cases bi
        case false =>
          simp only [dz, ez, Bool.not_true, Bool.not_false, Bool.and_true, Bool.and_false, Bool.true_and, Bool.false_and, Bool.or_true, Bool.or_false, Bool.true_or, Bool.false_or, Bool.false_eq_true, if_true, if_false] at hR
          simp (disch := first | omega | assumption) only [C.k_mul_gos, T.tv, ↓reduceIte, Nat.reduceEqDiff, reduceCtorEq, Nat.reduceLeDiff, Nat.reducePow, Int.reducePow, Int.reduceToNat, Nat.reduceAdd, vf, lk, a0, b0, a1, b1, a2, b2, a3, b3, a4, b4, hneg]
          rw [hR]
          exact mul_fin (a := ⟨false, false, sa, am, ae⟩) (b := ⟨false, false, sb, bm, be⟩) hk E H HA HB ha hb hae hbe
        case true =>
          simp only [dz, ez, Bool.not_true, Bool.not_false, Bool.and_true, Bool.and_false, Bool.true_and, Bool.false_and, Bool.or_true, Bool.or_false, Bool.true_or, Bool.false_or, Bool.false_eq_true, if_true, if_false] at hR
          subst hR
          simp (disch := first | omega | assumption) only [C.k_mul_gos, T.tv, ↓reduceIte, Nat.reduceEqDiff, reduceCtorEq, Nat.reduceLeDiff, Nat.reducePow, Int.reducePow, Int.reduceToNat, Nat.reduceAdd, vf, lk, a0, b0, a1, b1, a2, b2, a3, b3, a4, b4, hneg, eq_true az1, eq_true bz1]
          refine eff_callF rfl ((nan_any' hk).mono ?_)
          rintro v1 hz ⟨hx1, rfl⟩
          simp (disch := first | omega | assumption) only [C.k_mul_gos, T.tv, ↓reduceIte, Nat.reduceEqDiff, reduceCtorEq, Nat.reduceLeDiff, Nat.reducePow, Int.reducePow, Int.reduceToNat, Nat.reduceAdd]
          first | exact E.trans hx1 | exact ⟨E.trans hx1, rfl⟩
      case true =>
        cases bi
        case false =>
          simp only [dz, ez, Bool.not_true, Bool.not_false, Bool.and_true, Bool.and_false, Bool.true_and, Bool.false_and, Bool.or_true, Bool.or_false, Bool.true_or, Bool.false_or, Bool.false_eq_true, if_true, if_false] at hR
          subst hR
          simp (disch := first | omega | assumption) only [C.k_mul_gos, T.tv, ↓reduceIte, Nat.reduceEqDiff, reduceCtorEq, Nat.reduceLeDiff, Nat.reducePow, Int.reducePow, Int.reduceToNat, Nat.reduceAdd, vf, lk, a0, b0, a1, b1, a2, b2, a3, b3, a4, b4, hneg, eq_true az1, eq_true bz1]
          refine eff_callF rfl ((nan_any' hk).mono ?_)
          rintro v1 hz ⟨hx1, rfl⟩
          simp (disch := first | omega | assumption) only [C.k_mul_gos, T.tv, ↓reduceIte, Nat.reduceEqDiff, reduceCtorEq, Nat.reduceLeDiff, Nat.reducePow, Int.reducePow, Int.reduceToNat, Nat.reduceAdd]
          first | exact E.trans hx1 | exact ⟨E.trans hx1, rfl⟩
        case true =>
          simp only [dz, ez, Bool.not_true, Bool.not_false, Bool.and_true, Bool.and_false, Bool.true_and, Bool.false_and, Bool.or_true, Bool.or_false, Bool.true_or, Bool.false_or, Bool.false_eq_true, if_true, if_false] at hR
          subst hR
          simp (disch := first | omega | assumption) only [C.k_mul_gos, T.tv, ↓reduceIte, Nat.reduceEqDiff, reduceCtorEq, Nat.reduceLeDiff, Nat.reducePow, Int.reducePow, Int.reduceToNat, Nat.reduceAdd, vf, lk, a0, b0, a1, b1, a2, b2, a3, b3, a4, b4, hneg, eq_true az1, eq_true bz1]
          refine eff_callF rfl ((inf_any _ hk).mono ?_)
          rintro v1 hz ⟨hx1, rfl⟩
          simp (disch := first | omega | assumption) only [C.k_mul_gos, T.tv, ↓reduceIte, Nat.reduceEqDiff, reduceCtorEq, Nat.reduceLeDiff, Nat.reducePow, Int.reducePow, Int.reduceToNat, Nat.reduceAdd]
          first | exact E.trans hx1 | exact ⟨E.trans hx1, rfl⟩
    · have bz1 : ¬ (bm : Int) = 0 := by omega
      have ez : decide (bm = 0) = false := decide_eq_false bz
      cases ai
      case false =>
        cases bi
        case false =>
          simp only [dz, ez, Bool.not_true, Bool.not_false, Bool.and_true, Bool.and_false, Bool.true_and, Bool.false_and, Bool.or_true, Bool.or_false, Bool.true_or, Bool.false_or, Bool.false_eq_true, if_true, if_false] at hR
          simp (disch := first | omega | assumption) only [C.k_mul_gos, T.tv, ↓reduceIte, Nat.reduceEqDiff, reduceCtorEq, Nat.reduceLeDiff, Nat.reducePow, Int.reducePow, Int.reduceToNat, Nat.reduceAdd, vf, lk, a0, b0, a1, b1, a2, b2, a3, b3, a4, b4, hneg]
          rw [hR]
          exact mul_fin (a := ⟨false, false, sa, am, ae⟩) (b := ⟨false, false, sb, bm, be⟩) hk E H HA HB ha hb hae hbe
        case true =>
          simp only [dz, ez, Bool.not_true, Bool.not_false, Bool.and_true, Bool.and_false, Bool.true_and, Bool.false_and, Bool.or_true, Bool.or_false, Bool.true_or, Bool.false_or, Bool.false_eq_true, if_true, if_false] at hR
          subst hR
          simp (disch := first | omega | assumption) only [C.k_mul_gos, T.tv, ↓reduceIte, Nat.reduceEqDiff, reduceCtorEq, Nat.reduceLeDiff, Nat.reducePow, Int.reducePow, Int.reduceToNat, Nat.reduceAdd, vf, lk, a0, b0, a1, b1, a2, b2, a3, b3, a4, b4, hneg, eq_true az1, bz1]
          refine eff_callF rfl ((nan_any' hk).mono ?_)
          rintro v1 hz ⟨hx1, rfl⟩
          simp (disch := first | omega | assumption) only [C.k_mul_gos, T.tv, ↓reduceIte, Nat.reduceEqDiff, reduceCtorEq, Nat.reduceLeDiff, Nat.reducePow, Int.reducePow, Int.reduceToNat, Nat.reduceAdd]
          first | exact E.trans hx1 | exact ⟨E.trans hx1, rfl⟩
      case true =>
        cases bi
        case false =>
          simp only [dz, ez, Bool.not_true, Bool.not_false, Bool.and_true, Bool.and_false, Bool.true_and, Bool.false_and, Bool.or_true, Bool.or_false, Bool.true_or, Bool.false_or, Bool.false_eq_true, if_true, if_false] at hR
          subst hR
          simp (disch := first | omega | assumption) only [C.k_mul_gos, T.tv, ↓reduceIte, Nat.reduceEqDiff, reduceCtorEq, Nat.reduceLeDiff, Nat.reducePow, Int.reducePow, Int.reduceToNat, Nat.reduceAdd, vf, lk, a0, b0, a1, b1, a2, b2, a3, b3, a4, b4, hneg, eq_true az1, bz1]
          refine eff_callF rfl ((inf_any _ hk).mono ?_)
          rintro v1 hz ⟨hx1, rfl⟩
          simp (disch := first | omega | assumption) only [C.k_mul_gos, T.tv, ↓reduceIte, Nat.reduceEqDiff, reduceCtorEq, Nat.reduceLeDiff, Nat.reducePow, Int.reducePow, Int.reduceToNat, Nat.reduceAdd]
          first | exact E.trans hx1 | exact ⟨E.trans hx1, rfl⟩
        case true =>
          simp only [dz, ez, Bool.not_true, Bool.not_false, Bool.and_true, Bool.and_false, Bool.true_and, Bool.false_and, Bool.or_true, Bool.or_false, Bool.true_or, Bool.false_or, Bool.false_eq_true, if_true, if_false] at hR
          subst hR
          simp (disch := first | omega | assumption) only [C.k_mul_gos, T.tv, ↓reduceIte, Nat.reduceEqDiff, reduceCtorEq, Nat.reduceLeDiff, Nat.reducePow, Int.reducePow, Int.reduceToNat, Nat.reduceAdd, vf, lk, a0, b0, a1, b1, a2, b2, a3, b3, a4, b4, hneg, eq_true az1, bz1]
          refine eff_callF rfl ((inf_any _ hk).mono ?_)
          rintro v1 hz ⟨hx1, rfl⟩
          simp (disch := first | omega | assumption) only [C.k_mul_gos, T.tv, ↓reduceIte, Nat.reduceEqDiff, reduceCtorEq, Nat.reduceLeDiff, Nat.reducePow, Int.reducePow, Int.reduceToNat, Nat.reduceAdd]
          first | exact E.trans hx1 | exact ⟨E.trans hx1, rfl⟩
  · have az1 : ¬ (am : Int) = 0 := by omega
    have dz : decide (am = 0) = false := decide_eq_false az
    by_cases bz : bm = 0
    · have bz1 : (bm : Int) = 0 := by omega
      have ez : decide (bm = 0) = true := decide_eq_true bz
      cases ai
      case false =>
        cases bi
        case false =>
          simp only [dz, ez, Bool.not_true, Bool.not_false, Bool.and_true, Bool.and_false, Bool.true_and, Bool.false_and, Bool.or_true, Bool.or_false, Bool.true_or, Bool.false_or, Bool.false_eq_true, if_true, if_false] at hR
          simp (disch := first | omega | assumption) only [C.k_mul_gos, T.tv, ↓reduceIte, Nat.reduceEqDiff, reduceCtorEq, Nat.reduceLeDiff, Nat.reducePow, Int.reducePow, Int.reduceToNat, Nat.reduceAdd, vf, lk, a0, b0, a1, b1, a2, b2, a3, b3, a4, b4, hneg]
          rw [hR]
          exact mul_fin (a := ⟨false, false, sa, am, ae⟩) (b := ⟨false, false, sb, bm, be⟩) hk E H HA HB ha hb hae hbe
        case true =>
          simp only [dz, ez, Bool.not_true, Bool.not_false, Bool.and_true, Bool.and_false, Bool.true_and, Bool.false_and, Bool.or_true, Bool.or_false, Bool.true_or, Bool.false_or, Bool.false_eq_true, if_true, if_false] at hR
          subst hR
          simp (disch := first | omega | assumption) only [C.k_mul_gos, T.tv, ↓reduceIte, Nat.reduceEqDiff, reduceCtorEq, Nat.reduceLeDiff, Nat.reducePow, Int.reducePow, Int.reduceToNat, Nat.reduceAdd, vf, lk, a0, b0, a1, b1, a2, b2, a3, b3, a4, b4, hneg, az1, eq_true bz1]
          refine eff_callF rfl ((inf_any _ hk).mono ?_)
          rintro v1 hz ⟨hx1, rfl⟩
          simp (disch := first | omega | assumption) only [C.k_mul_gos, T.tv, ↓reduceIte, Nat.reduceEqDiff, reduceCtorEq, Nat.reduceLeDiff, Nat.reducePow, Int.reducePow, Int.reduceToNat, Nat.reduceAdd]
          first | exact E.trans hx1 | exact ⟨E.trans hx1, rfl⟩
      case true =>
        cases bi
        case false =>
          simp only [dz, ez, Bool.not_true, Bool.not_false, Bool.and_true, Bool.and_false, Bool.true_and, Bool.false_and, Bool.or_true, Bool.or_false, Bool.true_or, Bool.false_or, Bool.false_eq_true, if_true, if_false] at hR
          subst hR
          simp (disch := first | omega | assumption) only [C.k_mul_gos, T.tv, ↓reduceIte, Nat.reduceEqDiff, reduceCtorEq, Nat.reduceLeDiff, Nat.reducePow, Int.reducePow, Int.reduceToNat, Nat.reduceAdd, vf, lk, a0, b0, a1, b1, a2, b2, a3, b3, a4, b4, hneg, az1, eq_true bz1]
          refine eff_callF rfl ((nan_any' hk).mono ?_)
          rintro v1 hz ⟨hx1, rfl⟩
          simp (disch := first | omega | assumption) only [C.k_mul_gos, T.tv, ↓reduceIte, Nat.reduceEqDiff, reduceCtorEq, Nat.reduceLeDiff, Nat.reducePow, Int.reducePow, Int.reduceToNat, Nat.reduceAdd]
          first | exact E.trans hx1 | exact ⟨E.trans hx1, rfl⟩
        case true =>
          simp only [dz, ez, Bool.not_true, Bool.not_false, Bool.and_true, Bool.and_false, Bool.true_and, Bool.false_and, Bool.or_true, Bool.or_false, Bool.true_or, Bool.false_or, Bool.false_eq_true, if_true, if_false] at hR
          subst hR
          simp (disch := first | omega | assumption) only [C.k_mul_gos, T.tv, ↓reduceIte, Nat.reduceEqDiff, reduceCtorEq, Nat.reduceLeDiff, Nat.reducePow, Int.reducePow, Int.reduceToNat, Nat.reduceAdd, vf, lk, a0, b0, a1, b1, a2, b2, a3, b3, a4, b4, hneg, az1, eq_true bz1]
          refine eff_callF rfl ((inf_any _ hk).mono ?_)
          rintro v1 hz ⟨hx1, rfl⟩
          simp (disch := first | omega | assumption) only [C.k_mul_gos, T.tv, ↓reduceIte, Nat.reduceEqDiff, reduceCtorEq, Nat.reduceLeDiff, Nat.reducePow, Int.reducePow, Int.reduceToNat, Nat.reduceAdd]
          first | exact E.trans hx1 | exact ⟨E.trans hx1, rfl⟩
    · have bz1 : ¬ (bm : Int) = 0 := by omega
      have ez : decide (bm = 0) = false := decide_eq_false bz
      cases ai
      case false =>
        cases bi
        case false =>
          simp only [dz, ez, Bool.not_true, Bool.not_false, Bool.and_true, Bool.and_false, Bool.true_and, Bool.false_and, Bool.or_true, Bool.or_false, Bool.true_or, Bool.false_or, Bool.false_eq_true, if_true, if_false] at hR
          simp (disch := first | omega | assumption) only [C.k_mul_gos, T.tv, ↓reduceIte, Nat.reduceEqDiff, reduceCtorEq, Nat.reduceLeDiff, Nat.reducePow, Int.reducePow, Int.reduceToNat, Nat.reduceAdd, vf, lk, a0, b0, a1, b1, a2, b2, a3, b3, a4, b4, hneg]
          rw [hR]
          exact mul_fin (a := ⟨false, false, sa, am, ae⟩) (b := ⟨false, false, sb, bm, be⟩) hk E H HA HB ha hb hae hbe
        case true =>
          simp only [dz, ez, Bool.not_true, Bool.not_false, Bool.and_true, Bool.and_false, Bool.true_and, Bool.false_and, Bool.or_true, Bool.or_false, Bool.true_or, Bool.false_or, Bool.false_eq_true, if_true, if_false] at hR
          subst hR
          simp (disch := first | omega | assumption) only [C.k_mul_gos, T.tv, ↓reduceIte, Nat.reduceEqDiff, reduceCtorEq, Nat.reduceLeDiff, Nat.reducePow, Int.reducePow, Int.reduceToNat, Nat.reduceAdd, vf, lk, a0, b0, a1, b1, a2, b2, a3, b3, a4, b4, hneg, az1, bz1]
          refine eff_callF rfl ((inf_any _ hk).mono ?_)
          rintro v1 hz ⟨hx1, rfl⟩
          simp (disch := first | omega | assumption) only [C.k_mul_gos, T.tv, ↓reduceIte, Nat.reduceEqDiff, reduceCtorEq, Nat.reduceLeDiff, Nat.reducePow, Int.reducePow, Int.reduceToNat, Nat.reduceAdd]
          first | exact E.trans hx1 | exact ⟨E.trans hx1, rfl⟩
      case true =>
        cases bi
        case false =>
          simp only [dz, ez, Bool.not_true, Bool.not_false, Bool.and_true, Bool.and_false, Bool.true_and, Bool.false_and, Bool.or_true, Bool.or_false, Bool.true_or, Bool.false_or, Bool.false_eq_true, if_true, if_false] at hR
          subst hR
          simp (disch := first | omega | assumption) only [C.k_mul_gos, T.tv, ↓reduceIte, Nat.reduceEqDiff, reduceCtorEq, Nat.reduceLeDiff, Nat.reducePow, Int.reducePow, Int.reduceToNat, Nat.reduceAdd, vf, lk, a0, b0, a1, b1, a2, b2, a3, b3, a4, b4, hneg, az1, bz1]
          refine eff_callF rfl ((inf_any _ hk).mono ?_)
          rintro v1 hz ⟨hx1, rfl⟩
          simp (disch := first | omega | assumption) only [C.k_mul_gos, T.tv, ↓reduceIte, Nat.reduceEqDiff, reduceCtorEq, Nat.reduceLeDiff, Nat.reducePow, Int.reducePow, Int.reduceToNat, Nat.reduceAdd]
          first | exact E.trans hx1 | exact ⟨E.trans hx1, rfl⟩
        case true =>
          simp only [dz, ez, Bool.not_true, Bool.not_false, Bool.and_true, Bool.and_false, Bool.true_and, Bool.false_and, Bool.or_true, Bool.or_false, Bool.true_or, Bool.false_or, Bool.false_eq_true, if_true, if_false] at hR
          subst hR
          simp (disch := first | omega | assumption) only [C.k_mul_gos, T.tv, ↓reduceIte, Nat.reduceEqDiff, reduceCtorEq, Nat.reduceLeDiff, Nat.reducePow, Int.reducePow, Int.reduceToNat, Nat.reduceAdd, vf, lk, a0, b0, a1, b1, a2, b2, a3, b3, a4, b4, hneg, az1, bz1]
          refine eff_callF rfl ((inf_any _ hk).mono ?_)
          rintro v1 hz ⟨hx1, rfl⟩
          simp (disch := first | omega | assumption) only [C.k_mul_gos, T.tv, ↓reduceIte, Nat.reduceEqDiff, reduceCtorEq, Nat.reduceLeDiff, Nat.reducePow, Int.reducePow, Int.reduceToNat, Nat.reduceAdd]
          first | exact E.trans hx1 | exact ⟨E.trans hx1, rfl⟩
end Go.Proofs.Ytedleaeohbjfnaa
