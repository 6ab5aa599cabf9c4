/- The reference's sum. No condition. -/
import Derived.Test.YtedleaeohbjfnaaQN
import Derived.Test.YtedleaeohbjfnaaQL
namespace Go.Proofs.Ytedleaeohbjfnaa
open Go.Vc Go.Num
set_option maxRecDepth 100000
set_option linter.unusedSimpArgs false
set_option linter.unusedVariables false

theorem bbne {a b : Bool} : decide (a ≠ b) = (a != b) := by cases a <;> cases b <;> rfl
section
variable {h0 h : Heap} {m e g3 g4 g5 : Nat} {a b : Nm} {X Y : Nat} {E2 : Int} {more : Bool} {v0 v1 v2 u11 u12 u33 u41 u76 u88 u101 u129 u141 u153 u161 : Value}
set_option maxHeartbeats 1000000 in
theorem add_fin (hk : Kd m e) (E : Ext h0 h) (H : KB h g3 m e) (HA : NB h g4 a) (HB : NB h g5 b) (hX : X < 9223372036854775808) (hY : Y < 9223372036854775808) (hE : -100000 ≤ E2 ∧ E2 ≤ 100000) (hm : more = true → Y < X) :
    Cd.vc Try.prog C.k_add_t0 (retQ Try.prog [(6, none)] fun v h' => Ext h0 h' ∧ v = .int .u64 (((if a.neg = b.neg then closeP (fmt m e) a.neg (X + Y) E2 more else if X < Y then closeP (fmt m e) b.neg (Y - X) E2 false
      else if more = true then closeP (fmt m e) a.neg (X - Y - 1) E2 true else if X = Y then 0 else closeP (fmt m e) a.neg (X - Y) E2 false) : Nat) : Int))
      [(0, v0), (1, v1), (2, v2), (3, .pointer (some ⟨g3, 0, none⟩)), (4, .pointer (some ⟨g4, 0, none⟩)), (5, .pointer (some ⟨g5, 0, none⟩)), (6, .int .u64 0), (7, .int .u64 (X : Int)), (8, .int .i64 E2), (9, .int .u64 (Y : Int)), (10, .bool more),
       (11, u11), (12, u12), (33, u33), (41, u41), (76, u76), (88, u88), (101, u101), (129, u129), (141, u141), (153, u153), (161, u161)] h := by
  rw [C.k_add_t0_go]
  have lk := H.ld
  have a2 := HA.c2
  have b2 := HB.c2
  have close := fun (h' : Heap) (neg st : Bool) (x : Nat) (hx : x < 18446744073709551616) => close_any (h := h') (neg := neg) (st := st) hk hx hE
  generalize a.neg = an at *
  generalize b.neg = bn at *
  by_cases s : an = bn
  · rw [if_pos s]
    have e1 : IntKind.u64.wrap ((X : Int) + (Y : Int)) = ((X + Y : Nat) : Int) := by rw [wrap_u64 (by omega) (by omega)]; omega
    simp (disch := first | omega | assumption) only [C.k_add_gos, T.tv, ↓reduceIte, Nat.reduceEqDiff, reduceCtorEq, Nat.reduceLeDiff, Nat.reducePow, Int.reducePow, Int.reduceToNat, Nat.reduceAdd, vf, lk, a2, b2, s, e1]
    refine eff_callF rfl ((close _ _ _ _ (by omega)).mono ?_)
    rintro v1 h1 ⟨hx1, rfl⟩
    subst s
    simp (disch := first | omega | assumption) only [C.k_add_gos, T.tv, ↓reduceIte, Nat.reduceEqDiff, reduceCtorEq, Nat.reduceLeDiff, Nat.reducePow, Int.reducePow, Int.reduceToNat, Nat.reduceAdd]
    first | exact E.trans hx1 | exact ⟨E.trans hx1, rfl⟩
  rw [if_neg s]
  by_cases c : X < Y
  · rw [if_pos c]
    have c' : (X : Int) < (Y : Int) := by omega
    have e1 : IntKind.u64.wrap ((Y : Int) - (X : Int)) = ((Y - X : Nat) : Int) := by rw [wrap_u64 (by omega) (by omega)]; omega
    simp (disch := first | omega | assumption) only [C.k_add_gos, T.tv, ↓reduceIte, Nat.reduceEqDiff, reduceCtorEq, Nat.reduceLeDiff, Nat.reducePow, Int.reducePow, Int.reduceToNat, Nat.reduceAdd, vf, lk, a2, b2, s, c', e1]
    refine eff_callF rfl ((close _ _ _ _ (by omega)).mono ?_)
    rintro v1 h1 ⟨hx1, rfl⟩
    simp (disch := first | omega | assumption) only [C.k_add_gos, T.tv, ↓reduceIte, Nat.reduceEqDiff, reduceCtorEq, Nat.reduceLeDiff, Nat.reducePow, Int.reducePow, Int.reduceToNat, Nat.reduceAdd]
    first | exact E.trans hx1 | exact ⟨E.trans hx1, rfl⟩
  rw [if_neg c]
  have c' : ¬ (X : Int) < (Y : Int) := by omega
  have e1 : IntKind.u64.wrap ((X : Int) - (Y : Int)) = ((X - Y : Nat) : Int) := by rw [wrap_u64 (by omega) (by omega)]; omega
  cases more
  · rw [if_neg (by decide)]
    by_cases d : X = Y
    · rw [if_pos d]
      have d' : ((X - Y : Nat) : Int) = 0 := by omega
      simp (disch := first | omega | assumption) only [C.k_add_gos, T.tv, ↓reduceIte, Nat.reduceEqDiff, reduceCtorEq, Nat.reduceLeDiff, Nat.reducePow, Int.reducePow, Int.reduceToNat, Nat.reduceAdd, vf, lk, a2, b2, s, c', e1, d']
      first | exact E | exact ⟨E, rfl⟩
    · rw [if_neg d]
      have d' : ¬ ((X - Y : Nat) : Int) = 0 := by omega
      simp (disch := first | omega | assumption) only [C.k_add_gos, T.tv, ↓reduceIte, Nat.reduceEqDiff, reduceCtorEq, Nat.reduceLeDiff, Nat.reducePow, Int.reducePow, Int.reduceToNat, Nat.reduceAdd, vf, lk, a2, b2, s, c', e1, d']
      refine eff_callF rfl ((close _ _ _ _ (by omega)).mono ?_)
      rintro v1 h1 ⟨hx1, rfl⟩
      simp (disch := first | omega | assumption) only [C.k_add_gos, T.tv, ↓reduceIte, Nat.reduceEqDiff, reduceCtorEq, Nat.reduceLeDiff, Nat.reducePow, Int.reducePow, Int.reduceToNat, Nat.reduceAdd]
      first | exact E.trans hx1 | exact ⟨E.trans hx1, rfl⟩
  · rw [if_pos rfl]
    have hlt := hm rfl
    have e2 : IntKind.u64.wrap (((X - Y : Nat) : Int) - 1) = ((X - Y - 1 : Nat) : Int) := by rw [wrap_u64 (by omega) (by omega)]; omega
    by_cases d : X - Y - 1 = 0
    · have d' : ((X - Y - 1 : Nat) : Int) = 0 := by omega
      simp (disch := first | omega | assumption) only [C.k_add_gos, T.tv, ↓reduceIte, Nat.reduceEqDiff, reduceCtorEq, Nat.reduceLeDiff, Nat.reducePow, Int.reducePow, Int.reduceToNat, Nat.reduceAdd, vf, lk, a2, b2, s, c', e1, e2, d']
      rw [← d']
      refine eff_callF rfl ((close _ _ _ _ (by omega)).mono ?_)
      rintro v1 h1 ⟨hx1, rfl⟩
      simp (disch := first | omega | assumption) only [C.k_add_gos, T.tv, ↓reduceIte, Nat.reduceEqDiff, reduceCtorEq, Nat.reduceLeDiff, Nat.reducePow, Int.reducePow, Int.reduceToNat, Nat.reduceAdd]
      first | exact E.trans hx1 | exact ⟨E.trans hx1, rfl⟩
    · have d' : ¬ ((X - Y - 1 : Nat) : Int) = 0 := by omega
      simp (disch := first | omega | assumption) only [C.k_add_gos, T.tv, ↓reduceIte, Nat.reduceEqDiff, reduceCtorEq, Nat.reduceLeDiff, Nat.reducePow, Int.reducePow, Int.reduceToNat, Nat.reduceAdd, vf, lk, a2, b2, s, c', e1, e2, d']
      refine eff_callF rfl ((close _ _ _ _ (by omega)).mono ?_)
      rintro v1 h1 ⟨hx1, rfl⟩
      simp (disch := first | omega | assumption) only [C.k_add_gos, T.tv, ↓reduceIte, Nat.reduceEqDiff, reduceCtorEq, Nat.reduceLeDiff, Nat.reducePow, Int.reducePow, Int.reduceToNat, Nat.reduceAdd]
      first | exact E.trans hx1 | exact ⟨E.trans hx1, rfl⟩
set_option maxHeartbeats 1000000 in
theorem add_tail (hk : Kd m e) (E : Ext h0 h) (H : KB h g3 m e) (HA : NB h g4 a) (HB : NB h g5 b) (ha : a.Ok (fmt m e)) (hb : b.Ok (fmt m e)) (hae : a.e ≤ 10000) (ho : swapN a b = false) :
    Cd.vc Try.prog C.k_add_t1 (retQ Try.prog [(6, none)] fun v h' => Ext h0 h' ∧ v = .int .u64 ((addC (fmt m e) a b : Nat) : Int))
      [(0, v0), (1, v1), (2, v2), (3, .pointer (some ⟨g3, 0, none⟩)), (4, .pointer (some ⟨g4, 0, none⟩)), (5, .pointer (some ⟨g5, 0, none⟩)), (6, .int .u64 0), (7, undef), (8, undef), (9, undef), (10, undef),
       (11, undef), (12, u12), (33, u33), (41, u41), (76, u76), (88, u88), (101, u101), (129, u129), (141, u141), (153, u153), (161, u161)] h := by
  rw [C.k_add_t1_go]
  have hm53 : (2 : Nat) ^ (m + 1) ≤ 9007199254740992 := by
    rcases hk with ⟨rfl, rfl⟩ | ⟨rfl, rfl⟩ <;> decide
  have hlp : -1074 ≤ (fmt m e).leastPlace := by rcases hk with ⟨rfl, rfl⟩ | ⟨rfl, rfl⟩ <;> decide
  have am : a.m < 2 ^ (m + 1) := ha.m
  have bm : b.m < 2 ^ (m + 1) := hb.m
  have ae := ha.e
  have be := hb.e
  have an := ha.n
  have hmm : (fmt m e).fractionBits = m := rfl
  rw [hmm] at an
  unfold swapN at ho
  simp only [Bool.or_eq_false_iff, Bool.and_eq_false_iff, decide_eq_false_iff_not] at ho
  obtain ⟨o1, _⟩ := ho
  have a3 := HA.c3
  have a4 := HA.c4
  have b3 := HB.c3
  have b4 := HB.c4
  have p1 : 2 ^ (m + 1) = 2 * 2 ^ m := by rw [Nat.pow_succ]; omega
  have hp0 := two_pos m
  have e1 : IntKind.u64.wrap ((a.m : Int) * 1024) = ((a.m * 1024 : Nat) : Int) := by rw [wrap_u64 (by omega) (by omega)]; omega
  obtain ⟨E2, hE2⟩ : ∃ E2, E2 = a.e - 10 := ⟨_, rfl⟩
  have fin := fun (Y : Nat) (more : Bool) (u88 u101 u11 : Value) (hY : Y < 9223372036854775808) (hm' : more = true → Y < a.m * 1024) =>
    add_fin (v0 := v0) (v1 := v1) (v2 := v2) (u11 := u11) (u12 := u12) (u33 := u33) (u41 := u41) (u76 := u76) (u88 := u88) (u101 := u101) (u129 := u129) (u141 := u141) (u153 := u153) (u161 := u161) (E2 := E2) (X := a.m * 1024) (Y := Y) (more := more) hk E H HA HB (by omega) hY (by omega) hm'
  have hpost : ∀ (Y : Nat) (more : Bool), (if E2 ≤ b.e then b.m * 2 ^ (b.e - E2).toNat else b.m / 2 ^ (E2 - b.e).toNat) = Y → (decide (b.e < E2) && decide (b.m % 2 ^ (E2 - b.e).toNat ≠ 0)) = more →
      addC (fmt m e) a b = (if a.neg = b.neg then closeP (fmt m e) a.neg (a.m * 1024 + Y) E2 more else if a.m * 1024 < Y then closeP (fmt m e) b.neg (Y - a.m * 1024) E2 false
      else if more = true then closeP (fmt m e) a.neg (a.m * 1024 - Y - 1) E2 true else if a.m * 1024 = Y then 0 else closeP (fmt m e) a.neg (a.m * 1024 - Y) E2 false) := by
    intro Y more h1 h2
    unfold addC
    dsimp only
    rw [← hE2, h1, h2]
  by_cases c : E2 ≤ b.e
  · obtain ⟨k, hk2⟩ : ∃ k, k = (b.e - E2).toNat := ⟨_, rfl⟩
    rw [hpost (b.m * 2 ^ k) false (by rw [if_pos c, ← hk2]) (by rw [decide_eq_false (by omega)]; rfl)]
    have hkle : 2 ^ k ≤ 2 ^ 10 := Nat.pow_le_pow_right (by decide) (by omega)
    have hYb : b.m * 2 ^ k ≤ 9007199254740991 * 2 ^ 10 := Nat.mul_le_mul (by omega) hkle
    have d1 : b.e - E2 = (k : Int) := by omega
    have hk64 : k ≤ 64 := by omega
    have e2 : IntKind.u64.wrap ((b.m : Int) * 2 ^ k) = ((b.m * 2 ^ k : Nat) : Int) := by
      rw [show (b.m : Int) * 2 ^ k = ((b.m * 2 ^ k : Nat) : Int) by rw [Int.natCast_mul, Int.natCast_pow]; rfl]
      exact wrap_u64 (by omega) (by omega)
    have hYc : b.m * 2 ^ k < 9223372036854775808 := Nat.lt_of_le_of_lt hYb (by decide)
    have fin' := fin (b.m * 2 ^ k) false
    clear fin hpost
    generalize b.m * 2 ^ k = Y at *
    have e3 : IntKind.i64.wrap (a.e - 10) = E2 := by rw [hE2]; exact wrap_i64 (by omega) (by omega)
    simp (disch := first | omega | assumption) only [C.k_add_gos, T.tv, ↓reduceIte, Nat.reduceEqDiff, reduceCtorEq, Nat.reduceLeDiff, Nat.reducePow, Int.reducePow, Int.reduceToNat, Nat.reduceAdd, vf, a3, a4, b3, b4, e1, e3, c, d1, e2, hk64]
    exact fin' _ _ _ hYc (by intro h; cases h)
  · obtain ⟨s, hs⟩ : ∃ s, s = (E2 - b.e).toNat := ⟨_, rfl⟩
    have hs1 : 1 ≤ s := by omega
    have ham := an (by omega)
    have h2s : 2 ^ 1 ≤ 2 ^ s := Nat.pow_le_pow_right (by decide) hs1
    have hYle : b.m / 2 ^ s ≤ b.m / 2 := Nat.div_le_div_left h2s (by decide)
    have e3 : IntKind.i64.wrap (a.e - 10) = E2 := by rw [hE2]; exact wrap_i64 (by omega) (by omega)
    have d1 : E2 - b.e = (s : Int) := by omega
    have fin' := fin (b.m / 2 ^ s) (decide (b.m % 2 ^ s ≠ 0))
    rw [hpost (b.m / 2 ^ s) (decide (b.m % 2 ^ s ≠ 0)) (by rw [if_neg c, ← hs]) (by rw [decide_eq_true (by omega), Bool.true_and, ← hs])]
    clear fin hpost
    by_cases s64 : s < 64
    · have s64' : (s : Int) < 64 := by omega
      have s64'' : ¬ (64 : Int) ≤ (s : Int) := by omega
      have hk64 : s ≤ 64 := by omega
      have hdm := Nat.div_add_mod b.m (2 ^ s)
      rw [Nat.mul_comm] at hdm
      have e4 : (b.m : Int).fdiv (2 ^ s) = ((b.m / 2 ^ s : Nat) : Int) := by
        have hn : (2 : Int) ^ s = ((2 ^ s : Nat) : Int) := by rw [Int.natCast_pow]; rfl
        rw [hn, Int.fdiv_eq_ediv_of_nonneg _ (by omega), Int.natCast_ediv]
      have e5 : ((b.m / 2 ^ s : Nat) : Int) * 2 ^ s = ((b.m / 2 ^ s * 2 ^ s : Nat) : Int) := by rw [Int.natCast_mul, Int.natCast_pow]; rfl
      generalize b.m / 2 ^ s = Y at *
      generalize b.m % 2 ^ s = r at *
      generalize Y * 2 ^ s = z at *
      have e6 : IntKind.u64.wrap (z : Int) = (z : Int) := wrap_u64 (by omega) (by omega)
      by_cases r0 : r = 0
      · have r0' : (z : Int) = (b.m : Int) := by omega
        rw [decide_eq_false (by omega : ¬ r ≠ 0)] at fin' ⊢
        simp (disch := first | omega | assumption) only [C.k_add_gos, T.tv, ↓reduceIte, Nat.reduceEqDiff, reduceCtorEq, Nat.reduceLeDiff, Nat.reducePow, Int.reducePow, Int.reduceToNat, Nat.reduceAdd, vf, a3, a4, b3, b4, e1, e3, c, d1, s64', s64'', hk64, e4, e5, e6, r0']
        exact fin' _ _ _ (by omega) (by intro h; cases h)
      · have r0' : ¬ (z : Int) = (b.m : Int) := by omega
        rw [decide_eq_true (by omega : r ≠ 0)] at fin' ⊢
        simp (disch := first | omega | assumption) only [C.k_add_gos, T.tv, ↓reduceIte, Nat.reduceEqDiff, reduceCtorEq, Nat.reduceLeDiff, Nat.reducePow, Int.reducePow, Int.reduceToNat, Nat.reduceAdd, vf, a3, a4, b3, b4, e1, e3, c, d1, s64', s64'', hk64, e4, e5, e6, r0']
        exact fin' _ _ _ (by omega) (by intro h; omega)
    · have s64' : ¬ (s : Int) < 64 := by omega
      have s64'' : (64 : Int) ≤ (s : Int) := by omega
      have h64 : 2 ^ 64 ≤ 2 ^ s := Nat.pow_le_pow_right (by decide) (by omega)
      rw [show (2 : Nat) ^ 64 = 18446744073709551616 by decide] at h64
      rw [Nat.div_eq_of_lt (by omega), Nat.mod_eq_of_lt (by omega)] at fin' ⊢
      by_cases r0 : b.m = 0
      · have r0' : ¬ (0 : Int) < (b.m : Int) := by omega
        rw [decide_eq_false (by omega : ¬ b.m ≠ 0)] at fin' ⊢
        simp (disch := first | omega | assumption) only [C.k_add_gos, T.tv, ↓reduceIte, Nat.reduceEqDiff, reduceCtorEq, Nat.reduceLeDiff, Nat.reducePow, Int.reducePow, Int.reduceToNat, Nat.reduceAdd, vf, a3, a4, b3, b4, e1, e3, c, d1, s64', s64'', r0']
        exact fin' _ _ _ (by omega) (by intro h; cases h)
      · have r0' : (0 : Int) < (b.m : Int) := by omega
        rw [decide_eq_true (by omega : b.m ≠ 0)] at fin' ⊢
        simp (disch := first | omega | assumption) only [C.k_add_gos, T.tv, ↓reduceIte, Nat.reduceEqDiff, reduceCtorEq, Nat.reduceLeDiff, Nat.reducePow, Int.reducePow, Int.reduceToNat, Nat.reduceAdd, vf, a3, a4, b3, b4, e1, e3, c, d1, s64', s64'', r0']
        exact fin' _ _ _ (by omega) (by intro h; omega)
end
set_option maxHeartbeats 300000 in
theorem add_any {h : Heap} {m e : Nat} {a b : Nm} (hk : Kd m e) (ha : a.Ok (fmt m e)) (hb : b.Ok (fmt m e)) (hae : a.e ≤ 10000) (hbe : b.e ≤ 10000) :
    HCalls Try.prog 28 #[kV m e, nV a, nV b] h fun v h' => Ext h h' ∧ v = .int .u64 ((addP (fmt m e) a b : Nat) : Int) := by
  refine C.k_add_calls (args := [kV m e, nV a, nV b]) rfl ?_
  simp (disch := first | omega | assumption) only [C.k_add_gos, T.tv, ↓reduceIte, Nat.reduceEqDiff, reduceCtorEq, Nat.reduceLeDiff, Nat.reducePow, Int.reducePow, Int.reduceToNat, Nat.reduceAdd]
  refine eff_box ?_
  have H := KB.push h m e
  have E := Ext.push h (.cells #[.int .i64 (m : Int), .int .i64 (e : Int)] 35)
  simp (disch := first | omega | assumption) only [C.k_add_gos, T.tv, ↓reduceIte, Nat.reduceEqDiff, reduceCtorEq, Nat.reduceLeDiff, Nat.reducePow, Int.reducePow, Int.reduceToNat, Nat.reduceAdd, Nat.zero_add]
  generalize h.push (.cells #[.int .i64 (m : Int), .int .i64 (e : Int)] 35) = h1 at *
  obtain ⟨g3, hg3⟩ : ∃ g, g = h.size := ⟨_, rfl⟩
  rw [← hg3] at H ⊢
  have g3l := KB.lt H
  refine eff_box ?_
  have HA := NB.push h1 a
  have E1 := Ext.push h1 (.cells (nC a) 52)
  simp (disch := first | omega | assumption) only [C.k_add_gos, T.tv, ↓reduceIte, Nat.reduceEqDiff, reduceCtorEq, Nat.reduceLeDiff, Nat.reducePow, Int.reducePow, Int.reduceToNat, Nat.reduceAdd, Nat.zero_add]
  generalize h1.push (.cells (nC a) 52) = h2 at *
  obtain ⟨g4, hg4⟩ : ∃ g, g = h1.size := ⟨_, rfl⟩
  rw [← hg4] at HA g3l ⊢
  have l4 : h.size ≤ g4 := by rw [hg4]; exact E.size
  replace H := H.ext E1
  replace E := E.trans E1
  have g4l := NB.lt HA
  refine eff_box ?_
  have HB := NB.push h2 b
  have E2 := Ext.push h2 (.cells (nC b) 52)
  simp (disch := first | omega | assumption) only [C.k_add_gos, T.tv, ↓reduceIte, Nat.reduceEqDiff, reduceCtorEq, Nat.reduceLeDiff, Nat.reducePow, Int.reducePow, Int.reduceToNat, Nat.reduceAdd, Nat.zero_add]
  generalize h2.push (.cells (nC b) 52) = h3 at *
  obtain ⟨g5, hg5⟩ : ∃ g, g = h2.size := ⟨_, rfl⟩
  rw [← hg5] at HB g4l ⊢
  have l5 : h.size ≤ g5 := by rw [hg5]; exact E.size
  replace H := H.ext E2
  replace HA := HA.ext E2
  replace E := E.trans E2
  clear E1 E2
  have lk := H.ld
  have a0 := HA.c0
  have a1 := HA.c1
  have a2 := HA.c2
  have a3 := HA.c3
  have a4 := HA.c4
  have b0 := HB.c0
  have b1 := HB.c1
  have b2 := HB.c2
  have b3 := HB.c3
  have b4 := HB.c4
  have tl1 := fun (v0 v1 v2 u12 u33 u41 u76 u88 u101 u129 u141 u153 u161 : Value) => add_tail (v0 := v0) (v1 := v1) (v2 := v2) (u12 := u12) (u33 := u33) (u41 := u41) (u76 := u76) (u88 := u88) (u101 := u101) (u129 := u129) (u141 := u141) (u153 := u153) (u161 := u161) hk E H HA HB ha hb hae
  have tl2 := fun (h' : Heap) (v0 v1 v2 u12 u33 u41 u76 u88 u101 u129 u141 u153 u161 : Value) (E' : Ext h h') (H' : KB h' g3 m e) (HB' : NB h' g4 b) (HA' : NB h' g5 a) => add_tail (v0 := v0) (v1 := v1) (v2 := v2) (u12 := u12) (u33 := u33) (u41 := u41) (u76 := u76) (u88 := u88) (u101 := u101) (u129 := u129) (u141 := u141) (u153 := u153) (u161 := u161) hk E' H' HB' HA' hb ha hbe
  obtain ⟨an, ai, sa, am, ae⟩ := a
  obtain ⟨bn, bi, sb, bm, be⟩ := b
  simp only at a0 a1 a2 a3 a4 b0 b1 b2 b3 b4
  unfold addP
  simp only
  by_cases n : (an || bn || (ai && bi && (sa != sb))) = true
  · rw [if_pos n]
    have key : ∀ K : Prop, (an = true → K) → (an = false → bn = true → K) → (an = false → bn = false → ai = true → bi = true → (sa != sb) = true → K) → K := by
      intro K k1 k2 k3
      cases an <;> cases bn <;> cases ai <;> cases bi <;> simp at n <;> simp [n] at * <;> first | exact k1 | exact k2 | exact k3
    refine key _ ?_ ?_ ?_
    · rintro rfl
      simp (disch := first | omega | assumption) only [C.k_add_gos, T.tv, ↓reduceIte, Nat.reduceEqDiff, reduceCtorEq, Nat.reduceLeDiff, Nat.reducePow, Int.reducePow, Int.reduceToNat, Nat.reduceAdd, vf, lk, a0, b0]
      refine eff_callF rfl ((nan_any' hk).mono ?_)
      rintro v1 hz ⟨hx1, rfl⟩
      simp (disch := first | omega | assumption) only [C.k_add_gos, T.tv, ↓reduceIte, Nat.reduceEqDiff, reduceCtorEq, Nat.reduceLeDiff, Nat.reducePow, Int.reducePow, Int.reduceToNat, Nat.reduceAdd]
      first | exact E.trans hx1 | exact ⟨E.trans hx1, rfl⟩
    · rintro rfl rfl
      simp (disch := first | omega | assumption) only [C.k_add_gos, T.tv, ↓reduceIte, Nat.reduceEqDiff, reduceCtorEq, Nat.reduceLeDiff, Nat.reducePow, Int.reducePow, Int.reduceToNat, Nat.reduceAdd, vf, lk, a0, b0]
      refine eff_callF rfl ((nan_any' hk).mono ?_)
      rintro v1 hz ⟨hx1, rfl⟩
      simp (disch := first | omega | assumption) only [C.k_add_gos, T.tv, ↓reduceIte, Nat.reduceEqDiff, reduceCtorEq, Nat.reduceLeDiff, Nat.reducePow, Int.reducePow, Int.reduceToNat, Nat.reduceAdd]
      first | exact E.trans hx1 | exact ⟨E.trans hx1, rfl⟩
    · rintro rfl rfl rfl rfl hd
      have hd' : sa ≠ sb := by intro h; rw [h] at hd; simp at hd
      simp (disch := first | omega | assumption) only [C.k_add_gos, T.tv, ↓reduceIte, Nat.reduceEqDiff, reduceCtorEq, Nat.reduceLeDiff, Nat.reducePow, Int.reducePow, Int.reduceToNat, Nat.reduceAdd, vf, lk, a0, b0, a1, b1, a2, b2, hd']
      refine eff_callF rfl ((nan_any' hk).mono ?_)
      rintro v1 hz ⟨hx1, rfl⟩
      simp (disch := first | omega | assumption) only [C.k_add_gos, T.tv, ↓reduceIte, Nat.reduceEqDiff, reduceCtorEq, Nat.reduceLeDiff, Nat.reducePow, Int.reducePow, Int.reduceToNat, Nat.reduceAdd]
      first | exact E.trans hx1 | exact ⟨E.trans hx1, rfl⟩
  · rw [if_neg n]
    have an0 : an = false := by cases an <;> simp at n ⊢
    have bn0 : bn = false := by cases bn <;> simp [an0] at n ⊢
    subst an0 bn0
    by_cases i : (ai || bi) = true
    · rw [if_pos i]
      have key : ∀ K : Prop, (ai = true → bi = true → sa = sb → K) → (ai = true → bi = false → K) → (ai = false → bi = true → K) → K := by
        intro K k1 k2 k3
        cases ai <;> cases bi <;> simp at i n
        · exact k3 rfl rfl
        · exact k2 rfl rfl
        · exact k1 rfl rfl n
      refine key _ ?_ ?_ ?_
      · rintro rfl rfl rfl
        cases sa
        all_goals
          simp (disch := first | omega | assumption) only [C.k_add_gos, T.tv, ↓reduceIte, Nat.reduceEqDiff, reduceCtorEq, Nat.reduceLeDiff, Nat.reducePow, Int.reducePow, Int.reduceToNat, Nat.reduceAdd, vf, lk, a0, b0, a1, b1, a2, b2]
          refine eff_callF rfl ((inf_any _ hk).mono ?_)
          rintro v1 hz ⟨hx1, rfl⟩
          simp (disch := first | omega | assumption) only [C.k_add_gos, T.tv, ↓reduceIte, Nat.reduceEqDiff, reduceCtorEq, Nat.reduceLeDiff, Nat.reducePow, Int.reducePow, Int.reduceToNat, Nat.reduceAdd]
          first | exact E.trans hx1 | exact ⟨E.trans hx1, rfl⟩
      · rintro rfl rfl
        cases sa
        all_goals
          simp (disch := first | omega | assumption) only [C.k_add_gos, T.tv, ↓reduceIte, Nat.reduceEqDiff, reduceCtorEq, Nat.reduceLeDiff, Nat.reducePow, Int.reducePow, Int.reduceToNat, Nat.reduceAdd, vf, lk, a0, b0, a1, b1, a2, b2]
          refine eff_callF rfl ((inf_any _ hk).mono ?_)
          rintro v1 hz ⟨hx1, rfl⟩
          simp (disch := first | omega | assumption) only [C.k_add_gos, T.tv, ↓reduceIte, Nat.reduceEqDiff, reduceCtorEq, Nat.reduceLeDiff, Nat.reducePow, Int.reducePow, Int.reduceToNat, Nat.reduceAdd]
          first | exact E.trans hx1 | exact ⟨E.trans hx1, rfl⟩
      · rintro rfl rfl
        cases sb
        all_goals
          simp (disch := first | omega | assumption) only [C.k_add_gos, T.tv, ↓reduceIte, Nat.reduceEqDiff, reduceCtorEq, Nat.reduceLeDiff, Nat.reducePow, Int.reducePow, Int.reduceToNat, Nat.reduceAdd, vf, lk, a0, b0, a1, b1, a2, b2]
          refine eff_callF rfl ((inf_any _ hk).mono ?_)
          rintro v1 hz ⟨hx1, rfl⟩
          simp (disch := first | omega | assumption) only [C.k_add_gos, T.tv, ↓reduceIte, Nat.reduceEqDiff, reduceCtorEq, Nat.reduceLeDiff, Nat.reducePow, Int.reducePow, Int.reduceToNat, Nat.reduceAdd]
          first | exact E.trans hx1 | exact ⟨E.trans hx1, rfl⟩
    · rw [if_neg i]
      have ai0 : ai = false := by cases ai <;> simp at i ⊢
      have bi0 : bi = false := by cases bi <;> simp at i ⊢
      subst ai0 bi0
      cases ho : swapN ⟨false, false, sa, am, ae⟩ ⟨false, false, sb, bm, be⟩
      · have tl := fun (v0 v1 v2 u12 u33 u41 u76 u88 u101 u129 u141 u153 u161 : Value) => tl1 v0 v1 v2 u12 u33 u41 u76 u88 u101 u129 u141 u153 u161 ho
        unfold swapN at ho
        simp only [Bool.or_eq_false_iff, Bool.and_eq_false_iff, decide_eq_false_iff_not] at ho
        simp only [Bool.false_eq_true, if_false]
        by_cases o1 : ae = be
        · have o2 : ¬ ae < be := by omega
          have o3 : ¬ (am : Int) < (bm : Int) := by omega
          simp (disch := first | omega | assumption) only [C.k_add_gos, T.tv, ↓reduceIte, Nat.reduceEqDiff, reduceCtorEq, Nat.reduceLeDiff, Nat.reducePow, Int.reducePow, Int.reduceToNat, Nat.reduceAdd, vf, lk, a0, b0, a1, b1, a2, b2, a3, a4, b3, b4, eq_true o1, o2, o3]
          exact tl _ _ _ _ _ _ _ _ _ _ _ _ _
        · have o2 : ¬ ae < be := by omega
          simp (disch := first | omega | assumption) only [C.k_add_gos, T.tv, ↓reduceIte, Nat.reduceEqDiff, reduceCtorEq, Nat.reduceLeDiff, Nat.reducePow, Int.reducePow, Int.reduceToNat, Nat.reduceAdd, vf, lk, a0, b0, a1, b1, a2, b2, a3, a4, b3, b4, o1, o2]
          exact tl _ _ _ _ _ _ _ _ _ _ _ _ _
      · have ho2 : swapN ⟨false, false, sb, bm, be⟩ ⟨false, false, sa, am, ae⟩ = false := by
          unfold swapN at *
          simp only [Bool.or_eq_true, Bool.and_eq_true, decide_eq_true_eq, Bool.or_eq_false_iff, Bool.and_eq_false_iff, decide_eq_false_iff_not] at *
          omega
        unfold swapN at ho
        simp only [Bool.or_eq_true, Bool.and_eq_true, decide_eq_true_eq] at ho
        simp only [if_true]
        have la := HA.ld
        have lb := HB.ld
        have fin : ∀ (h' : Heap) (v0 v1 v2 u12 u33 u41 u76 u88 u101 u129 u141 u153 u161 : Value), True := fun _ _ _ _ _ _ _ _ _ _ _ _ _ _ => trivial
        clear fin
        by_cases o2 : ae < be
        all_goals
          simp (disch := first | omega | assumption) only [C.k_add_gos, T.tv, ↓reduceIte, Nat.reduceEqDiff, reduceCtorEq, Nat.reduceLeDiff, Nat.reducePow, Int.reducePow, Int.reduceToNat, Nat.reduceAdd, vf, va, lk, a0, b0, a1, b1, a2, b2, a3, a4, b3, b4, la, lb]
          refine NB.st52 (n' := ⟨false, false, sb, bm, be⟩) HA (by rfl) (by rfl) fun hw fw nw => ?_
          simp (disch := first | omega | assumption) only [C.k_add_gos, T.tv, ↓reduceIte, Nat.reduceEqDiff, reduceCtorEq, Nat.reduceLeDiff, Nat.reducePow, Int.reducePow, Int.reduceToNat, Nat.reduceAdd]
          refine NB.st52 (n' := ⟨false, false, sa, am, ae⟩) (HB.fr fw (by omega)) (by rfl) (by rfl) fun hz fz nz => ?_
          simp (disch := first | omega | assumption) only [C.k_add_gos, T.tv, ↓reduceIte, Nat.reduceEqDiff, reduceCtorEq, Nat.reduceLeDiff, Nat.reducePow, Int.reducePow, Int.reduceToNat, Nat.reduceAdd]
          exact tl2 hz _ _ _ _ _ _ _ _ _ _ _ _ _ (ext_fr (ext_fr E fw l4) fz l5) ((H.fr fw (by omega)).fr fz (by omega)) (nw.fr fz (by omega)) nz ho2
end Go.Proofs.Ytedleaeohbjfnaa
