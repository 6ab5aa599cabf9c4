/- The reference's close: the nearest number. No condition. -/
import Derived.Test.YtedleaeohbjfnaaQJ
namespace Go.Proofs.Ytedleaeohbjfnaa
open Go.Vc Go.Num
set_option maxRecDepth 100000
set_option linter.unusedSimpArgs false
set_option linter.unusedVariables false

/-! ### Plainly -/
def lastP (m : Nat) (lp : Int) (x : Nat) (p : Int) : Int := max (p + (len x : Int) - (m : Int) - 1) lp
def qP (x : Nat) (p last : Int) (st : Bool) : Nat := if last ≤ p then x * 2 ^ (p - last).toNat else rk x (last - p).toNat st
theorem q_le (m : Nat) (lp : Int) (x : Nat) (p : Int) (st : Bool) : qP x p (lastP m lp x p) st ≤ 2 ^ (m + 1) := by
  have hl := lt_len x
  unfold qP
  have hL : p + (len x : Int) - (m : Int) - 1 ≤ lastP m lp x p := by unfold lastP; omega
  generalize lastP m lp x p = L at *
  split
  · have h1 : x * 2 ^ (p - L).toNat < 2 ^ len x * 2 ^ (p - L).toNat := Nat.mul_lt_mul_of_pos_right hl (two_pos _)
    rw [← Nat.pow_add] at h1
    have h2 : 2 ^ (len x + (p - L).toNat) ≤ 2 ^ (m + 1) := Nat.pow_le_pow_right (by decide) (by omega)
    omega
  · obtain ⟨d, hd⟩ : ∃ d, d = (L - p).toNat := ⟨_, rfl⟩
    rw [← hd]
    have h1 : x / 2 ^ d < 2 ^ (m + 1) := by
      rw [Nat.div_lt_iff_lt_mul (two_pos d), ← Nat.pow_add]
      exact Nat.lt_of_lt_of_le hl (Nat.pow_le_pow_right (by decide) (by omega))
    unfold rk
    split <;> omega
theorem q_ge {m : Nat} {lp : Int} {x : Nat} {p : Int} {st : Bool} (h0 : x ≠ 0) (h : lp < lastP m lp x p) : 2 ^ m ≤ qP x p (lastP m lp x p) st := by
  have hl := len_le h0
  have hp := len_pos h0
  unfold qP
  have hL : lastP m lp x p = p + (len x : Int) - (m : Int) - 1 := by unfold lastP at h ⊢; omega
  generalize lastP m lp x p = L at *
  split
  · have h1 : 2 ^ (len x - 1) * 2 ^ (p - L).toNat ≤ x * 2 ^ (p - L).toNat := Nat.mul_le_mul_right _ hl
    rw [← Nat.pow_add] at h1
    rw [show len x - 1 + (p - L).toNat = m by omega] at h1
    exact h1
  · obtain ⟨d, hd⟩ : ∃ d, d = (L - p).toNat := ⟨_, rfl⟩
    rw [← hd]
    have h1 : 2 ^ m ≤ x / 2 ^ d := by
      rw [Nat.le_div_iff_mul_le (two_pos d), ← Nat.pow_add]
      rw [show m + d = len x - 1 by omega]
      exact hl
    unfold rk
    omega
theorem q_zero {m : Nat} {lp p : Int} {st : Bool} : qP 0 p (lastP m lp 0 p) st = 0 := by
  unfold qP
  split
  · simp
  · exact rk_small (by have := two_pos (lastP m lp 0 p - p).toNat; omega)
theorem word_add (f : Ieee.Format) (neg : Bool) (r : Nat) : f.word neg r = f.word neg 0 + r := by
  unfold Ieee.Format.word; split <;> simp
theorem close_eq (f : Ieee.Format) (neg : Bool) (x : Nat) (p : Int) (st : Bool) (hi : 2 ^ f.fractionBits ≤ f.infRung) :
    closeP f neg x p st = f.word neg 0 + (if qP x p (lastP f.fractionBits f.leastPlace x p) st < 2 ^ f.fractionBits then qP x p (lastP f.fractionBits f.leastPlace x p) st
      else min ((lastP f.fractionBits f.leastPlace x p - f.leastPlace).toNat * 2 ^ f.fractionBits + qP x p (lastP f.fractionBits f.leastPlace x p) st) f.infRung) := by
  unfold closeP
  rw [word_add]
  congr 1
  by_cases h0 : x = 0
  · subst h0
    rw [q_zero, if_pos (two_pos _)]; rfl
  unfold rnd
  rw [if_neg h0]
  show min ((lastP f.fractionBits f.leastPlace x p - f.leastPlace).toNat * f.binade + qP x p (lastP f.fractionBits f.leastPlace x p) st) f.infRung = _
  rw [show f.binade = 2 ^ f.fractionBits from rfl]
  split
  · rename_i hlt
    have hL : lastP f.fractionBits f.leastPlace x p = f.leastPlace := by
      have h1 : f.leastPlace ≤ lastP f.fractionBits f.leastPlace x p := by unfold lastP; omega
      rcases Int.lt_or_eq_of_le h1 with h | h
      · have := q_ge (st := st) h0 h; omega
      · exact h.symm
    rw [hL, Int.sub_self, Int.toNat_zero, Nat.zero_mul, Nat.zero_add]
    rw [hL] at hlt
    exact Nat.min_eq_left (by omega)
  · rfl

/-! ### The walk -/
set_option maxHeartbeats 1000000 in
theorem close_tail {h0 h : Heap} {m e g q : Nat} {neg st up : Bool} {x : Nat} {p L sh : Int} {u15 u16 u17 u32 u39 u69 u81 u89 u98 u114 : Value} (hk : Kd m e) (E : Ext h0 h) (H : KB h g m e)
    (hL : L = lastP m (fmt m e).leastPlace x p) (hL2 : -200000 ≤ L ∧ L ≤ 200000) (hq : qP x p L st = q + (if up = true then 1 else 0)) :
    Cd.vc Try.prog C.k_close_t0 (retQ Try.prog [(10, none)] fun v h' => Ext h0 h' ∧ v = .int .u64 ((closeP (fmt m e) neg x p st : Nat) : Int))
      [(0, kV m e), (1, .bool neg), (2, .int .u64 (x : Int)), (3, .int .i64 p), (4, .bool st), (5, .pointer (some ⟨g, 0, none⟩)), (10, .int .u64 0), (11, .int .i64 L), (12, .int .i64 sh), (13, .int .u64 (q : Int)), (14, .bool up),
       (15, u15), (16, u16), (17, u17), (32, u32), (39, u39), (69, u69), (81, u81), (89, u89), (98, u98), (114, u114)] h := by
  rw [C.k_close_t0_go]
  have hmax : (fmt m e).infRung = (2 ^ e - 1) * 2 ^ m := rfl
  rw [close_eq _ _ _ _ _ (by rw [hmax]; exact Nat.le_mul_of_pos_left _ (by rcases hk with ⟨rfl, rfl⟩ | ⟨rfl, rfl⟩ <;> decide))]
  have hle := q_le m (fmt m e).leastPlace x p st
  have hll : (fmt m e).leastPlace ≤ L := by rw [hL]; unfold lastP; omega
  show Cd.vc _ _ (retQ Try.prog [(10, none)] fun v h' => Ext h0 h' ∧ v = .int .u64 (((fmt m e).word neg 0 + (if qP x p (lastP m (fmt m e).leastPlace x p) st < 2 ^ m then qP x p (lastP m (fmt m e).leastPlace x p) st
      else min ((lastP m (fmt m e).leastPlace x p - (fmt m e).leastPlace).toNat * 2 ^ m + qP x p (lastP m (fmt m e).leastPlace x p) st) (fmt m e).infRung) : Nat) : Int)) _ _
  rw [← hL] at hle ⊢
  clear hL
  generalize hQ : qP x p L st = Q at *
  clear hQ
  have sign := fun (h' : Heap) => sign_any (h := h') neg hk
  have infy := fun (h' : Heap) => inf_any (h := h') neg hk
  have least := fun (h' : Heap) => least_any (h := h') hk
  have hinf : infW (fmt m e) neg = (fmt m e).word neg 0 + (fmt m e).infRung := by
    unfold infW Ieee.Format.word; cases neg <;> simp
  rw [hinf] at infy
  clear hinf hmax
  have hw : (fmt m e).word neg 0 ≤ 9223372036854775808 ∧ (m = 23 → (fmt m e).word neg 0 ≤ 2147483648) := by
    unfold Ieee.Format.word
    rcases hk with ⟨rfl, rfl⟩ | ⟨rfl, rfl⟩ <;> cases neg <;> decide
  generalize (fmt m e).word neg 0 = sw at *
  --TAIL
  rcases hk with ⟨rfl, rfl⟩ | ⟨rfl, rfl⟩
  · rw [lp23] at hll
    rw [lp23] at least ⊢
    rw [ir23] at infy ⊢
    have hsw : sw ≤ 2147483648 := hw.2 rfl
    clear hw
    have hle' : Q ≤ 16777216 := hle
    clear hle
    rw [show (2 : Nat) ^ 23 = 8388608 by decide]
    generalize hR : (sw + (if Q < 8388608 then Q else min ((L - -149).toNat * 8388608 + Q) 2139095040) : Nat) = R
    have cs : (Q < 8388608 ∧ R = sw + Q) ∨ (8388608 ≤ Q ∧ Q < 16777216 ∧ L + 150 < 255 ∧ (R : Int) = sw + (L + 149) * 8388608 + Q) ∨ (8388608 ≤ Q ∧ Q < 16777216 ∧ 255 ≤ L + 150 ∧ R = sw + 2139095040) ∨ (Q = 16777216 ∧ L + 151 < 255 ∧ (R : Int) = sw + (L + 149) * 8388608 + 16777216) ∨ (Q = 16777216 ∧ 255 ≤ L + 151 ∧ R = sw + 2139095040) := by
      rw [← hR]
      by_cases c : Q < 8388608
      · rw [if_pos c]; omega
      · rw [if_neg c]; omega
    clear hR
    have c0 := H.c0
    have c1 := H.c1
    have lk := H.ld
    cases up
    · simp only [Bool.false_eq_true, if_false] at hq
      obtain rfl : Q = q := by omega
      rcases cs with ⟨s1, s2⟩ | ⟨s1, s2, s3, s4⟩ | ⟨s1, s2, s3, s4⟩ | ⟨s1, s2, s3⟩ | ⟨s1, s2, s3⟩
      · simp (disch := first | omega | assumption) only [C.k_close_gos, T.tv, ↓reduceIte, Nat.reduceEqDiff, reduceCtorEq, Nat.reduceLeDiff, Nat.reducePow, Int.reducePow, Int.reduceToNat, Nat.reduceAdd, vf, va, cc23, cc8, cc52, cc11, Int.reduceSub, Int.reduceAdd, Int.reduceMul, c0, c1, lk]
        refine eff_callF rfl ((sign _).mono ?_)
        rintro v1 h1 ⟨hx1, rfl⟩
        simp (disch := first | omega | assumption) only [C.k_close_gos, T.tv, ↓reduceIte, Nat.reduceEqDiff, reduceCtorEq, Nat.reduceLeDiff, Nat.reducePow, Int.reducePow, Int.reduceToNat, Nat.reduceAdd, vf, va, cc23, cc8, cc52, cc11, Int.reduceSub, Int.reduceAdd, Int.reduceMul]
        first | exact ⟨E.trans hx1, by rw [s2]; rfl⟩ | exact ⟨E.trans hx1, congrArg (Value.int .u64) (by omega)⟩
      · simp (disch := first | omega | assumption) only [C.k_close_gos, T.tv, ↓reduceIte, Nat.reduceEqDiff, reduceCtorEq, Nat.reduceLeDiff, Nat.reducePow, Int.reducePow, Int.reduceToNat, Nat.reduceAdd, vf, va, cc23, cc8, cc52, cc11, Int.reduceSub, Int.reduceAdd, Int.reduceMul, c0, c1, lk]
        refine eff_callF rfl ((least _).mono ?_)
        rintro v1 h1 ⟨hx1, rfl⟩
        have H1 := H.ext hx1
        have c01 := H1.c0
        have c11 := H1.c1
        have lk1 := H1.ld
        simp (disch := first | omega | assumption) only [C.k_close_gos, T.tv, ↓reduceIte, Nat.reduceEqDiff, reduceCtorEq, Nat.reduceLeDiff, Nat.reducePow, Int.reducePow, Int.reduceToNat, Nat.reduceAdd, vf, va, cc23, cc8, cc52, cc11, Int.reduceSub, Int.reduceAdd, Int.reduceMul, c01, c11, lk1]
        refine eff_callF rfl ((sign _).mono ?_)
        rintro v2 h2 ⟨hx2, rfl⟩
        have H2 := H1.ext hx2
        have c02 := H2.c0
        have c12 := H2.c1
        simp (disch := first | omega | assumption) only [C.k_close_gos, T.tv, ↓reduceIte, Nat.reduceEqDiff, reduceCtorEq, Nat.reduceLeDiff, Nat.reducePow, Int.reducePow, Int.reduceToNat, Nat.reduceAdd, vf, va, cc23, cc8, cc52, cc11, Int.reduceSub, Int.reduceAdd, Int.reduceMul, c02, c12]
        exact ⟨(E.trans hx1).trans hx2, congrArg (Value.int .u64) (by omega)⟩
      · simp (disch := first | omega | assumption) only [C.k_close_gos, T.tv, ↓reduceIte, Nat.reduceEqDiff, reduceCtorEq, Nat.reduceLeDiff, Nat.reducePow, Int.reducePow, Int.reduceToNat, Nat.reduceAdd, vf, va, cc23, cc8, cc52, cc11, Int.reduceSub, Int.reduceAdd, Int.reduceMul, c0, c1, lk]
        refine eff_callF rfl ((least _).mono ?_)
        rintro v1 h1 ⟨hx1, rfl⟩
        have H1 := H.ext hx1
        have c01 := H1.c0
        have c11 := H1.c1
        have lk1 := H1.ld
        simp (disch := first | omega | assumption) only [C.k_close_gos, T.tv, ↓reduceIte, Nat.reduceEqDiff, reduceCtorEq, Nat.reduceLeDiff, Nat.reducePow, Int.reducePow, Int.reduceToNat, Nat.reduceAdd, vf, va, cc23, cc8, cc52, cc11, Int.reduceSub, Int.reduceAdd, Int.reduceMul, c01, c11, lk1]
        refine eff_callF rfl ((infy _).mono ?_)
        rintro v2 h2 ⟨hx2, rfl⟩
        simp (disch := first | omega | assumption) only [C.k_close_gos, T.tv, ↓reduceIte, Nat.reduceEqDiff, reduceCtorEq, Nat.reduceLeDiff, Nat.reducePow, Int.reducePow, Int.reduceToNat, Nat.reduceAdd, vf, va, cc23, cc8, cc52, cc11, Int.reduceSub, Int.reduceAdd, Int.reduceMul]
        first | exact ⟨(E.trans hx1).trans hx2, by rw [s4]⟩ | exact ⟨(E.trans hx1).trans hx2, congrArg (Value.int .u64) (by omega)⟩
      · simp (disch := first | omega | assumption) only [C.k_close_gos, T.tv, ↓reduceIte, Nat.reduceEqDiff, reduceCtorEq, Nat.reduceLeDiff, Nat.reducePow, Int.reducePow, Int.reduceToNat, Nat.reduceAdd, vf, va, cc23, cc8, cc52, cc11, Int.reduceSub, Int.reduceAdd, Int.reduceMul, c0, c1, lk]
        refine eff_callF rfl ((least _).mono ?_)
        rintro v1 h1 ⟨hx1, rfl⟩
        have H1 := H.ext hx1
        have c01 := H1.c0
        have c11 := H1.c1
        have lk1 := H1.ld
        simp (disch := first | omega | assumption) only [C.k_close_gos, T.tv, ↓reduceIte, Nat.reduceEqDiff, reduceCtorEq, Nat.reduceLeDiff, Nat.reducePow, Int.reducePow, Int.reduceToNat, Nat.reduceAdd, vf, va, cc23, cc8, cc52, cc11, Int.reduceSub, Int.reduceAdd, Int.reduceMul, c01, c11, lk1]
        refine eff_callF rfl ((sign _).mono ?_)
        rintro v2 h2 ⟨hx2, rfl⟩
        have H2 := H1.ext hx2
        have c02 := H2.c0
        have c12 := H2.c1
        simp (disch := first | omega | assumption) only [C.k_close_gos, T.tv, ↓reduceIte, Nat.reduceEqDiff, reduceCtorEq, Nat.reduceLeDiff, Nat.reducePow, Int.reducePow, Int.reduceToNat, Nat.reduceAdd, vf, va, cc23, cc8, cc52, cc11, Int.reduceSub, Int.reduceAdd, Int.reduceMul, c02, c12]
        exact ⟨(E.trans hx1).trans hx2, congrArg (Value.int .u64) (by omega)⟩
      · simp (disch := first | omega | assumption) only [C.k_close_gos, T.tv, ↓reduceIte, Nat.reduceEqDiff, reduceCtorEq, Nat.reduceLeDiff, Nat.reducePow, Int.reducePow, Int.reduceToNat, Nat.reduceAdd, vf, va, cc23, cc8, cc52, cc11, Int.reduceSub, Int.reduceAdd, Int.reduceMul, c0, c1, lk]
        refine eff_callF rfl ((least _).mono ?_)
        rintro v1 h1 ⟨hx1, rfl⟩
        have H1 := H.ext hx1
        have c01 := H1.c0
        have c11 := H1.c1
        have lk1 := H1.ld
        simp (disch := first | omega | assumption) only [C.k_close_gos, T.tv, ↓reduceIte, Nat.reduceEqDiff, reduceCtorEq, Nat.reduceLeDiff, Nat.reducePow, Int.reducePow, Int.reduceToNat, Nat.reduceAdd, vf, va, cc23, cc8, cc52, cc11, Int.reduceSub, Int.reduceAdd, Int.reduceMul, c01, c11, lk1]
        refine eff_callF rfl ((infy _).mono ?_)
        rintro v2 h2 ⟨hx2, rfl⟩
        simp (disch := first | omega | assumption) only [C.k_close_gos, T.tv, ↓reduceIte, Nat.reduceEqDiff, reduceCtorEq, Nat.reduceLeDiff, Nat.reducePow, Int.reducePow, Int.reduceToNat, Nat.reduceAdd, vf, va, cc23, cc8, cc52, cc11, Int.reduceSub, Int.reduceAdd, Int.reduceMul]
        first | exact ⟨(E.trans hx1).trans hx2, by rw [s3]⟩ | exact ⟨(E.trans hx1).trans hx2, congrArg (Value.int .u64) (by omega)⟩
    · simp only [eq_self_iff_true, if_true] at hq
      have hq1 : (q : Int) + 1 = (Q : Int) := by omega
      rcases cs with ⟨s1, s2⟩ | ⟨s1, s2, s3, s4⟩ | ⟨s1, s2, s3, s4⟩ | ⟨s1, s2, s3⟩ | ⟨s1, s2, s3⟩
      · simp (disch := first | omega | assumption) only [C.k_close_gos, T.tv, ↓reduceIte, Nat.reduceEqDiff, reduceCtorEq, Nat.reduceLeDiff, Nat.reducePow, Int.reducePow, Int.reduceToNat, Nat.reduceAdd, vf, va, cc23, cc8, cc52, cc11, Int.reduceSub, Int.reduceAdd, Int.reduceMul, c0, c1, lk, hq1]
        refine eff_callF rfl ((sign _).mono ?_)
        rintro v1 h1 ⟨hx1, rfl⟩
        simp (disch := first | omega | assumption) only [C.k_close_gos, T.tv, ↓reduceIte, Nat.reduceEqDiff, reduceCtorEq, Nat.reduceLeDiff, Nat.reducePow, Int.reducePow, Int.reduceToNat, Nat.reduceAdd, vf, va, cc23, cc8, cc52, cc11, Int.reduceSub, Int.reduceAdd, Int.reduceMul, hq1]
        first | exact ⟨E.trans hx1, by rw [s2]; rfl⟩ | exact ⟨E.trans hx1, congrArg (Value.int .u64) (by omega)⟩
      · simp (disch := first | omega | assumption) only [C.k_close_gos, T.tv, ↓reduceIte, Nat.reduceEqDiff, reduceCtorEq, Nat.reduceLeDiff, Nat.reducePow, Int.reducePow, Int.reduceToNat, Nat.reduceAdd, vf, va, cc23, cc8, cc52, cc11, Int.reduceSub, Int.reduceAdd, Int.reduceMul, c0, c1, lk, hq1]
        refine eff_callF rfl ((least _).mono ?_)
        rintro v1 h1 ⟨hx1, rfl⟩
        have H1 := H.ext hx1
        have c01 := H1.c0
        have c11 := H1.c1
        have lk1 := H1.ld
        simp (disch := first | omega | assumption) only [C.k_close_gos, T.tv, ↓reduceIte, Nat.reduceEqDiff, reduceCtorEq, Nat.reduceLeDiff, Nat.reducePow, Int.reducePow, Int.reduceToNat, Nat.reduceAdd, vf, va, cc23, cc8, cc52, cc11, Int.reduceSub, Int.reduceAdd, Int.reduceMul, c01, c11, lk1]
        refine eff_callF rfl ((sign _).mono ?_)
        rintro v2 h2 ⟨hx2, rfl⟩
        have H2 := H1.ext hx2
        have c02 := H2.c0
        have c12 := H2.c1
        simp (disch := first | omega | assumption) only [C.k_close_gos, T.tv, ↓reduceIte, Nat.reduceEqDiff, reduceCtorEq, Nat.reduceLeDiff, Nat.reducePow, Int.reducePow, Int.reduceToNat, Nat.reduceAdd, vf, va, cc23, cc8, cc52, cc11, Int.reduceSub, Int.reduceAdd, Int.reduceMul, c02, c12]
        exact ⟨(E.trans hx1).trans hx2, congrArg (Value.int .u64) (by omega)⟩
      · simp (disch := first | omega | assumption) only [C.k_close_gos, T.tv, ↓reduceIte, Nat.reduceEqDiff, reduceCtorEq, Nat.reduceLeDiff, Nat.reducePow, Int.reducePow, Int.reduceToNat, Nat.reduceAdd, vf, va, cc23, cc8, cc52, cc11, Int.reduceSub, Int.reduceAdd, Int.reduceMul, c0, c1, lk, hq1]
        refine eff_callF rfl ((least _).mono ?_)
        rintro v1 h1 ⟨hx1, rfl⟩
        have H1 := H.ext hx1
        have c01 := H1.c0
        have c11 := H1.c1
        have lk1 := H1.ld
        simp (disch := first | omega | assumption) only [C.k_close_gos, T.tv, ↓reduceIte, Nat.reduceEqDiff, reduceCtorEq, Nat.reduceLeDiff, Nat.reducePow, Int.reducePow, Int.reduceToNat, Nat.reduceAdd, vf, va, cc23, cc8, cc52, cc11, Int.reduceSub, Int.reduceAdd, Int.reduceMul, c01, c11, lk1]
        refine eff_callF rfl ((infy _).mono ?_)
        rintro v2 h2 ⟨hx2, rfl⟩
        simp (disch := first | omega | assumption) only [C.k_close_gos, T.tv, ↓reduceIte, Nat.reduceEqDiff, reduceCtorEq, Nat.reduceLeDiff, Nat.reducePow, Int.reducePow, Int.reduceToNat, Nat.reduceAdd, vf, va, cc23, cc8, cc52, cc11, Int.reduceSub, Int.reduceAdd, Int.reduceMul]
        first | exact ⟨(E.trans hx1).trans hx2, by rw [s4]⟩ | exact ⟨(E.trans hx1).trans hx2, congrArg (Value.int .u64) (by omega)⟩
      · simp (disch := first | omega | assumption) only [C.k_close_gos, T.tv, ↓reduceIte, Nat.reduceEqDiff, reduceCtorEq, Nat.reduceLeDiff, Nat.reducePow, Int.reducePow, Int.reduceToNat, Nat.reduceAdd, vf, va, cc23, cc8, cc52, cc11, Int.reduceSub, Int.reduceAdd, Int.reduceMul, c0, c1, lk, hq1]
        refine eff_callF rfl ((least _).mono ?_)
        rintro v1 h1 ⟨hx1, rfl⟩
        have H1 := H.ext hx1
        have c01 := H1.c0
        have c11 := H1.c1
        have lk1 := H1.ld
        simp (disch := first | omega | assumption) only [C.k_close_gos, T.tv, ↓reduceIte, Nat.reduceEqDiff, reduceCtorEq, Nat.reduceLeDiff, Nat.reducePow, Int.reducePow, Int.reduceToNat, Nat.reduceAdd, vf, va, cc23, cc8, cc52, cc11, Int.reduceSub, Int.reduceAdd, Int.reduceMul, c01, c11, lk1]
        refine eff_callF rfl ((sign _).mono ?_)
        rintro v2 h2 ⟨hx2, rfl⟩
        have H2 := H1.ext hx2
        have c02 := H2.c0
        have c12 := H2.c1
        simp (disch := first | omega | assumption) only [C.k_close_gos, T.tv, ↓reduceIte, Nat.reduceEqDiff, reduceCtorEq, Nat.reduceLeDiff, Nat.reducePow, Int.reducePow, Int.reduceToNat, Nat.reduceAdd, vf, va, cc23, cc8, cc52, cc11, Int.reduceSub, Int.reduceAdd, Int.reduceMul, c02, c12]
        exact ⟨(E.trans hx1).trans hx2, congrArg (Value.int .u64) (by omega)⟩
      · simp (disch := first | omega | assumption) only [C.k_close_gos, T.tv, ↓reduceIte, Nat.reduceEqDiff, reduceCtorEq, Nat.reduceLeDiff, Nat.reducePow, Int.reducePow, Int.reduceToNat, Nat.reduceAdd, vf, va, cc23, cc8, cc52, cc11, Int.reduceSub, Int.reduceAdd, Int.reduceMul, c0, c1, lk, hq1]
        refine eff_callF rfl ((least _).mono ?_)
        rintro v1 h1 ⟨hx1, rfl⟩
        have H1 := H.ext hx1
        have c01 := H1.c0
        have c11 := H1.c1
        have lk1 := H1.ld
        simp (disch := first | omega | assumption) only [C.k_close_gos, T.tv, ↓reduceIte, Nat.reduceEqDiff, reduceCtorEq, Nat.reduceLeDiff, Nat.reducePow, Int.reducePow, Int.reduceToNat, Nat.reduceAdd, vf, va, cc23, cc8, cc52, cc11, Int.reduceSub, Int.reduceAdd, Int.reduceMul, c01, c11, lk1]
        refine eff_callF rfl ((infy _).mono ?_)
        rintro v2 h2 ⟨hx2, rfl⟩
        simp (disch := first | omega | assumption) only [C.k_close_gos, T.tv, ↓reduceIte, Nat.reduceEqDiff, reduceCtorEq, Nat.reduceLeDiff, Nat.reducePow, Int.reducePow, Int.reduceToNat, Nat.reduceAdd, vf, va, cc23, cc8, cc52, cc11, Int.reduceSub, Int.reduceAdd, Int.reduceMul]
        first | exact ⟨(E.trans hx1).trans hx2, by rw [s3]⟩ | exact ⟨(E.trans hx1).trans hx2, congrArg (Value.int .u64) (by omega)⟩
  · rw [lp52] at hll
    rw [lp52] at least ⊢
    rw [ir52] at infy ⊢
    have hsw : sw ≤ 9223372036854775808 := hw.1
    clear hw
    have hle' : Q ≤ 9007199254740992 := hle
    clear hle
    rw [show (2 : Nat) ^ 52 = 4503599627370496 by decide]
    generalize hR : (sw + (if Q < 4503599627370496 then Q else min ((L - -1074).toNat * 4503599627370496 + Q) 9218868437227405312) : Nat) = R
    have cs : (Q < 4503599627370496 ∧ R = sw + Q) ∨ (4503599627370496 ≤ Q ∧ Q < 9007199254740992 ∧ L + 1075 < 2047 ∧ (R : Int) = sw + (L + 1074) * 4503599627370496 + Q) ∨ (4503599627370496 ≤ Q ∧ Q < 9007199254740992 ∧ 2047 ≤ L + 1075 ∧ R = sw + 9218868437227405312) ∨ (Q = 9007199254740992 ∧ L + 1076 < 2047 ∧ (R : Int) = sw + (L + 1074) * 4503599627370496 + 9007199254740992) ∨ (Q = 9007199254740992 ∧ 2047 ≤ L + 1076 ∧ R = sw + 9218868437227405312) := by
      rw [← hR]
      by_cases c : Q < 4503599627370496
      · rw [if_pos c]; omega
      · rw [if_neg c]; omega
    clear hR
    have c0 := H.c0
    have c1 := H.c1
    have lk := H.ld
    cases up
    · simp only [Bool.false_eq_true, if_false] at hq
      obtain rfl : Q = q := by omega
      rcases cs with ⟨s1, s2⟩ | ⟨s1, s2, s3, s4⟩ | ⟨s1, s2, s3, s4⟩ | ⟨s1, s2, s3⟩ | ⟨s1, s2, s3⟩
      · simp (disch := first | omega | assumption) only [C.k_close_gos, T.tv, ↓reduceIte, Nat.reduceEqDiff, reduceCtorEq, Nat.reduceLeDiff, Nat.reducePow, Int.reducePow, Int.reduceToNat, Nat.reduceAdd, vf, va, cc23, cc8, cc52, cc11, Int.reduceSub, Int.reduceAdd, Int.reduceMul, c0, c1, lk]
        refine eff_callF rfl ((sign _).mono ?_)
        rintro v1 h1 ⟨hx1, rfl⟩
        simp (disch := first | omega | assumption) only [C.k_close_gos, T.tv, ↓reduceIte, Nat.reduceEqDiff, reduceCtorEq, Nat.reduceLeDiff, Nat.reducePow, Int.reducePow, Int.reduceToNat, Nat.reduceAdd, vf, va, cc23, cc8, cc52, cc11, Int.reduceSub, Int.reduceAdd, Int.reduceMul]
        first | exact ⟨E.trans hx1, by rw [s2]; rfl⟩ | exact ⟨E.trans hx1, congrArg (Value.int .u64) (by omega)⟩
      · simp (disch := first | omega | assumption) only [C.k_close_gos, T.tv, ↓reduceIte, Nat.reduceEqDiff, reduceCtorEq, Nat.reduceLeDiff, Nat.reducePow, Int.reducePow, Int.reduceToNat, Nat.reduceAdd, vf, va, cc23, cc8, cc52, cc11, Int.reduceSub, Int.reduceAdd, Int.reduceMul, c0, c1, lk]
        refine eff_callF rfl ((least _).mono ?_)
        rintro v1 h1 ⟨hx1, rfl⟩
        have H1 := H.ext hx1
        have c01 := H1.c0
        have c11 := H1.c1
        have lk1 := H1.ld
        simp (disch := first | omega | assumption) only [C.k_close_gos, T.tv, ↓reduceIte, Nat.reduceEqDiff, reduceCtorEq, Nat.reduceLeDiff, Nat.reducePow, Int.reducePow, Int.reduceToNat, Nat.reduceAdd, vf, va, cc23, cc8, cc52, cc11, Int.reduceSub, Int.reduceAdd, Int.reduceMul, c01, c11, lk1]
        refine eff_callF rfl ((sign _).mono ?_)
        rintro v2 h2 ⟨hx2, rfl⟩
        have H2 := H1.ext hx2
        have c02 := H2.c0
        have c12 := H2.c1
        simp (disch := first | omega | assumption) only [C.k_close_gos, T.tv, ↓reduceIte, Nat.reduceEqDiff, reduceCtorEq, Nat.reduceLeDiff, Nat.reducePow, Int.reducePow, Int.reduceToNat, Nat.reduceAdd, vf, va, cc23, cc8, cc52, cc11, Int.reduceSub, Int.reduceAdd, Int.reduceMul, c02, c12]
        exact ⟨(E.trans hx1).trans hx2, congrArg (Value.int .u64) (by omega)⟩
      · simp (disch := first | omega | assumption) only [C.k_close_gos, T.tv, ↓reduceIte, Nat.reduceEqDiff, reduceCtorEq, Nat.reduceLeDiff, Nat.reducePow, Int.reducePow, Int.reduceToNat, Nat.reduceAdd, vf, va, cc23, cc8, cc52, cc11, Int.reduceSub, Int.reduceAdd, Int.reduceMul, c0, c1, lk]
        refine eff_callF rfl ((least _).mono ?_)
        rintro v1 h1 ⟨hx1, rfl⟩
        have H1 := H.ext hx1
        have c01 := H1.c0
        have c11 := H1.c1
        have lk1 := H1.ld
        simp (disch := first | omega | assumption) only [C.k_close_gos, T.tv, ↓reduceIte, Nat.reduceEqDiff, reduceCtorEq, Nat.reduceLeDiff, Nat.reducePow, Int.reducePow, Int.reduceToNat, Nat.reduceAdd, vf, va, cc23, cc8, cc52, cc11, Int.reduceSub, Int.reduceAdd, Int.reduceMul, c01, c11, lk1]
        refine eff_callF rfl ((infy _).mono ?_)
        rintro v2 h2 ⟨hx2, rfl⟩
        simp (disch := first | omega | assumption) only [C.k_close_gos, T.tv, ↓reduceIte, Nat.reduceEqDiff, reduceCtorEq, Nat.reduceLeDiff, Nat.reducePow, Int.reducePow, Int.reduceToNat, Nat.reduceAdd, vf, va, cc23, cc8, cc52, cc11, Int.reduceSub, Int.reduceAdd, Int.reduceMul]
        first | exact ⟨(E.trans hx1).trans hx2, by rw [s4]⟩ | exact ⟨(E.trans hx1).trans hx2, congrArg (Value.int .u64) (by omega)⟩
      · simp (disch := first | omega | assumption) only [C.k_close_gos, T.tv, ↓reduceIte, Nat.reduceEqDiff, reduceCtorEq, Nat.reduceLeDiff, Nat.reducePow, Int.reducePow, Int.reduceToNat, Nat.reduceAdd, vf, va, cc23, cc8, cc52, cc11, Int.reduceSub, Int.reduceAdd, Int.reduceMul, c0, c1, lk]
        refine eff_callF rfl ((least _).mono ?_)
        rintro v1 h1 ⟨hx1, rfl⟩
        have H1 := H.ext hx1
        have c01 := H1.c0
        have c11 := H1.c1
        have lk1 := H1.ld
        simp (disch := first | omega | assumption) only [C.k_close_gos, T.tv, ↓reduceIte, Nat.reduceEqDiff, reduceCtorEq, Nat.reduceLeDiff, Nat.reducePow, Int.reducePow, Int.reduceToNat, Nat.reduceAdd, vf, va, cc23, cc8, cc52, cc11, Int.reduceSub, Int.reduceAdd, Int.reduceMul, c01, c11, lk1]
        refine eff_callF rfl ((sign _).mono ?_)
        rintro v2 h2 ⟨hx2, rfl⟩
        have H2 := H1.ext hx2
        have c02 := H2.c0
        have c12 := H2.c1
        simp (disch := first | omega | assumption) only [C.k_close_gos, T.tv, ↓reduceIte, Nat.reduceEqDiff, reduceCtorEq, Nat.reduceLeDiff, Nat.reducePow, Int.reducePow, Int.reduceToNat, Nat.reduceAdd, vf, va, cc23, cc8, cc52, cc11, Int.reduceSub, Int.reduceAdd, Int.reduceMul, c02, c12]
        exact ⟨(E.trans hx1).trans hx2, congrArg (Value.int .u64) (by omega)⟩
      · simp (disch := first | omega | assumption) only [C.k_close_gos, T.tv, ↓reduceIte, Nat.reduceEqDiff, reduceCtorEq, Nat.reduceLeDiff, Nat.reducePow, Int.reducePow, Int.reduceToNat, Nat.reduceAdd, vf, va, cc23, cc8, cc52, cc11, Int.reduceSub, Int.reduceAdd, Int.reduceMul, c0, c1, lk]
        refine eff_callF rfl ((least _).mono ?_)
        rintro v1 h1 ⟨hx1, rfl⟩
        have H1 := H.ext hx1
        have c01 := H1.c0
        have c11 := H1.c1
        have lk1 := H1.ld
        simp (disch := first | omega | assumption) only [C.k_close_gos, T.tv, ↓reduceIte, Nat.reduceEqDiff, reduceCtorEq, Nat.reduceLeDiff, Nat.reducePow, Int.reducePow, Int.reduceToNat, Nat.reduceAdd, vf, va, cc23, cc8, cc52, cc11, Int.reduceSub, Int.reduceAdd, Int.reduceMul, c01, c11, lk1]
        refine eff_callF rfl ((infy _).mono ?_)
        rintro v2 h2 ⟨hx2, rfl⟩
        simp (disch := first | omega | assumption) only [C.k_close_gos, T.tv, ↓reduceIte, Nat.reduceEqDiff, reduceCtorEq, Nat.reduceLeDiff, Nat.reducePow, Int.reducePow, Int.reduceToNat, Nat.reduceAdd, vf, va, cc23, cc8, cc52, cc11, Int.reduceSub, Int.reduceAdd, Int.reduceMul]
        first | exact ⟨(E.trans hx1).trans hx2, by rw [s3]⟩ | exact ⟨(E.trans hx1).trans hx2, congrArg (Value.int .u64) (by omega)⟩
    · simp only [eq_self_iff_true, if_true] at hq
      have hq1 : (q : Int) + 1 = (Q : Int) := by omega
      rcases cs with ⟨s1, s2⟩ | ⟨s1, s2, s3, s4⟩ | ⟨s1, s2, s3, s4⟩ | ⟨s1, s2, s3⟩ | ⟨s1, s2, s3⟩
      · simp (disch := first | omega | assumption) only [C.k_close_gos, T.tv, ↓reduceIte, Nat.reduceEqDiff, reduceCtorEq, Nat.reduceLeDiff, Nat.reducePow, Int.reducePow, Int.reduceToNat, Nat.reduceAdd, vf, va, cc23, cc8, cc52, cc11, Int.reduceSub, Int.reduceAdd, Int.reduceMul, c0, c1, lk, hq1]
        refine eff_callF rfl ((sign _).mono ?_)
        rintro v1 h1 ⟨hx1, rfl⟩
        simp (disch := first | omega | assumption) only [C.k_close_gos, T.tv, ↓reduceIte, Nat.reduceEqDiff, reduceCtorEq, Nat.reduceLeDiff, Nat.reducePow, Int.reducePow, Int.reduceToNat, Nat.reduceAdd, vf, va, cc23, cc8, cc52, cc11, Int.reduceSub, Int.reduceAdd, Int.reduceMul, hq1]
        first | exact ⟨E.trans hx1, by rw [s2]; rfl⟩ | exact ⟨E.trans hx1, congrArg (Value.int .u64) (by omega)⟩
      · simp (disch := first | omega | assumption) only [C.k_close_gos, T.tv, ↓reduceIte, Nat.reduceEqDiff, reduceCtorEq, Nat.reduceLeDiff, Nat.reducePow, Int.reducePow, Int.reduceToNat, Nat.reduceAdd, vf, va, cc23, cc8, cc52, cc11, Int.reduceSub, Int.reduceAdd, Int.reduceMul, c0, c1, lk, hq1]
        refine eff_callF rfl ((least _).mono ?_)
        rintro v1 h1 ⟨hx1, rfl⟩
        have H1 := H.ext hx1
        have c01 := H1.c0
        have c11 := H1.c1
        have lk1 := H1.ld
        simp (disch := first | omega | assumption) only [C.k_close_gos, T.tv, ↓reduceIte, Nat.reduceEqDiff, reduceCtorEq, Nat.reduceLeDiff, Nat.reducePow, Int.reducePow, Int.reduceToNat, Nat.reduceAdd, vf, va, cc23, cc8, cc52, cc11, Int.reduceSub, Int.reduceAdd, Int.reduceMul, c01, c11, lk1]
        refine eff_callF rfl ((sign _).mono ?_)
        rintro v2 h2 ⟨hx2, rfl⟩
        have H2 := H1.ext hx2
        have c02 := H2.c0
        have c12 := H2.c1
        simp (disch := first | omega | assumption) only [C.k_close_gos, T.tv, ↓reduceIte, Nat.reduceEqDiff, reduceCtorEq, Nat.reduceLeDiff, Nat.reducePow, Int.reducePow, Int.reduceToNat, Nat.reduceAdd, vf, va, cc23, cc8, cc52, cc11, Int.reduceSub, Int.reduceAdd, Int.reduceMul, c02, c12]
        exact ⟨(E.trans hx1).trans hx2, congrArg (Value.int .u64) (by omega)⟩
      · simp (disch := first | omega | assumption) only [C.k_close_gos, T.tv, ↓reduceIte, Nat.reduceEqDiff, reduceCtorEq, Nat.reduceLeDiff, Nat.reducePow, Int.reducePow, Int.reduceToNat, Nat.reduceAdd, vf, va, cc23, cc8, cc52, cc11, Int.reduceSub, Int.reduceAdd, Int.reduceMul, c0, c1, lk, hq1]
        refine eff_callF rfl ((least _).mono ?_)
        rintro v1 h1 ⟨hx1, rfl⟩
        have H1 := H.ext hx1
        have c01 := H1.c0
        have c11 := H1.c1
        have lk1 := H1.ld
        simp (disch := first | omega | assumption) only [C.k_close_gos, T.tv, ↓reduceIte, Nat.reduceEqDiff, reduceCtorEq, Nat.reduceLeDiff, Nat.reducePow, Int.reducePow, Int.reduceToNat, Nat.reduceAdd, vf, va, cc23, cc8, cc52, cc11, Int.reduceSub, Int.reduceAdd, Int.reduceMul, c01, c11, lk1]
        refine eff_callF rfl ((infy _).mono ?_)
        rintro v2 h2 ⟨hx2, rfl⟩
        simp (disch := first | omega | assumption) only [C.k_close_gos, T.tv, ↓reduceIte, Nat.reduceEqDiff, reduceCtorEq, Nat.reduceLeDiff, Nat.reducePow, Int.reducePow, Int.reduceToNat, Nat.reduceAdd, vf, va, cc23, cc8, cc52, cc11, Int.reduceSub, Int.reduceAdd, Int.reduceMul]
        first | exact ⟨(E.trans hx1).trans hx2, by rw [s4]⟩ | exact ⟨(E.trans hx1).trans hx2, congrArg (Value.int .u64) (by omega)⟩
      · simp (disch := first | omega | assumption) only [C.k_close_gos, T.tv, ↓reduceIte, Nat.reduceEqDiff, reduceCtorEq, Nat.reduceLeDiff, Nat.reducePow, Int.reducePow, Int.reduceToNat, Nat.reduceAdd, vf, va, cc23, cc8, cc52, cc11, Int.reduceSub, Int.reduceAdd, Int.reduceMul, c0, c1, lk, hq1]
        refine eff_callF rfl ((least _).mono ?_)
        rintro v1 h1 ⟨hx1, rfl⟩
        have H1 := H.ext hx1
        have c01 := H1.c0
        have c11 := H1.c1
        have lk1 := H1.ld
        simp (disch := first | omega | assumption) only [C.k_close_gos, T.tv, ↓reduceIte, Nat.reduceEqDiff, reduceCtorEq, Nat.reduceLeDiff, Nat.reducePow, Int.reducePow, Int.reduceToNat, Nat.reduceAdd, vf, va, cc23, cc8, cc52, cc11, Int.reduceSub, Int.reduceAdd, Int.reduceMul, c01, c11, lk1]
        refine eff_callF rfl ((sign _).mono ?_)
        rintro v2 h2 ⟨hx2, rfl⟩
        have H2 := H1.ext hx2
        have c02 := H2.c0
        have c12 := H2.c1
        simp (disch := first | omega | assumption) only [C.k_close_gos, T.tv, ↓reduceIte, Nat.reduceEqDiff, reduceCtorEq, Nat.reduceLeDiff, Nat.reducePow, Int.reducePow, Int.reduceToNat, Nat.reduceAdd, vf, va, cc23, cc8, cc52, cc11, Int.reduceSub, Int.reduceAdd, Int.reduceMul, c02, c12]
        exact ⟨(E.trans hx1).trans hx2, congrArg (Value.int .u64) (by omega)⟩
      · simp (disch := first | omega | assumption) only [C.k_close_gos, T.tv, ↓reduceIte, Nat.reduceEqDiff, reduceCtorEq, Nat.reduceLeDiff, Nat.reducePow, Int.reducePow, Int.reduceToNat, Nat.reduceAdd, vf, va, cc23, cc8, cc52, cc11, Int.reduceSub, Int.reduceAdd, Int.reduceMul, c0, c1, lk, hq1]
        refine eff_callF rfl ((least _).mono ?_)
        rintro v1 h1 ⟨hx1, rfl⟩
        have H1 := H.ext hx1
        have c01 := H1.c0
        have c11 := H1.c1
        have lk1 := H1.ld
        simp (disch := first | omega | assumption) only [C.k_close_gos, T.tv, ↓reduceIte, Nat.reduceEqDiff, reduceCtorEq, Nat.reduceLeDiff, Nat.reducePow, Int.reducePow, Int.reduceToNat, Nat.reduceAdd, vf, va, cc23, cc8, cc52, cc11, Int.reduceSub, Int.reduceAdd, Int.reduceMul, c01, c11, lk1]
        refine eff_callF rfl ((infy _).mono ?_)
        rintro v2 h2 ⟨hx2, rfl⟩
        simp (disch := first | omega | assumption) only [C.k_close_gos, T.tv, ↓reduceIte, Nat.reduceEqDiff, reduceCtorEq, Nat.reduceLeDiff, Nat.reducePow, Int.reducePow, Int.reduceToNat, Nat.reduceAdd, vf, va, cc23, cc8, cc52, cc11, Int.reduceSub, Int.reduceAdd, Int.reduceMul]
        first | exact ⟨(E.trans hx1).trans hx2, by rw [s3]⟩ | exact ⟨(E.trans hx1).trans hx2, congrArg (Value.int .u64) (by omega)⟩
end Go.Proofs.Ytedleaeohbjfnaa
