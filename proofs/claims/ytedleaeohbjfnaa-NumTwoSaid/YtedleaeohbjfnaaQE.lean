/- Numbers with parts, plainly: what can be written; rests. No condition. -/
import Derived.Test.YtedleaeohbjfnaaQD
set_option linter.unusedSimpArgs false
set_option linter.unusedVariables false
namespace Go.Num
open Ieee

/-! ### What can be written -/
theorem rnd_V {f : Format} {r : Nat} (h : r ≤ f.infRung) : rnd f (V f r) f.leastPlace false = r := by
  have hp := two_pos f.fractionBits
  have e1 : 2 ^ (f.fractionBits + 1) = 2 * 2 ^ f.fractionBits := by rw [Nat.pow_succ]; omega
  by_cases c : r < 2 ^ f.fractionBits
  · rw [V_small (by omega)]
    unfold rnd
    by_cases h0 : r = 0
    · rw [if_pos h0, h0]
    rw [if_neg h0]
    have hl := le_len c
    dsimp only
    rw [show max (f.leastPlace + (len r : Int) - (f.fractionBits : Int) - 1) f.leastPlace = f.leastPlace by omega]
    rw [if_pos (Int.le_refl _), Int.sub_self, Int.toNat_zero, Nat.zero_mul, Nat.zero_add, Nat.pow_zero, Nat.mul_one]
    exact Nat.min_eq_left h
  · unfold V
    rw [if_neg c]
    have h1 := Nat.div_add_mod r (2 ^ f.fractionBits)
    have h2 := Nat.mod_lt r hp
    have hq : 1 ≤ r / 2 ^ f.fractionBits := by rw [Nat.le_div_iff_mul_le hp]; omega
    obtain ⟨k, hk⟩ : ∃ k, r / 2 ^ f.fractionBits = k + 1 := ⟨r / 2 ^ f.fractionBits - 1, by omega⟩
    rw [hk] at h1 ⊢
    rw [Nat.add_sub_cancel]
    have hM : len (2 ^ f.fractionBits + r % 2 ^ f.fractionBits) = f.fractionBits + 1 := len_eq (by omega) (by omega)
    have hs := rnd_scale f (2 ^ f.fractionBits + r % 2 ^ f.fractionBits) (f.leastPlace + k) k
    rw [show f.leastPlace + (k : Int) - (k : Int) = f.leastPlace by omega] at hs
    rw [hs]
    unfold rnd
    rw [if_neg (by omega), hM]
    dsimp only
    rw [show max (f.leastPlace + (k : Int) + ((f.fractionBits + 1 : Nat) : Int) - (f.fractionBits : Int) - 1) f.leastPlace = f.leastPlace + k by omega]
    rw [if_pos (Int.le_refl _), Int.sub_self, Int.toNat_zero, Nat.pow_zero, Nat.mul_one, show f.leastPlace + (k : Int) - f.leastPlace = k by omega, Int.toNat_natCast]
    rw [show f.binade = 2 ^ f.fractionBits from rfl]
    rw [Nat.mul_add, Nat.mul_one, Nat.mul_comm] at h1
    rw [show k * 2 ^ f.fractionBits + (2 ^ f.fractionBits + r % 2 ^ f.fractionBits) = r by omega]
    exact Nat.min_eq_left h
/-- A number at its place is that in units. -/
theorem rnd_units (f : Format) (m k : Nat) : rnd f m (f.leastPlace + k) false = rnd f (m * 2 ^ k) f.leastPlace false := by
  have := rnd_scale f m (f.leastPlace + k) k
  rw [show f.leastPlace + (k : Int) - (k : Int) = f.leastPlace by omega] at this
  exact this.symm
theorem len_mul_le {n j p : Nat} (h : n < 2 ^ p) : len (n * 2 ^ j) ≤ p + j := by
  apply le_len
  rw [Nat.pow_add]
  exact Nat.mul_lt_mul_of_lt_of_le h (Nat.le_refl _) (two_pos j)
theorem rep {f : Format} {n j : Nat} (hn : n < 2 ^ (f.fractionBits + 1)) (hv : n * 2 ^ j < V f f.infRung) : ∃ r, r < f.infRung ∧ V f r = n * 2 ^ j := by
  have hp := two_pos f.fractionBits
  have e1 : 2 ^ (f.fractionBits + 1) = 2 * 2 ^ f.fractionBits := by rw [Nat.pow_succ]; omega
  suffices h : ∃ r, V f r = n * 2 ^ j by
    obtain ⟨r, hr⟩ := h
    exact ⟨r, V_lt_iff.1 (by rw [hr]; exact hv), hr⟩
  by_cases c : n * 2 ^ j < 2 ^ (f.fractionBits + 1)
  · exact ⟨_, V_small c⟩
  have hl1 := len_mul_le (j := j) hn
  have hl2 := len_ge (x := n * 2 ^ j) (n := f.fractionBits + 1) (by omega)
  obtain ⟨L, hL⟩ : ∃ L, len (n * 2 ^ j) = f.fractionBits + 1 + L := ⟨len (n * 2 ^ j) - (f.fractionBits + 1), by omega⟩
  have h0 : n * 2 ^ j ≠ 0 := by omega
  have g1 := lt_len (n * 2 ^ j)
  have g2 := len_le h0
  rw [hL] at g1 g2
  have ev : n * 2 ^ j = n * 2 ^ (j - L) * 2 ^ L := by rw [Nat.mul_assoc, ← Nat.pow_add]; congr 2; omega
  rw [ev] at g1 g2 ⊢
  generalize n * 2 ^ (j - L) = M at *
  have hz := two_pos L
  rw [Nat.pow_add] at g1
  have k1 : M < 2 ^ (f.fractionBits + 1) := Nat.lt_of_mul_lt_mul_right g1
  rw [show f.fractionBits + 1 + L - 1 = f.fractionBits + L by omega, Nat.pow_add] at g2
  have k2 : 2 ^ f.fractionBits ≤ M := Nat.le_of_mul_le_mul_right g2 hz
  refine ⟨2 ^ f.fractionBits * (L + 1) + (M - 2 ^ f.fractionBits), ?_⟩
  have hlt : M - 2 ^ f.fractionBits < 2 ^ f.fractionBits := by omega
  have hge : 2 ^ f.fractionBits ≤ 2 ^ f.fractionBits * (L + 1) := Nat.le_mul_of_pos_right _ (by omega)
  unfold V
  rw [if_neg (by omega), Nat.mul_add_div hp, Nat.div_eq_of_lt hlt, Nat.mul_add_mod, Nat.mod_eq_of_lt hlt]
  rw [show L + 1 + 0 - 1 = L by omega, show 2 ^ f.fractionBits + (M - 2 ^ f.fractionBits) = M by omega]
/-- What is left of one that can be written can be written. -/
theorem rep_mod {f : Format} {r q : Nat} (hr : r < f.infRung) (hq : 0 < V f q) : ∃ s, s < f.infRung ∧ V f s = V f r % V f q := by
  have hle : V f r % V f q ≤ V f r := Nat.mod_le ..
  have hlt := Nat.mod_lt (V f r) hq
  have hv := V_lt (f := f) hr
  have d1 := V_digs f r
  have d2 := V_digs f q
  have m1 := digs_lt f r
  have m2 := digs_lt f q
  generalize digs f r = m at *
  generalize digs f q = n at *
  generalize plc f r = i at *
  generalize plc f q = j at *
  obtain ⟨c, hc⟩ : ∃ c, c = min i j := ⟨_, rfl⟩
  have f1 : m * 2 ^ i = m * 2 ^ (i - c) * 2 ^ c := by rw [Nat.mul_assoc, ← Nat.pow_add]; congr 2; omega
  have f2 : n * 2 ^ j = n * 2 ^ (j - c) * 2 ^ c := by rw [Nat.mul_assoc, ← Nat.pow_add]; congr 2; omega
  have f3 : V f r % V f q = (m * 2 ^ (i - c)) % (n * 2 ^ (j - c)) * 2 ^ c := by rw [d1, d2, f1, f2, Nat.mul_mod_mul_right]
  have hz := two_pos c
  rw [f3] at hle hlt ⊢
  refine rep ?_ (by omega)
  rw [d1] at hle
  rw [d2] at hlt
  by_cases ci : i ≤ j
  · have : c = i := by omega
    subst this
    exact Nat.lt_of_le_of_lt (Nat.le_of_mul_le_mul_right hle hz) m1
  · have : c = j := by omega
    subst this
    exact Nat.lt_trans (Nat.lt_of_mul_lt_mul_right hlt) m2

/-! ### Rests -/
theorem open_num (f : Format) (hf : 2 ≤ f.exponentBits) {x : Nat} (h : rung f x < f.infRung) : openN f x = ⟨false, false, sgn f x, digs f (rung f x), f.leastPlace + plc f (rung f x)⟩ := by
  have h1 := openN_read f hf x
  rw [read_rung f h] at h1
  generalize openN f x = n at *
  obtain ⟨a, b, c, d, e⟩ := n
  unfold toD at h1
  cases a <;> cases b <;> simp at h1
  obtain ⟨rfl, rfl, rfl⟩ := h1
  rfl
theorem open_inf (f : Format) (hf : 2 ≤ f.exponentBits) {x : Nat} (h : rung f x = f.infRung) : (openN f x).nan = false ∧ (openN f x).inf = true ∧ (openN f x).neg = sgn f x := by
  have h1 := openN_read f hf x
  rw [read_inf f hf h] at h1
  generalize openN f x = n at *
  obtain ⟨a, b, c, d, e⟩ := n
  unfold toD at h1
  cases a <;> cases b <;> simp at h1
  subst h1
  exact ⟨rfl, rfl, rfl⟩
theorem open_nan (f : Format) (hf : 2 ≤ f.exponentBits) {x : Nat} (h : f.infRung < rung f x) : (openN f x).nan = true := by
  have h1 := openN_read f hf x
  rw [read_nan f hf h] at h1
  generalize openN f x = n at *
  obtain ⟨a, b, c, d, e⟩ := n
  unfold toD at h1
  cases a <;> cases b <;> simp at h1
  · rfl
  · rfl
def remP (f : Format) (a b : Nm) : Nat :=
  if (a.nan || b.nan || a.inf || (!b.inf && decide (b.m = 0))) = true then nanW f
  else if (b.inf || decide (a.m = 0) || decide (a.e < b.e)) = true then closeP f a.neg a.m a.e false
  else closeP f a.neg (a.m * 2 ^ (a.e - b.e).toNat % b.m) b.e false
/-- What is left, by the values. -/
def modS (f : Format) (x y : Nat) : Nat :=
  if f.infRung ≤ rung f x ∨ f.infRung < rung f y ∨ rung f y = 0 then nanW f
  else if rung f y = f.infRung then f.word (sgn f x) (rung f x)
  else f.word (sgn f x) (rnd f (V f (rung f x) % V f (rung f y)) f.leastPlace false)
theorem digs_zero {f : Format} {r : Nat} : digs f r = 0 ↔ r = 0 := by
  unfold digs
  have := two_pos f.fractionBits
  split <;> omega
theorem remP_spec (f : Format) (hf : 2 ≤ f.exponentBits) (x y : Nat) : remP f (openN f x) (openN f y) = modS f x y := by
  unfold remP modS
  have hq : 2 ^ 2 ≤ 2 ^ f.exponentBits := Nat.pow_le_pow_right (by decide) hf
  have hi : 0 < f.infRung := Nat.mul_pos (by omega) (two_pos _)
  by_cases x1 : f.infRung < rung f x
  · rw [if_pos (by simp [open_nan f hf x1]), if_pos (.inl (by omega))]
  by_cases x2 : rung f x = f.infRung
  · rw [if_pos (by simp [open_inf f hf x2]), if_pos (.inl (by omega))]
  by_cases y1 : f.infRung < rung f y
  · rw [if_pos (by simp [open_nan f hf y1]), if_pos (.inr (.inl y1))]
  have hx : rung f x < f.infRung := by omega
  rw [open_num f hf hx]
  have key : closeP f (sgn f x) (digs f (rung f x)) (f.leastPlace + (plc f (rung f x) : Int)) false = f.word (sgn f x) (rung f x) := by
    unfold closeP
    rw [rnd_units, ← V_digs, rnd_V (by omega)]
  by_cases y2 : rung f y = f.infRung
  · obtain ⟨o1, o2, o3⟩ := open_inf f hf y2
    rw [if_neg (by simp [o1, o2]), if_pos (by simp [o2]), if_neg (by omega), if_pos y2]
    exact key
  have hy : rung f y < f.infRung := by omega
  rw [open_num f hf hy]
  by_cases y0 : rung f y = 0
  · rw [if_pos (by simp [digs_zero, y0]), if_pos (.inr (.inr y0))]
  rw [if_neg (by simp [digs_zero, y0]), if_neg (show ¬ (f.infRung ≤ rung f x ∨ f.infRung < rung f y ∨ rung f y = 0) by omega), if_neg y2]
  have hyp : 0 < V f (rung f y) := by have := V_lt (f := f) (r := 0) (s := rung f y) (by omega); omega
  simp only [Bool.false_or, Bool.or_eq_true, decide_eq_true_eq]
  by_cases c : digs f (rung f x) = 0 ∨ f.leastPlace + (plc f (rung f x) : Int) < f.leastPlace + (plc f (rung f y) : Int)
  · rw [if_pos c, key]
    have hlt : V f (rung f x) < V f (rung f y) := by
      rcases c with c | c
      · rw [digs_zero.1 c, V_zero]; exact hyp
      · apply V_lt
        apply Nat.lt_of_not_le
        intro hle
        have h1 : rung f y / 2 ^ f.fractionBits ≤ rung f x / 2 ^ f.fractionBits := Nat.div_le_div_right hle
        have : plc f (rung f x) < plc f (rung f y) := by omega
        unfold plc at this
        split at this <;> split at this <;> omega
    rw [Nat.mod_eq_of_lt hlt, rnd_V (by omega)]
  · rw [if_neg c]
    have hpl : plc f (rung f y) ≤ plc f (rung f x) := by omega
    unfold closeP
    rw [rnd_units, V_digs, V_digs]
    congr 2
    rw [show f.leastPlace + (plc f (rung f x) : Int) - (f.leastPlace + (plc f (rung f y) : Int)) = ((plc f (rung f x) - plc f (rung f y) : Nat) : Int) by omega, Int.toNat_natCast]
    rw [← Nat.mul_mod_mul_right, Nat.mul_assoc, ← Nat.pow_add]
    congr 4
    omega
end Go.Num
