/- Doubles taken apart and put together; a step of the loop of math.Mod, plainly. No condition. -/
import Derived.Test.YtedleaeohbjfnaaQE
set_option linter.unusedSimpArgs false
set_option linter.unusedVariables false
namespace Go.Num
open Ieee

/-! ### Doubles taken apart and put together: math.Frexp, math.Ldexp -/
theorem rnd_at {f : Format} {r m : Nat} {e : Int} (s : Nat) (hr : r ≤ f.infRung) (h : (e = f.leastPlace - s ∧ m = V f r * 2 ^ s) ∨ (e = f.leastPlace + s ∧ m * 2 ^ s = V f r)) : rnd f m e false = r := by
  rcases h with ⟨rfl, rfl⟩ | ⟨rfl, h⟩
  · rw [rnd_scale, rnd_V hr]
  · rw [rnd_units, h, rnd_V hr]
abbrev D : Format := Ieee.double
theorem D_m : D.fractionBits = 52 := rfl
theorem D_least : D.leastPlace = -1074 := by decide
theorem D_inf : D.infRung = 9218868437227405312 := by decide
theorem D_sw : D.signWeight = 9223372036854775808 := by decide
theorem V_norm {q t : Nat} (hq : 1 ≤ q) (ht : t < 4503599627370496) : V D (q * 4503599627370496 + t) = (4503599627370496 + t) * 2 ^ (q - 1) := by
  unfold V
  rw [D_m, show (2 : Nat) ^ 52 = 4503599627370496 by decide, if_neg (by omega)]
  rw [show (q * 4503599627370496 + t) % 4503599627370496 = t by omega, show (q * 4503599627370496 + t) / 4503599627370496 = q by omega]
theorem V_sub {r : Nat} (h : r < 9007199254740992) : V D r = r := V_small (by rw [D_m]; exact h)
theorem V_D_inf : V D D.infRung = (4503599627370496 + 0) * 2 ^ (2047 - 1) := by
  rw [D_inf]
  exact V_norm (q := 2047) (t := 0) (by decide) (by decide)
/-- A subnormal one made normal. -/
def nrm (r : Nat) : Nat := if r < 4503599627370496 then rnd D (r * 4503599627370496) D.leastPlace false else r
/-- Its exponent, by the bits, less what was added. -/
def xpo (r : Nat) : Int := (nrm r / 4503599627370496 : Nat) - (if r < 4503599627370496 then 52 else 0 : Int)
def frc (r : Nat) : Nat := nrm r % 4503599627370496
theorem nrm_sub {r : Nat} (h0 : 0 < r) (h : r < 4503599627370496) : nrm r < D.infRung ∧ V D (nrm r) = r * 4503599627370496 := by
  have hb : r * 2 ^ 52 < V D D.infRung := by
    rw [V_D_inf]
    generalize hN : 2047 - 1 = N
    rw [Nat.mul_comm, Nat.add_zero, show (4503599627370496 : Nat) = 2 ^ 52 by decide]
    have h1 : 2 ^ 52 * r < 2 ^ 52 * 2 ^ 52 := Nat.mul_lt_mul_of_pos_left (by rw [show (2 : Nat) ^ 52 = 4503599627370496 by decide]; exact h) (two_pos 52)
    have h2 : 2 ^ 52 * 2 ^ 52 ≤ 2 ^ 52 * 2 ^ N := Nat.mul_le_mul_left _ (Nat.pow_le_pow_right (by decide) (by omega))
    exact Nat.lt_of_lt_of_le h1 h2
  obtain ⟨s, hs, hv⟩ := rep (f := D) (n := r) (j := 52) (by rw [D_m]; omega) hb
  have : nrm r = s := by
    unfold nrm
    rw [if_pos h, show r * 4503599627370496 = r * 2 ^ 52 from rfl, ← hv, rnd_V (by omega)]
  rw [this]
  exact ⟨hs, hv⟩
theorem nrm_ge {r : Nat} (h0 : 0 < r) (h : r < D.infRung) : 4503599627370496 ≤ nrm r ∧ nrm r < D.infRung := by
  by_cases c : r < 4503599627370496
  · obtain ⟨h1, h2⟩ := nrm_sub h0 c
    refine ⟨?_, h1⟩
    apply Nat.le_of_not_lt
    intro h3
    rw [V_sub (by omega)] at h2
    omega
  · unfold nrm
    rw [if_neg c]
    omega
theorem frx {r : Nat} (h0 : 0 < r) (h : r < D.infRung) : -51 ≤ xpo r ∧ xpo r ≤ 2046 ∧ frc r < 4503599627370496 ∧ V D r * 4503599627370496 = (4503599627370496 + frc r) * 2 ^ (xpo r + 51).toNat := by
  obtain ⟨g1, g2⟩ := nrm_ge h0 h
  rw [D_inf] at g2
  have hv := V_norm (q := nrm r / 4503599627370496) (t := nrm r % 4503599627370496) (by omega) (by omega)
  rw [show nrm r / 4503599627370496 * 4503599627370496 + nrm r % 4503599627370496 = nrm r by omega] at hv
  unfold xpo frc
  by_cases c : r < 4503599627370496
  · obtain ⟨_, h2⟩ := nrm_sub h0 c
    rw [if_pos c]
    refine ⟨by omega, by omega, by omega, ?_⟩
    rw [V_sub (by omega), ← h2, hv]
    congr 2
    omega
  · rw [if_neg c]
    have : nrm r = r := by unfold nrm; rw [if_neg c]
    rw [this] at hv g1 g2 ⊢
    refine ⟨by omega, by omega, by omega, ?_⟩
    rw [hv, Nat.mul_assoc, show (4503599627370496 : Nat) = 2 ^ 52 by decide, ← Nat.pow_add]
    congr 2
    omega
/-- How often the one is doubled to come close to the other. -/
def kmod (r y : Nat) : Int := xpo r - xpo y - if frc r < frc y then 1 else 0
theorem kmod_spec {r y : Nat} (hy0 : 0 < y) (hle : y ≤ r) (hr : r < D.infRung) :
    0 ≤ kmod r y ∧ V D y * 2 ^ (kmod r y).toNat ≤ V D r ∧ V D r < 2 * (V D y * 2 ^ (kmod r y).toNat) ∧ kmod r y + xpo y ≤ xpo r := by
  obtain ⟨a1, a2, a3, a4⟩ := frx (r := r) (by omega) hr
  obtain ⟨b1, b2, b3, b4⟩ := frx (r := y) hy0 (by omega)
  have hV : V D y ≤ V D r := by
    rcases Nat.lt_or_ge y r with h | h
    · exact Nat.le_of_lt (V_lt h)
    · rw [show y = r by omega]; exact Nat.le_refl _
  unfold kmod
  generalize frc r = t at *
  generalize frc y = u at *
  obtain ⟨p, hp⟩ : ∃ p, p = (xpo r + 51).toNat := ⟨_, rfl⟩
  obtain ⟨o, ho⟩ : ∃ o, o = (xpo y + 51).toNat := ⟨_, rfl⟩
  rw [← hp] at a4
  rw [← ho] at b4
  generalize xpo r = x at *
  generalize xpo y = z at *
  generalize V D r = R at *
  generalize V D y = Y at *
  have hzp := two_pos p
  have hzo := two_pos o
  have hxz : z ≤ x := by
    apply Int.le_of_not_gt
    intro hlt
    have h1 : 2 ^ (p + 1) ≤ 2 ^ o := Nat.pow_le_pow_right (by decide) (by omega)
    rw [Nat.pow_succ] at h1
    have h2 : (4503599627370496 + t) * 2 ^ p < 9007199254740992 * 2 ^ p := Nat.mul_lt_mul_of_pos_right (by omega) hzp
    have h3 : 4503599627370496 * (2 ^ p * 2) ≤ 4503599627370496 * 2 ^ o := Nat.mul_le_mul_left _ h1
    have h4 : 4503599627370496 * 2 ^ o ≤ (4503599627370496 + u) * 2 ^ o := Nat.mul_le_mul_right _ (by omega)
    omega
  by_cases c : t < u
  · rw [if_pos c]
    have hne : z ≠ x := by
      intro he
      have : o = p := by omega
      subst this
      have : (4503599627370496 + t) * 2 ^ o < (4503599627370496 + u) * 2 ^ o := Nat.mul_lt_mul_of_pos_right (by omega) hzo
      omega
    obtain ⟨k, hk⟩ : ∃ k : Nat, k = (x - z - 1).toNat := ⟨_, rfl⟩
    rw [← hk]
    have e1 : Y * 2 ^ k * 4503599627370496 = (4503599627370496 + u) * 2 ^ (p - 1) := by
      rw [Nat.mul_right_comm, b4, Nat.mul_assoc, ← Nat.pow_add]
      congr 2; omega
    have e2 : 2 ^ p = 2 ^ (p - 1) * 2 := by rw [← Nat.pow_succ]; congr 1; omega
    rw [e2] at a4
    have hz1 := two_pos (p - 1)
    have i1 : (4503599627370496 + u) * 2 ^ (p - 1) ≤ 9007199254740992 * 2 ^ (p - 1) := Nat.mul_le_mul_right _ (by omega)
    have i2 : (4503599627370496 + t) * 2 ^ (p - 1) < (4503599627370496 + u) * 2 ^ (p - 1) := Nat.mul_lt_mul_of_pos_right (by omega) hz1
    have i3 : 4503599627370496 * 2 ^ (p - 1) ≤ (4503599627370496 + t) * 2 ^ (p - 1) := Nat.mul_le_mul_right _ (by omega)
    rw [← Nat.mul_assoc] at a4
    refine ⟨by omega, by omega, by omega, by omega⟩
  · rw [if_neg c, Int.sub_zero]
    obtain ⟨k, hk⟩ : ∃ k : Nat, k = (x - z).toNat := ⟨_, rfl⟩
    rw [← hk]
    have e1 : Y * 2 ^ k * 4503599627370496 = (4503599627370496 + u) * 2 ^ p := by
      rw [Nat.mul_right_comm, b4, Nat.mul_assoc, ← Nat.pow_add]
      congr 2; omega
    have i1 : (4503599627370496 + u) * 2 ^ p ≤ (4503599627370496 + t) * 2 ^ p := Nat.mul_le_mul_right _ (by omega)
    have i2 : (4503599627370496 + t) * 2 ^ p < (4503599627370496 + u + 4503599627370496) * 2 ^ p := Nat.mul_lt_mul_of_pos_right (by omega) hzp
    have i3 : 4503599627370496 * 2 ^ p ≤ (4503599627370496 + u) * 2 ^ p := Nat.mul_le_mul_right _ (by omega)
    rw [Nat.add_mul (4503599627370496 + u)] at i2
    refine ⟨by omega, by omega, by omega, by omega⟩
/-- The difference can be written. -/
theorem rep_step {r y k : Nat} (hr : r < D.infRung) (h1 : V D y * 2 ^ k ≤ V D r) (h2 : V D r < 2 * (V D y * 2 ^ k)) : ∃ s, s < D.infRung ∧ V D s = V D r - V D y * 2 ^ k := by
  have hv := V_lt (f := D) hr
  have d1 := V_digs D r
  have d2 := V_digs D y
  have m1 := digs_lt D r
  have m2 := digs_lt D y
  generalize digs D r = m at *
  generalize digs D y = n at *
  generalize plc D r = i at *
  generalize plc D y = j at *
  have d3 : V D y * 2 ^ k = n * 2 ^ (j + k) := by rw [d2, Nat.mul_assoc, ← Nat.pow_add]
  rw [d3] at h1 h2 ⊢
  generalize j + k = l at *
  obtain ⟨c, hc⟩ : ∃ c, c = min i l := ⟨_, rfl⟩
  have f1 : m * 2 ^ i = m * 2 ^ (i - c) * 2 ^ c := by rw [Nat.mul_assoc, ← Nat.pow_add]; congr 2; omega
  have f2 : n * 2 ^ l = n * 2 ^ (l - c) * 2 ^ c := by rw [Nat.mul_assoc, ← Nat.pow_add]; congr 2; omega
  have hz := two_pos c
  have e : V D r - n * 2 ^ l = (m * 2 ^ (i - c) - n * 2 ^ (l - c)) * 2 ^ c := by rw [d1, f1, f2, Nat.sub_mul]
  rw [e]
  refine rep ?_ (by rw [← e]; omega)
  by_cases ci : i ≤ l
  · have : c = i := by omega
    subst this
    rw [Nat.sub_self, Nat.pow_zero, Nat.mul_one]
    omega
  · have : c = l := by omega
    subst this
    rw [Nat.sub_self, Nat.pow_zero, Nat.mul_one]
    rw [d1, f1] at h2
    have a1 : (m * 2 ^ (i - c) - n) * 2 ^ c < n * 2 ^ c := by
      rw [Nat.sub_mul]; omega
    exact Nat.lt_trans (Nat.lt_of_mul_lt_mul_right a1) m2
/-- The bits that math.Ldexp puts together. -/
theorem ldx {y k : Nat} (hy0 : 0 < y) (hy : y < D.infRung) :
    (1 ≤ k + xpo y → V D ((k + xpo y).toNat * 4503599627370496 + frc y) = V D y * 2 ^ k) ∧
    (k + xpo y < 1 → V D ((k + xpo y + 53).toNat * 4503599627370496 + frc y) = V D y * 2 ^ k * 9007199254740992) := by
  obtain ⟨b1, b2, b3, b4⟩ := frx hy0 hy
  have e1 : V D y * 2 ^ k * 4503599627370496 = (4503599627370496 + frc y) * 2 ^ (k + (xpo y + 51).toNat) := by
    rw [Nat.mul_right_comm, b4, Nat.mul_assoc, ← Nat.pow_add]; congr 2; omega
  constructor
  · intro h
    rw [V_norm (by omega) b3]
    apply Nat.eq_of_mul_eq_mul_right (show 0 < 4503599627370496 by decide)
    rw [e1, Nat.mul_assoc, show (4503599627370496 : Nat) = 2 ^ 52 by decide, ← Nat.pow_add]
    congr 2; omega
  · intro h
    rw [V_norm (by omega) b3]
    apply Nat.eq_of_mul_eq_mul_right (show 0 < 4503599627370496 by decide)
    rw [Nat.mul_right_comm (V D y * 2 ^ k), e1, Nat.mul_assoc, Nat.mul_assoc, show (9007199254740992 : Nat) = 2 ^ 53 by decide, show (4503599627370496 : Nat) = 2 ^ 52 by decide, ← Nat.pow_add, ← Nat.pow_add]
    congr 2; omega
theorem ldx_le {y k r : Nat} (h : V D y * 2 ^ k ≤ V D r) (hr : r < D.infRung) : ∃ s, s < D.infRung ∧ V D s = V D y * 2 ^ k := by
  have hv := V_lt (f := D) hr
  have e : V D y * 2 ^ k = digs D y * 2 ^ (plc D y + k) := by rw [V_digs, Nat.mul_assoc, ← Nat.pow_add]
  rw [e] at h ⊢
  exact rep (digs_lt D y) (by omega)
theorem mod_step {R Y k : Nat} (h : Y * 2 ^ k ≤ R) : (R - Y * 2 ^ k) % Y = R % Y := by
  have := Nat.sub_mul_mod (n := Y) (k := 2 ^ k) (x := R) (by omega)
  exact this
end Go.Num
