/- Numbers with parts, plainly: values of rungs, their order. No condition. -/
import Derived.Test.YtedleaeohbjfnaaQA
set_option linter.unusedSimpArgs false
set_option linter.unusedVariables false
namespace Go.Num
open Ieee

/-! ### Values of rungs -/
/-- What a rung stands for, in units of the format's last place. -/
def V (f : Format) (r : Nat) : Nat := if r < 2 ^ f.fractionBits then r else (2 ^ f.fractionBits + r % 2 ^ f.fractionBits) * 2 ^ (r / 2 ^ f.fractionBits - 1)
theorem V_zero (f : Format) : V f 0 = 0 := by unfold V; rw [if_pos (two_pos _)]
theorem V_small {f : Format} {r : Nat} (h : r < 2 ^ (f.fractionBits + 1)) : V f r = r := by
  unfold V
  have hp := two_pos f.fractionBits
  rw [Nat.pow_succ] at h
  by_cases c : r < 2 ^ f.fractionBits
  · rw [if_pos c]
  · rw [if_neg c]
    have h1 : r / 2 ^ f.fractionBits = 1 := by
      exact Nat.div_eq_of_lt_le (by omega) (by omega)
    have h2 := Nat.div_add_mod r (2 ^ f.fractionBits)
    rw [h1] at h2 ⊢
    omega
theorem V_step (f : Format) (r : Nat) : V f r < V f (r + 1) := by
  have hp := two_pos f.fractionBits
  unfold V
  generalize 2 ^ f.fractionBits = B at *
  by_cases c : r + 1 < B
  · rw [if_pos (by omega), if_pos c]; omega
  rw [if_neg c]
  by_cases c2 : r < B
  · have : r + 1 = B := by omega
    rw [if_pos c2, this, Nat.mod_self, Nat.div_self hp]; simp; omega
  rw [if_neg c2]
  have h1 := Nat.div_add_mod r B
  have h2 := Nat.mod_lt r hp
  have hq : 1 ≤ r / B := by rw [Nat.le_div_iff_mul_le hp]; omega
  generalize hqq : r / B = q at *
  generalize r % B = t at *
  by_cases c3 : t + 1 < B
  · have e1 : (r + 1) / B = q := by
      rw [← h1, Nat.add_assoc, Nat.mul_add_div hp, Nat.div_eq_of_lt c3, Nat.add_zero]
    have e2 : (r + 1) % B = t + 1 := by
      rw [← h1, Nat.add_assoc, Nat.mul_add_mod, Nat.mod_eq_of_lt c3]
    rw [e1, e2, ← Nat.add_assoc, Nat.add_mul (B + t) 1]
    have := two_pos (q - 1)
    omega
  · have e0 : r + 1 = B * (q + 1) := by rw [Nat.mul_add, Nat.mul_one]; omega
    have e1 : (r + 1) / B = q + 1 := by rw [e0, Nat.mul_div_cancel_left _ hp]
    have e2 : (r + 1) % B = 0 := by rw [e0, Nat.mul_mod_right]
    rw [e1, e2, Nat.add_zero, show q + 1 - 1 = (q - 1) + 1 by omega, Nat.pow_succ]
    have hz := two_pos (q - 1)
    have : (B + t) * 2 ^ (q - 1) + 2 ^ (q - 1) ≤ B * (2 ^ (q - 1) * 2) := by
      rw [Nat.mul_comm (2 ^ (q - 1)) 2, ← Nat.mul_assoc]
      have := Nat.mul_le_mul_right (2 ^ (q - 1)) (show B + t + 1 ≤ B * 2 by omega)
      rw [Nat.add_mul, Nat.one_mul] at this
      exact this
    omega
theorem V_lt {f : Format} {r s : Nat} (h : r < s) : V f r < V f s := by
  induction s with
  | zero => omega
  | succ s ih =>
    have h1 := V_step f s
    by_cases c : r = s
    · subst c; exact h1
    · exact Nat.lt_trans (ih (by omega)) h1
theorem V_lt_iff {f : Format} {r s : Nat} : V f r < V f s ↔ r < s := by
  constructor
  · intro h
    rcases Nat.lt_trichotomy r s with c | c | c
    · exact c
    · subst c; omega
    · have := V_lt (f := f) c; omega
  · exact V_lt
theorem V_inj {f : Format} {r s : Nat} (h : V f r = V f s) : r = s := by
  rcases Nat.lt_trichotomy r s with c | c | c
  · have := V_lt (f := f) c; omega
  · exact c
  · have := V_lt (f := f) c; omega
/-- The sign and the rung of a word. -/
def sgn (f : Format) (x : Nat) : Bool := x / f.signWeight % 2 == 1
def rung (f : Format) (x : Nat) : Nat := x % f.signWeight
theorem word_of (f : Format) {x : Nat} (h : x < 2 ^ f.width) : x = f.word (sgn f x) (rung f x) := by
  unfold sgn rung Format.word
  have h1 := Nat.div_add_mod x f.signWeight
  have hp : 0 < f.signWeight := two_pos _
  have hw : 2 ^ f.width = 2 * f.signWeight := by unfold Format.width Format.signWeight; rw [Nat.add_assoc, Nat.add_comm 1, Nat.pow_succ, Nat.mul_comm]
  have hd : x / f.signWeight < 2 := by rw [Nat.div_lt_iff_lt_mul hp]; omega
  generalize x / f.signWeight = q at *
  rcases (by omega : q = 0 ∨ q = 1) with rfl | rfl
  · simp at *; omega
  · simp at *; omega
theorem sgn_word (f : Format) (s : Bool) {r : Nat} (h : r < f.signWeight) : sgn f (f.word s r) = s ∧ rung f (f.word s r) = r := by
  unfold sgn rung Format.word
  have hp : 0 < f.signWeight := two_pos _
  cases s
  · simp [Nat.div_eq_of_lt h, Nat.mod_eq_of_lt h]
  · simp only [if_true]
    rw [Nat.add_div_left _ hp, Nat.div_eq_of_lt h, Nat.add_mod_left, Nat.mod_eq_of_lt h]; exact ⟨rfl, rfl⟩
/-- A number out of a rung: its digits and its place. -/
def digs (f : Format) (r : Nat) : Nat := if r < 2 ^ f.fractionBits then r else 2 ^ f.fractionBits + r % 2 ^ f.fractionBits
def plc (f : Format) (r : Nat) : Nat := if r < 2 ^ f.fractionBits then 0 else r / 2 ^ f.fractionBits - 1
theorem V_digs (f : Format) (r : Nat) : V f r = digs f r * 2 ^ plc f r := by
  unfold V digs plc
  split
  · simp
  · rfl
theorem digs_lt (f : Format) (r : Nat) : digs f r < 2 ^ (f.fractionBits + 1) := by
  unfold digs
  have hp := two_pos f.fractionBits
  have := Nat.mod_lt r hp
  rw [Nat.pow_succ]
  split <;> omega
theorem read_rung (f : Format) {x : Nat} (h : rung f x < f.infRung) : f.read x = .number (sgn f x) (digs f (rung f x)) (f.leastPlace + plc f (rung f x)) := by
  unfold Format.read digs plc
  dsimp only
  rw [show x % f.signWeight = rung f x from rfl, show (x / f.signWeight % 2 == 1) = sgn f x from rfl, show f.binade = 2 ^ f.fractionBits from rfl]
  by_cases c : rung f x < 2 ^ f.fractionBits
  · rw [if_pos c, if_pos c, if_pos c]; simp
  · rw [if_neg c, if_neg c, if_neg c, if_pos h]
theorem read_inf (f : Format) (hf : 2 ≤ f.exponentBits) {x : Nat} (h : rung f x = f.infRung) : f.read x = .infinity (sgn f x) := by
  unfold Format.read
  dsimp only
  rw [show x % f.signWeight = rung f x from rfl, show (x / f.signWeight % 2 == 1) = sgn f x from rfl, h]
  have hp : 0 < f.binade := two_pos _
  have hq : 2 ^ 2 ≤ 2 ^ f.exponentBits := Nat.pow_le_pow_right (by decide) hf
  have : f.binade ≤ f.infRung := Nat.le_mul_of_pos_left _ (by omega)
  rw [if_neg (by omega), if_neg (by omega), if_pos rfl]
theorem read_nan (f : Format) (hf : 2 ≤ f.exponentBits) {x : Nat} (h : f.infRung < rung f x) : f.read x = .nan (sgn f x) (rung f x - f.infRung) := by
  unfold Format.read
  dsimp only
  rw [show x % f.signWeight = rung f x from rfl, show (x / f.signWeight % 2 == 1) = sgn f x from rfl]
  have hp : 0 < f.binade := two_pos _
  have hq : 2 ^ 2 ≤ 2 ^ f.exponentBits := Nat.pow_le_pow_right (by decide) hf
  have : f.binade ≤ f.infRung := Nat.le_mul_of_pos_left _ (by omega)
  rw [if_neg (by omega), if_neg (by omega), if_neg (by omega)]

/-! ### Order -/
def sg (s : Bool) (n : Nat) : Int := if s = true then -(n : Int) else n
theorem compare_of {a b c d : Int} (h1 : a < b ↔ c < d) (h2 : a = b ↔ c = d) : compare a b = compare c d := by
  show compareOfLessAndEq a b = compareOfLessAndEq c d
  unfold compareOfLessAndEq
  by_cases x : a < b
  · rw [if_pos x, if_pos (h1.1 x)]
  · rw [if_neg x, if_neg (fun h => x (h1.2 h))]
    by_cases y : a = b
    · rw [if_pos y, if_pos (h2.1 y)]
    · rw [if_neg y, if_neg (fun h => y (h2.2 h))]
theorem sg_V {f : Format} {s t : Bool} {r q : Nat} : compare (sg s (V f r)) (sg t (V f q)) = compare (sg s r) (sg t q) := by
  have h1 := @V_lt_iff f r q
  have h2 := @V_lt_iff f q r
  have h3 := @V_lt_iff f 0 q
  have h4 := @V_lt_iff f 0 r
  rw [V_zero] at h3 h4
  have h5 : V f r = V f q ↔ r = q := ⟨V_inj, fun h => by rw [h]⟩
  unfold sg
  apply compare_of
  · cases s <;> cases t <;> simp <;> omega
  · cases s <;> cases t <;> simp <;> omega
theorem signed_sg (s : Bool) (m k : Nat) : signed s m k = sg s (m * 2 ^ k) := by
  unfold signed sg; rw [Nat.shiftLeft_eq]
theorem sg_mul (s : Bool) (a c : Nat) : sg s (a * c) = sg s a * (c : Int) := by
  unfold sg; split <;> simp [Int.neg_mul]
theorem compare_mul {a b : Int} {c : Nat} (hc : 0 < c) : compare (a * c) (b * c) = compare a b := by
  have hc' : (0 : Int) < (c : Int) := by omega
  apply compare_of
  · exact Int.mul_lt_mul_right hc'
  · constructor
    · exact Int.eq_of_mul_eq_mul_right (by omega)
    · intro h; rw [h]
def rank (f : Format) (x : Nat) : Int := sg (sgn f x) (rung f x)
/-- Numbers in their order: that of their ranks. -/
theorem order_rank (f : Format) (hf : 2 ≤ f.exponentBits) {x y : Nat} (hx : rung f x ≤ f.infRung) (hy : rung f y ≤ f.infRung) : f.order x y = some (compare (rank f x) (rank f y)) := by
  unfold Format.order rank
  have hq : 2 ^ 2 ≤ 2 ^ f.exponentBits := Nat.pow_le_pow_right (by decide) hf
  have hi : 0 < f.infRung := Nat.mul_pos (by omega) (two_pos _)
  by_cases cx : rung f x = f.infRung
  · rw [read_inf f hf cx, cx]
    by_cases cy : rung f y = f.infRung
    · rw [read_inf f hf cy, cy]
      simp only [Datum.order]
      congr 1
      generalize f.infRung = g at *
      cases sgn f x <;> cases sgn f y <;> (simp only [sg, Bool.toNat_true, Bool.toNat_false, if_true, Bool.false_eq_true, if_false])
      · show _ = compareOfLessAndEq _ _; unfold compareOfLessAndEq; simp
      · show _ = compareOfLessAndEq _ _; unfold compareOfLessAndEq; rw [if_neg (by omega), if_neg (by omega)]; rfl
      · show _ = compareOfLessAndEq _ _; unfold compareOfLessAndEq; rw [if_pos (by omega)]; rfl
      · show _ = compareOfLessAndEq _ _; unfold compareOfLessAndEq; simp
    · rw [read_rung f (by omega)]
      simp only [Datum.order]
      congr 1
      generalize f.infRung = g at *
      show _ = compareOfLessAndEq _ _
      unfold compareOfLessAndEq sg
      cases sgn f x
      · rw [if_neg (by decide), if_neg (by first | (simp; done) | (simp; split <;> omega) | (simp; omega)), if_neg (by first | (simp; done) | (simp; split <;> omega) | (simp; omega))]
      · rw [if_pos rfl, if_pos (by first | (simp; done) | (simp; split <;> omega) | (simp; omega))]
  · rw [read_rung f (by omega)]
    by_cases cy : rung f y = f.infRung
    · rw [read_inf f hf cy, cy]
      simp only [Datum.order]
      congr 1
      generalize f.infRung = g at *
      show _ = compareOfLessAndEq _ _
      unfold compareOfLessAndEq sg
      cases sgn f y
      · rw [if_neg (by decide), if_pos (by first | (simp; done) | (simp; split <;> omega) | (simp; omega))]
      · rw [if_pos rfl, if_neg (by first | (simp; done) | (simp; split <;> omega) | (simp; omega)), if_neg (by first | (simp; done) | (simp; split <;> omega) | (simp; omega))]
    · rw [read_rung f (by omega)]
      simp only [Datum.order]
      congr 1
      rw [← sg_V (f := f), V_digs, V_digs]
      generalize sgn f x = s
      generalize sgn f y = t
      generalize rung f x = r
      generalize rung f y = q
      obtain ⟨c, hc⟩ : ∃ c, c = min (plc f r) (plc f q) := ⟨_, rfl⟩
      rw [signed_sg, signed_sg]
      have e1 : (f.leastPlace + (plc f r : Int) - min (f.leastPlace + (plc f r : Int)) (f.leastPlace + (plc f q : Int))).toNat = plc f r - c := by omega
      have e2 : (f.leastPlace + (plc f q : Int) - min (f.leastPlace + (plc f r : Int)) (f.leastPlace + (plc f q : Int))).toNat = plc f q - c := by omega
      rw [e1, e2]
      have e3 : digs f r * 2 ^ plc f r = digs f r * 2 ^ (plc f r - c) * 2 ^ c := by rw [Nat.mul_assoc, ← Nat.pow_add]; congr 2; omega
      have e4 : digs f q * 2 ^ plc f q = digs f q * 2 ^ (plc f q - c) * 2 ^ c := by rw [Nat.mul_assoc, ← Nat.pow_add]; congr 2; omega
      rw [e3, e4, sg_mul s (digs f r * 2 ^ (plc f r - c)) (2 ^ c), sg_mul t (digs f q * 2 ^ (plc f q - c)) (2 ^ c), compare_mul (two_pos c)]
theorem order_nan (f : Format) (hf : 2 ≤ f.exponentBits) {x y : Nat} (h : f.infRung < rung f x ∨ f.infRung < rung f y) : f.order x y = none := by
  unfold Format.order
  rcases h with h | h
  · rw [read_nan f hf h]; cases f.read y <;> rfl
  · rw [read_nan f hf h]; cases f.read x <;> rfl
theorem cmp_lt (a b : Int) : (some (compare a b) == some Ordering.lt) = decide (a < b) := by
  show (some (compareOfLessAndEq a b) == _) = _
  unfold compareOfLessAndEq
  by_cases x : a < b
  · rw [if_pos x, decide_eq_true x]; rfl
  · rw [if_neg x, decide_eq_false x]; split <;> rfl
theorem cmp_eq (a b : Int) : (some (compare a b) == some Ordering.eq) = decide (a = b) := by
  show (some (compareOfLessAndEq a b) == _) = _
  unfold compareOfLessAndEq
  by_cases x : a < b
  · rw [if_pos x, decide_eq_false (by omega)]; rfl
  · rw [if_neg x]
    by_cases y : a = b
    · rw [if_pos y, decide_eq_true y]; rfl
    · rw [if_neg y, decide_eq_false y]; rfl
theorem cmp_gt (a b : Int) : (some (compare a b) == some Ordering.gt) = decide (b < a) := by
  show (some (compareOfLessAndEq a b) == _) = _
  unfold compareOfLessAndEq
  by_cases x : a < b
  · rw [if_pos x, decide_eq_false (by omega)]; rfl
  · rw [if_neg x]
    by_cases y : a = b
    · rw [if_pos y, decide_eq_false (by omega)]; rfl
    · rw [if_neg y, decide_eq_true (by omega)]; rfl
end Go.Num
