/- Numbers with parts, plainly: rounding; sums, products, quotients of the reference are those of the model. No condition. -/
import Ieee.Arith
set_option linter.unusedSimpArgs false
set_option linter.unusedVariables false
namespace Go.Num
open Ieee

theorem two_pos (n : Nat) : 0 < 2 ^ n := Nat.two_pow_pos n
/-- How many binary digits. -/
def len (x : Nat) : Nat := if x = 0 then 0 else x.log2 + 1
theorem len_pos {x : Nat} (h : x ≠ 0) : len x = x.log2 + 1 := if_neg h
theorem lt_len (x : Nat) : x < 2 ^ len x := by
  by_cases h : x = 0
  · subst h; simp [len]
  · rw [len_pos h]; exact Nat.lt_log2_self
theorem len_le {x : Nat} (h : x ≠ 0) : 2 ^ (len x - 1) ≤ x := by
  rw [len_pos h]; exact Nat.log2_self_le h
theorem len_eq {x n : Nat} (h1 : 2 ^ n ≤ x) (h2 : x < 2 ^ (n + 1)) : len x = n + 1 := by
  have h0 : x ≠ 0 := by have := two_pos n; omega
  rw [len_pos h0, (Nat.log2_eq_iff h0).2 ⟨h1, h2⟩]
theorem le_len {x n : Nat} (h : x < 2 ^ n) : len x ≤ n := by
  by_cases h0 : x = 0
  · subst h0; simp [len]
  · have := len_le h0
    have h3 : 2 ^ (len x - 1) < 2 ^ n := Nat.lt_of_le_of_lt this h
    have := (Nat.pow_lt_pow_iff_right (by decide : 1 < 2)).1 h3
    rw [len_pos h0] at this ⊢
    omega
theorem len_ge {x n : Nat} (h : 2 ^ n ≤ x) : n + 1 ≤ len x := by
  have h1 := lt_len x
  have h3 : 2 ^ n < 2 ^ len x := Nat.lt_of_le_of_lt h h1
  have := (Nat.pow_lt_pow_iff_right (by decide : 1 < 2)).1 h3
  omega
theorem len_shift {x s r : Nat} (h : x ≠ 0) (hr : r < 2 ^ s) : len (x * 2 ^ s + r) = len x + s := by
  have h1 := lt_len x
  have h2 := len_le h
  have e : len x = (len x - 1) + 1 := by rw [len_pos h]; omega
  have : len (x * 2 ^ s + r) = (len x - 1 + s) + 1 := by
    apply len_eq
    · rw [Nat.pow_add]; have := Nat.mul_le_mul_right (2 ^ s) h2; omega
    · have h4 : x + 1 ≤ 2 ^ len x := h1
      have := Nat.mul_le_mul_right (2 ^ s) h4
      rw [← Nat.pow_add] at this
      rw [show len x - 1 + s + 1 = len x + s by omega]
      rw [Nat.add_mul, Nat.one_mul] at this
      omega
  omega

/-- 'm' without its last 'd' digits, to the nearest, between two the even one; 'st': a little more than 'm' is meant. -/
def rk (m d : Nat) (st : Bool) : Nat :=
  m / 2 ^ d + if 2 ^ d < 2 * (m % 2 ^ d) ∨ (2 * (m % 2 ^ d) = 2 ^ d ∧ (st = true ∨ m / 2 ^ d % 2 = 1)) then 1 else 0
theorem rk_small {m d : Nat} {st : Bool} (h : 2 * m < 2 ^ d) : rk m d st = 0 := by
  unfold rk
  rw [Nat.div_eq_of_lt (by omega), Nat.mod_eq_of_lt (by omega), if_neg (by omega)]
theorem rk_zero (m : Nat) (st : Bool) : rk m 0 st = m := by
  unfold rk; simp [Nat.mod_one]
theorem rk_exact (m d : Nat) : rk (m * 2 ^ d) d false = m := by
  unfold rk
  have := two_pos d
  rw [Nat.mul_div_cancel _ this, Nat.mul_mod_left, if_neg (by simp; omega)]; rfl
/-- Finer digits are seen in 'st' alone. -/
theorem rk_fine {m d s r : Nat} {st : Bool} (hd : 1 ≤ d) (hr : r < 2 ^ s) : rk (m * 2 ^ s + r) (d + s) st = rk m d (decide (r ≠ 0) || st) := by
  unfold rk
  have hs := two_pos s
  have e1 : (m * 2 ^ s + r) / 2 ^ (d + s) = m / 2 ^ d := by
    rw [Nat.add_comm d s, Nat.pow_add, ← Nat.div_div_eq_div_mul, Nat.mul_comm m, Nat.mul_add_div hs, Nat.div_eq_of_lt hr, Nat.add_zero]
  have e2 : (m * 2 ^ s + r) % 2 ^ (d + s) = (m % 2 ^ d) * 2 ^ s + r := by
    have h1 := Nat.div_add_mod (m * 2 ^ s + r) (2 ^ (d + s))
    have h2 := Nat.div_add_mod m (2 ^ d)
    rw [e1] at h1
    have h3 : m * 2 ^ s = (2 ^ d * (m / 2 ^ d) + m % 2 ^ d) * 2 ^ s := by rw [h2]
    rw [Nat.add_mul] at h3
    have h4 : 2 ^ (d + s) * (m / 2 ^ d) = 2 ^ d * (m / 2 ^ d) * 2 ^ s := by rw [Nat.pow_add, Nat.mul_assoc, Nat.mul_comm (2 ^ s), Nat.mul_assoc]
    omega
  rw [e1, e2]
  congr 1
  have ev : 2 ^ (d + s) = 2 ^ d * 2 ^ s := Nat.pow_add ..
  obtain ⟨d', rfl⟩ : ∃ d', d = d' + 1 := ⟨d - 1, by omega⟩
  generalize m % 2 ^ (d' + 1) = q
  generalize m / 2 ^ (d' + 1) = l
  have hp : 2 ^ (d' + 1) = 2 * 2 ^ d' := by rw [Nat.pow_succ]; omega
  rw [ev, hp]
  generalize 2 ^ d' = g
  generalize 2 ^ s = z at *
  have ez : 2 * g * z = 2 * (g * z) := Nat.mul_assoc ..
  rw [ez]
  rcases Nat.lt_trichotomy q g with h | h | h
  · have : (q + 1) * z ≤ g * z := Nat.mul_le_mul_right _ h
    rw [Nat.add_mul, Nat.one_mul] at this
    rw [if_neg (by omega), if_neg (by omega)]
  · subst h
    by_cases h0 : r = 0
    · subst h0
      simp
    · have c1 : 2 * (q * z) < 2 * (q * z + r) := by omega
      rw [if_pos (.inl c1), if_pos (.inr ⟨by omega, .inl (by simp [h0])⟩)]
  · have : (g + 1) * z ≤ q * z := Nat.mul_le_mul_right _ h
    rw [Nat.add_mul, Nat.one_mul] at this
    rw [if_pos (.inl (by omega)), if_pos (.inl (by omega))]

/-- The rung nearest to 'm * 2 ^ e' ('st': and a little more). -/
def rnd (f : Format) (m : Nat) (e : Int) (st : Bool) : Nat :=
  if m = 0 then 0 else
  let last := max (e + len m - f.fractionBits - 1) f.leastPlace
  min ((last - f.leastPlace).toNat * f.binade + (if last ≤ e then m * 2 ^ (e - last).toNat else rk m (last - e).toNat st)) f.infRung

theorem cut_rk (neg : Bool) (n d : Nat) : Toward.even.cut neg n d = rk n d false := by
  unfold Toward.cut
  simp only [Nat.one_shiftLeft]
  by_cases h : d ≤ n.log2 + 2
  · rw [Nat.min_eq_left h]
    unfold rk
    congr 1
    by_cases c : 2 ^ d < 2 * (n % 2 ^ d) ∨ (2 * (n % 2 ^ d) = 2 ^ d ∧ (false = true ∨ n / 2 ^ d % 2 = 1))
    · rw [if_pos c]
      rcases c with c | ⟨c, c' | c'⟩
      · simp [c]
      · cases c'
      · simp [c, c']
    · rw [if_neg c]
      have c1 : ¬ 2 ^ d < 2 * (n % 2 ^ d) := fun h => c (.inl h)
      have c2 : ¬ (2 ^ d = 2 * (n % 2 ^ d) ∧ n / 2 ^ d % 2 = 1) := fun h => c (.inr ⟨h.1.symm, .inr h.2⟩)
      simp only [Bool.toNat_eq_zero, Bool.or_eq_false_iff, decide_eq_false_iff_not, Bool.and_eq_false_iff, beq_eq_false_iff_ne, ne_eq]
      refine ⟨c1, ?_⟩
      by_cases h : 2 ^ d = 2 * (n % 2 ^ d)
      · exact .inr fun h' => c2 ⟨h, h'⟩
      · exact .inl h
  · rw [Nat.min_eq_right (by omega)]
    have hn : n < 2 ^ (n.log2 + 1) := Nat.lt_log2_self
    have e2 : 2 ^ (n.log2 + 2) = 2 * 2 ^ (n.log2 + 1) := by rw [Nat.pow_succ]; omega
    have hd : 2 ^ (n.log2 + 2) ≤ 2 ^ d := Nat.pow_le_pow_right (by decide) (by omega)
    rw [rk_small (by omega), Nat.div_eq_of_lt (by omega), Nat.mod_eq_of_lt (by omega)]
    have c1 : decide (2 ^ (n.log2 + 2) < 2 * n) = false := decide_eq_false (by omega)
    have c2 : (2 ^ (n.log2 + 2) == 2 * n) = false := by rw [beq_eq_false_iff_ne]; omega
    simp [c1, c2]

theorem nearest_rnd (f : Format) (neg : Bool) (m : Nat) (e : Int) : f.nearest neg m e = f.word neg (rnd f m e false) := by
  unfold Format.nearest rnd
  by_cases h : m = 0
  · rw [if_pos h, if_pos h]
  rw [if_neg h, if_neg h]
  dsimp only
  have el : e + (m.log2 : Int) - (f.fractionBits : Int) = e + (len m : Int) - (f.fractionBits : Int) - 1 := by rw [len_pos h]; omega
  rw [el]
  generalize max (e + (len m : Int) - (f.fractionBits : Int) - 1) f.leastPlace = last
  rw [cut_rk]
  by_cases hl : last ≤ e
  · rw [if_pos hl, show (last - e).toNat = 0 by omega, rk_zero, Nat.shiftLeft_eq]
  · rw [if_neg hl, show (e - last).toNat = 0 by omega, Nat.shiftLeft_zero]

/-- A power of two may go from the one to the other. -/
theorem rnd_scale (f : Format) (m : Nat) (e : Int) (s : Nat) : rnd f (m * 2 ^ s) (e - s) false = rnd f m e false := by
  unfold rnd
  have hs := two_pos s
  by_cases h : m = 0
  · subst h; simp
  have h' : m * 2 ^ s ≠ 0 := Nat.mul_ne_zero h (by omega)
  rw [if_neg h, if_neg h']
  have hl : len (m * 2 ^ s) = len m + s := by have := len_shift (x := m) (s := s) (r := 0) h hs; simpa using this
  dsimp only
  rw [hl]
  have el : e - (s : Int) + ((len m + s : Nat) : Int) - (f.fractionBits : Int) - 1 = e + (len m : Int) - (f.fractionBits : Int) - 1 := by omega
  rw [el]
  generalize max (e + (len m : Int) - (f.fractionBits : Int) - 1) f.leastPlace = last
  congr 2
  by_cases c : last ≤ e
  · rw [if_pos c]
    by_cases c' : last ≤ e - s
    · rw [if_pos c', Nat.mul_assoc, ← Nat.pow_add]; congr 2; omega
    · rw [if_neg c']
      obtain ⟨d, hd⟩ : ∃ d, d = (last - (e - s)).toNat := ⟨_, rfl⟩
      rw [← hd, show s = (e - last).toNat + d by omega, Nat.pow_add, ← Nat.mul_assoc, rk_exact]
  · rw [if_neg c, if_neg (by omega)]
    have := rk_fine (m := m) (d := (last - e).toNat) (s := s) (r := 0) (st := false) (by omega) hs
    rw [Nat.add_zero] at this
    rw [show (last - (e - s)).toNat = (last - e).toNat + s by omega, this]; rfl
/-- Of a long number the last digits are seen in 'st' alone. -/
theorem rnd_fine {f : Format} {m : Nat} {e : Int} {s r : Nat} {st : Bool} (hm : 2 ^ (f.fractionBits + 1) ≤ m) (hr : r < 2 ^ s) : rnd f (m * 2 ^ s + r) (e - s) st = rnd f m e (decide (r ≠ 0) || st) := by
  have hp := two_pos (f.fractionBits + 1)
  have h : m ≠ 0 := by omega
  have hl := len_shift h hr
  have hg := len_ge hm
  unfold rnd
  have h' : m * 2 ^ s + r ≠ 0 := by
    have := Nat.mul_pos (Nat.pos_of_ne_zero h) (two_pos s); omega
  rw [if_neg h, if_neg h']
  dsimp only
  rw [hl]
  have el : e - (s : Int) + ((len m + s : Nat) : Int) - (f.fractionBits : Int) - 1 = e + (len m : Int) - (f.fractionBits : Int) - 1 := by omega
  rw [el]
  have hlast : e < max (e + (len m : Int) - (f.fractionBits : Int) - 1) f.leastPlace := by omega
  generalize max (e + (len m : Int) - (f.fractionBits : Int) - 1) f.leastPlace = last at *
  rw [if_neg (by omega), if_neg (by omega), show (last - (e - s)).toNat = (last - e).toNat + s by omega, rk_fine (by omega) hr]
theorem word_zero (f : Format) : f.word false 0 = 0 := rfl
/-- A number taken out of its bits: not a number; without an end; its sign, digits and place. -/
structure Nm where
  nan : Bool
  inf : Bool
  neg : Bool
  m : Nat
  e : Int
def toD (n : Nm) : Datum := if n.nan = true then .nan n.neg n.m else if n.inf = true then .infinity n.neg else .number n.neg n.m n.e
def openN (f : Format) (x : Nat) : Nm :=
  let fr := x % 2 ^ f.fractionBits
  let ex := x / 2 ^ f.fractionBits % 2 ^ f.exponentBits
  let neg := x / 2 ^ (f.fractionBits + f.exponentBits) % 2 == 1
  if ex = 2 ^ f.exponentBits - 1 then ⟨decide (fr ≠ 0), decide (fr = 0), neg, fr, f.leastPlace⟩
  else if 0 < ex then ⟨false, false, neg, fr + 2 ^ f.fractionBits, (ex : Int) - 1 + f.leastPlace⟩
  else ⟨false, false, neg, fr, f.leastPlace⟩
theorem openN_read (f : Format) (hf : 2 ≤ f.exponentBits) (x : Nat) : f.read x = toD (openN f x) := by
  unfold Format.read openN
  have e1 : f.signWeight = 2 ^ f.fractionBits * 2 ^ f.exponentBits := by unfold Format.signWeight; rw [Nat.pow_add, Nat.mul_comm]
  have e2 : x % f.signWeight / 2 ^ f.fractionBits = x / 2 ^ f.fractionBits % 2 ^ f.exponentBits := by rw [e1]; exact Nat.mod_mul_right_div_self ..
  have e3 : x % f.signWeight % 2 ^ f.fractionBits = x % 2 ^ f.fractionBits := by rw [e1]; exact Nat.mod_mul_right_mod ..
  have e4 : x / f.signWeight = x / 2 ^ (f.fractionBits + f.exponentBits) := by rw [e1, Nat.pow_add]
  have hp := two_pos f.fractionBits
  have hq : 2 ^ 2 ≤ 2 ^ f.exponentBits := Nat.pow_le_pow_right (by decide) hf
  rw [show f.infRung = (2 ^ f.exponentBits - 1) * 2 ^ f.fractionBits from rfl, show f.binade = 2 ^ f.fractionBits from rfl, e4]
  dsimp only
  rw [← e2, ← e3]
  have hr : x % f.signWeight < f.signWeight := Nat.mod_lt _ (two_pos _)
  rw [e1] at hr
  rw [← e1] at hr
  generalize x % f.signWeight = r at *
  have hd := Nat.div_add_mod r (2 ^ f.fractionBits)
  have hm := Nat.mod_lt r hp
  have hb : r / 2 ^ f.fractionBits < 2 ^ f.exponentBits := by
    rw [Nat.div_lt_iff_lt_mul hp, Nat.mul_comm, ← e1]; exact hr
  generalize r / 2 ^ f.fractionBits = q at *
  generalize hfr : r % 2 ^ f.fractionBits = fr at *
  generalize 2 ^ f.exponentBits = E at *
  generalize 2 ^ f.fractionBits = B at *
  have hE : (E - 1) * B = E * B - B := by rw [Nat.sub_mul, Nat.one_mul]
  have hEB : B ≤ E * B := Nat.le_mul_of_pos_left B (by omega)
  by_cases c0 : q = 0
  · subst c0
    rw [Nat.mul_zero] at hd
    rw [if_pos (by omega), if_neg (by omega), if_neg (by omega)]
    unfold toD
    simp only [Bool.false_eq_true, if_false]
    rw [← hd, Nat.zero_add]
  have h1 : B ≤ B * q := Nat.le_mul_of_pos_right B (by omega)
  rw [if_neg (by omega)]
  by_cases c1 : q = E - 1
  · have h2 : B * q = E * B - B := by rw [c1, Nat.mul_comm, hE]
    rw [if_neg (by omega), if_pos c1]
    unfold toD
    by_cases c2 : fr = 0
    · rw [if_pos (by omega)]
      simp [c2]
    · rw [if_neg (by omega)]
      simp only [c2, ne_eq, not_false_eq_true, decide_true, if_true]
      rw [show r - (E - 1) * B = fr by omega]
  · have h2 : B * (q + 1) ≤ B * (E - 1) := Nat.mul_le_mul_left B (by omega)
    rw [Nat.mul_add, Nat.mul_one, Nat.mul_comm B (E - 1)] at h2
    rw [if_pos (by omega), if_neg c1, if_pos (by omega)]
    unfold toD
    simp only [Bool.false_eq_true, if_false]
    rw [Nat.add_comm B fr]
    congr 1
    omega
/-- What holds of a number that was taken out of bits. -/
structure Nm.Ok (f : Format) (n : Nm) : Prop where
  m : n.m < 2 ^ (f.fractionBits + 1)
  e : f.leastPlace ≤ n.e
  n : f.leastPlace < n.e → 2 ^ f.fractionBits ≤ n.m
theorem openN_ok (f : Format) (x : Nat) : (openN f x).Ok f := by
  have hp := two_pos f.fractionBits
  have hm := Nat.mod_lt x hp
  have e1 : 2 ^ (f.fractionBits + 1) = 2 * 2 ^ f.fractionBits := by rw [Nat.pow_succ]; omega
  unfold openN
  dsimp only
  split
  · exact ⟨by show _ % _ < _; omega, Int.le_refl _, fun h => absurd h (by show ¬ f.leastPlace < f.leastPlace; omega)⟩
  · split
    · exact ⟨by show _ + _ < _; omega, by show _ ≤ _ - 1 + _; omega, fun _ => by show _ ≤ _ + _; omega⟩
    · exact ⟨by show _ % _ < _; omega, Int.le_refl _, fun h => absurd h (by show ¬ f.leastPlace < f.leastPlace; omega)⟩

def closeP (f : Format) (neg : Bool) (m : Nat) (e : Int) (st : Bool) : Nat := f.word neg (rnd f m e st)
def nanW (f : Format) : Nat := (2 ^ (f.exponentBits + 1) - 1) * 2 ^ (f.fractionBits - 1)
def infW (f : Format) (neg : Bool) : Nat := f.word neg f.infRung
/-- What an operation gives: of an answer that is none, one NaN. -/
def ans (f : Format) (d : Option Datum) : Nat := (d.map f.write).getD (nanW f)
theorem write_number (f : Format) (s : Bool) (m : Nat) (e : Int) : f.write (.number s m e) = closeP f s m e false := nearest_rnd f s m e

/-! ### Sums -/
/-- The sum of two, the first not nearer to 0. -/
def addC (f : Format) (a b : Nm) : Nat :=
  let x := a.m * 1024
  let e := a.e - 10
  let y := if e ≤ b.e then b.m * 2 ^ (b.e - e).toNat else b.m / 2 ^ (e - b.e).toNat
  let more := decide (b.e < e) && decide (b.m % 2 ^ (e - b.e).toNat ≠ 0)
  if a.neg = b.neg then closeP f a.neg (x + y) e more
  else if x < y then closeP f b.neg (y - x) e false
  else if more = true then closeP f a.neg (x - y - 1) e true
  else if x = y then 0
  else closeP f a.neg (x - y) e false
def swapN (a b : Nm) : Bool := decide (a.e < b.e) || (decide (a.e = b.e) && decide (a.m < b.m))
def addP (f : Format) (a b : Nm) : Nat :=
  if (a.nan || b.nan || (a.inf && b.inf && (a.neg != b.neg))) = true then nanW f
  else if (a.inf || b.inf) = true then infW f ((a.inf && a.neg) || (b.inf && b.neg))
  else if swapN a b = true then addC f b a else addC f a b
theorem sum_comm (s t : Bool) (m n : Nat) (i j : Int) : Datum.sum (.number s m i) (.number t n j) = Datum.sum (.number t n j) (.number s m i) := by
  simp only [Datum.sum]
  rw [Int.min_comm i j, Int.add_comm, Bool.and_comm]
/-- The exact sum, the second at its own place. -/
theorem sum_at {s t : Bool} {m n : Nat} {i j : Int} (h : j ≤ i) (hge : n ≤ m * 2 ^ (i - j).toNat) :
    Datum.sum (.number s m i) (.number t n j) = some (if s = t then .number s (m * 2 ^ (i - j).toNat + n) j else if m * 2 ^ (i - j).toNat = n then .number false 0 j else .number s (m * 2 ^ (i - j).toNat - n) j) := by
  simp only [Datum.sum]
  rw [Int.min_eq_right h, Int.sub_self]
  unfold signed
  simp only [Nat.shiftLeft_eq, Int.toNat_zero, Nat.pow_zero, Nat.mul_one]
  generalize m * 2 ^ (i - j).toNat = A at *
  cases s <;> cases t
  · simp only [Bool.false_eq_true, if_false, if_true, Bool.and_false]
    congr 2
    by_cases h : (A : Int) + n = 0
    · rw [if_pos h]
    · rw [if_neg h]; exact decide_eq_false (by omega)
  · simp only [Bool.false_eq_true, if_false, if_true, Bool.false_and]
    by_cases h : A = n
    · subst h
      rw [if_pos rfl, if_pos (by omega), show (A : Int) + -(A : Int) = 0 by omega]; rfl
    · rw [if_neg h, if_neg (by omega)]
      congr 2
      · exact decide_eq_false (by omega)
      · omega
  · simp only [Bool.true_eq_false, if_false, if_true, Bool.true_and, Bool.false_eq_true]
    by_cases h : A = n
    · subst h
      rw [if_pos rfl, if_pos (by omega), show -(A : Int) + (A : Int) = 0 by omega]; rfl
    · rw [if_neg h, if_neg (by omega)]
      congr 2
      · exact decide_eq_true (by omega)
      · omega
  · simp only [if_true, Bool.and_self]
    congr 2
    · by_cases h : -(A : Int) + -(n : Int) = 0
      · rw [if_pos h]
      · rw [if_neg h]; exact decide_eq_true (by omega)
    · omega
theorem addC_spec (f : Format) (a b : Nm) (ha : a.Ok f) (hb : b.Ok f) (ho : swapN a b = false) :
    some (addC f a b) = (Datum.sum (.number a.neg a.m a.e) (.number b.neg b.m b.e)).map f.write := by
  unfold swapN at ho
  simp only [Bool.or_eq_false_iff, Bool.and_eq_false_iff, decide_eq_false_iff_not] at ho
  obtain ⟨o1, o2⟩ := ho
  have hle : b.e ≤ a.e := by omega
  have hp := two_pos f.fractionBits
  have e1 : 2 ^ (f.fractionBits + 1) = 2 * 2 ^ f.fractionBits := by rw [Nat.pow_succ]; omega
  obtain ⟨k, hk⟩ : ∃ k, k = (a.e - b.e).toNat := ⟨_, rfl⟩
  have hbm := hb.m
  have hge : b.m ≤ a.m * 2 ^ k := by
    by_cases h : k = 0
    · subst h; rw [Nat.pow_zero, Nat.mul_one]; rcases o2 with h | h <;> omega
    · have h1 := ha.n (by have := hb.e; omega)
      have h2 : 2 ^ 1 ≤ 2 ^ k := Nat.pow_le_pow_right (by decide) (by omega)
      have h3 := Nat.mul_le_mul h1 h2
      omega
  rw [sum_at hle (by rw [← hk]; exact hge), ← hk]
  unfold addC
  by_cases c : a.e - 10 ≤ b.e
  · obtain ⟨s, hs⟩ : ∃ s, s = (b.e - (a.e - 10)).toNat := ⟨_, rfl⟩
    have hsp := two_pos s
    have ex : a.m * 1024 = a.m * 2 ^ k * 2 ^ s := by
      rw [Nat.mul_assoc, ← Nat.pow_add, show k + s = 10 by omega]
    have ee : a.e - 10 = b.e - (s : Int) := by omega
    dsimp only
    rw [if_pos c, ← hs, ex, decide_eq_false (show ¬ b.e < a.e - 10 by omega), Bool.false_and, ee]
    generalize a.m * 2 ^ k = A at *
    by_cases cs : a.neg = b.neg
    · rw [if_pos cs, if_pos cs, ← Nat.add_mul]
      simp only [Option.map_some, write_number]
      unfold closeP
      rw [rnd_scale]
    · rw [if_neg cs, if_neg cs]
      have hm2 : b.m * 2 ^ s ≤ A * 2 ^ s := Nat.mul_le_mul_right _ hge
      rw [if_neg (by omega), if_neg (by decide)]
      by_cases ce : A = b.m
      · subst ce; rw [if_pos rfl, if_pos rfl]; simp only [Option.map_some, write_number]; unfold closeP rnd; simp [word_zero]
      · have hlt : (b.m + 1) * 2 ^ s ≤ A * 2 ^ s := Nat.mul_le_mul_right _ (by omega)
        rw [Nat.add_mul, Nat.one_mul] at hlt
        rw [if_neg (by omega), if_neg ce, ← Nat.sub_mul]
        simp only [Option.map_some, write_number]
        unfold closeP
        rw [rnd_scale]
  · obtain ⟨s, hs⟩ : ∃ s, s = (a.e - 10 - b.e).toNat := ⟨_, rfl⟩
    have hsp := two_pos s
    have ex : a.m * 2 ^ k = a.m * 1024 * 2 ^ s := by
      rw [Nat.mul_assoc, show (1024 : Nat) = 2 ^ 10 by decide, ← Nat.pow_add, show 10 + s = k by omega]
    have ee : b.e = a.e - 10 - (s : Int) := by omega
    have h1 := ha.n (by have := hb.e; omega)
    have hdm := Nat.div_add_mod b.m (2 ^ s)
    have hml := Nat.mod_lt b.m hsp
    have hs2 : 2 ^ 1 ≤ 2 ^ s := Nat.pow_le_pow_right (by decide) (by omega)
    have hy : b.m / 2 ^ s ≤ b.m / 2 := Nat.div_le_div_left hs2 (by decide)
    dsimp only
    rw [if_neg c, ← hs, ex, decide_eq_true (show b.e < a.e - 10 by omega), Bool.true_and, ee]
    rw [Nat.mul_comm] at hdm
    generalize b.m / 2 ^ s = y at *
    generalize hr : b.m % 2 ^ s = r at *
    rw [← hdm]
    by_cases cs : a.neg = b.neg
    · rw [if_pos cs, if_pos cs, ← Nat.add_assoc, ← Nat.add_mul]
      simp only [Option.map_some, write_number]
      unfold closeP
      rw [rnd_fine (by omega) hml, Bool.or_false]
    · rw [if_neg cs, if_neg cs, if_neg (by omega)]
      have hz : y * 2 ^ s + 2 ^ s ≤ a.m * 1024 * 2 ^ s := by
        have := Nat.mul_le_mul_right (2 ^ s) (show y + 1 ≤ a.m * 1024 by omega)
        rw [Nat.add_mul, Nat.one_mul] at this; exact this
      by_cases hr0 : r = 0
      · subst hr0
        have hz2 : y * 2 ^ s < a.m * 1024 * 2 ^ s := by omega
        rw [if_neg (by simp), if_neg (by omega), if_neg (by omega), Nat.add_zero, ← Nat.sub_mul]
        simp only [Option.map_some, write_number]
        unfold closeP
        rw [rnd_scale]
      · rw [if_pos (by simp [hr0]), if_neg (by omega)]
        have : a.m * 1024 * 2 ^ s - (y * 2 ^ s + r) = (a.m * 1024 - y - 1) * 2 ^ s + (2 ^ s - r) := by
          rw [Nat.sub_mul, Nat.sub_mul, Nat.one_mul]; omega
        rw [this]
        simp only [Option.map_some, write_number]
        unfold closeP
        rw [rnd_fine (by omega) (by omega), decide_eq_true (by omega : 2 ^ s - r ≠ 0)]; rfl
theorem addP_spec (f : Format) (a b : Nm) (ha : a.Ok f) (hb : b.Ok f) : addP f a b = ans f ((toD a).sum (toD b)) := by
  unfold addP toD ans
  obtain ⟨an, ai, as, am, ae⟩ := a
  obtain ⟨bn, bi, bs, bm, be⟩ := b
  cases an <;> cases bn <;> cases ai <;> cases bi
  · simp only [Bool.or_false, Bool.and_false, Bool.false_and, Bool.false_eq_true, if_false]
    cases ho : swapN ⟨false, false, as, am, ae⟩ ⟨false, false, bs, bm, be⟩
    · simp only [Bool.false_eq_true, if_false]
      rw [← addC_spec f _ _ ha hb ho]; rfl
    · simp only [if_true]
      rw [sum_comm]
      have : swapN ⟨false, false, bs, bm, be⟩ ⟨false, false, as, am, ae⟩ = false := by
        unfold swapN at *
        simp only [Bool.or_eq_true, Bool.and_eq_true, decide_eq_true_eq, Bool.or_eq_false_iff, Bool.and_eq_false_iff, decide_eq_false_iff_not] at *
        omega
      rw [← addC_spec f _ _ hb ha this]; rfl
  all_goals simp [Datum.sum, Format.write, infW]
  · cases as <;> cases bs <;> simp
/-! ### Products -/
def mulP (f : Format) (a b : Nm) : Nat :=
  if (a.nan || b.nan || (a.inf && !b.inf && decide (b.m = 0)) || (b.inf && !a.inf && decide (a.m = 0))) = true then nanW f
  else if (a.inf || b.inf) = true then infW f (a.neg != b.neg)
  else
    let p := a.m * b.m
    let n := len (p / 2 ^ 64)
    closeP f (a.neg != b.neg) (p / 2 ^ n) (a.e + b.e + n) (decide (p % 2 ^ n ≠ 0))
theorem xor_bne (a b : Bool) : (a ^^ b) = (a != b) := by cases a <;> cases b <;> rfl
theorem mulP_spec (f : Format) (hf : f.fractionBits + 1 < 64) (a b : Nm) : mulP f a b = ans f ((toD a).product (toD b)) := by
  unfold mulP toD ans
  obtain ⟨an, ai, as, am, ae⟩ := a
  obtain ⟨bn, bi, bs, bm, be⟩ := b
  cases an <;> cases bn <;> cases ai <;> cases bi
  · simp only [Bool.or_false, Bool.and_false, Bool.false_and, Bool.false_eq_true, if_false, Datum.product, Option.map_some, Option.getD_some, write_number, xor_bne]
    unfold closeP
    congr 1
    generalize am * bm = p
    by_cases hz : p / 2 ^ 64 = 0
    · rw [hz, show len 0 = 0 from rfl, Nat.pow_zero, Nat.div_one, Nat.mod_one]; simp
    · have h1 := len_le hz
      have h2 := len_pos hz
      generalize len (p / 2 ^ 64) = n at *
      have hn := two_pos n
      have h3 := Nat.div_add_mod p (2 ^ n)
      have h4 := Nat.mod_lt p hn
      have h5 : 2 ^ 63 ≤ p / 2 ^ n := by
        rw [Nat.le_div_iff_mul_le hn, ← Nat.pow_add]
        have h6 : 2 ^ (n - 1) * 2 ^ 64 ≤ p / 2 ^ 64 * 2 ^ 64 := Nat.mul_le_mul_right _ h1
        rw [← Nat.pow_add] at h6
        rw [show 63 + n = n - 1 + 64 by omega]
        exact Nat.le_trans h6 (Nat.div_mul_le_self _ _)
      have h7 : 2 ^ (f.fractionBits + 1) ≤ 2 ^ 63 := Nat.pow_le_pow_right (by decide) (by omega)
      have := rnd_fine (f := f) (m := p / 2 ^ n) (e := ae + be + n) (s := n) (r := p % 2 ^ n) (st := false) (by omega) h4
      rw [Nat.mul_comm, h3, Bool.or_false] at this
      rw [← this, show ae + be + (n : Int) - n = ae + be by omega]
  all_goals simp only [Bool.or_false, Bool.or_true, Bool.and_false, Bool.and_true, Bool.false_and, Bool.true_and, Bool.not_true, Bool.not_false, Bool.false_or, Bool.true_or, Bool.false_eq_true, if_false, if_true, Datum.product, xor_bne]
  all_goals first
    | rfl
    | (split <;> rename_i h <;> simp only [decide_eq_true_eq] at h <;> simp [h, Format.write, infW] <;> cases as <;> cases bs <;> rfl)
/-! ### Quotients -/
/-- The quotient to 't' digits more than there are. -/
def divP (f : Format) (t : Nat) (a b : Nm) : Nat :=
  let zero := !b.inf && decide (b.m = 0)
  let none := !a.inf && decide (a.m = 0)
  if (a.nan || b.nan || (a.inf && b.inf) || (zero && none)) = true then nanW f
  else if (a.inf || zero) = true then infW f (a.neg != b.neg)
  else if (b.inf || none) = true then f.word (a.neg != b.neg) 0
  else closeP f (a.neg != b.neg) (a.m * 2 ^ t / b.m) (a.e - b.e - t) (decide (a.m * 2 ^ t % b.m ≠ 0))
theorem quot_fine {f : Format} {x n t s : Nat} {e : Int} (hn : 0 < n) (h : 2 ^ (f.fractionBits + 1) ≤ x * 2 ^ t / n) :
    rnd f (x * 2 ^ (t + s) / n) (e - (t + s : Nat)) (decide (x * 2 ^ (t + s) % n ≠ 0)) = rnd f (x * 2 ^ t / n) (e - t) (decide (x * 2 ^ t % n ≠ 0)) := by
  have hs := two_pos s
  have h1 := Nat.div_add_mod (x * 2 ^ t) n
  have h2 := Nat.div_add_mod (x * 2 ^ (t + s)) n
  have h3 := Nat.mod_lt (x * 2 ^ t) hn
  have h4 := Nat.mod_lt (x * 2 ^ (t + s)) hn
  have ex : x * 2 ^ (t + s) = x * 2 ^ t * 2 ^ s := by rw [Nat.pow_add, Nat.mul_assoc]
  rw [ex] at h2 h4 ⊢
  generalize x * 2 ^ t = X at *
  have hq : X * 2 ^ s / n / 2 ^ s = X / n := by
    rw [Nat.div_div_eq_div_mul, Nat.mul_div_mul_right _ _ hs]
  have h5 := Nat.div_add_mod (X * 2 ^ s / n) (2 ^ s)
  have h6 := Nat.mod_lt (X * 2 ^ s / n) hs
  rw [hq] at h5
  have := rnd_fine (f := f) (m := X / n) (e := e - t) (s := s) (r := X * 2 ^ s / n % 2 ^ s) (st := decide (X * 2 ^ s % n ≠ 0)) h h6
  rw [Nat.mul_comm, h5] at this
  rw [show e - ((t + s : Nat) : Int) = e - t - s by omega, this]
  congr 1
  generalize X * 2 ^ s / n % 2 ^ s = r at *
  generalize X * 2 ^ s / n = Q at *
  have key : X % n = 0 ↔ r = 0 ∧ X * 2 ^ s % n = 0 := by
    have e1 : n * Q = n * (2 ^ s * (X / n)) + n * r := by rw [← h5, Nat.mul_add]
    have e2 : X * 2 ^ s = n * (X / n) * 2 ^ s + X % n * 2 ^ s := by rw [← Nat.add_mul, h1]
    have e3 : n * (2 ^ s * (X / n)) = n * (X / n) * 2 ^ s := by rw [Nat.mul_comm (2 ^ s), Nat.mul_assoc]
    constructor
    · intro h0
      rw [h0, Nat.zero_mul] at e2
      have : n * r = 0 := by omega
      rcases Nat.mul_eq_zero.1 this with h | h
      · omega
      · exact ⟨h, by omega⟩
    · rintro ⟨rfl, h0⟩
      have : X % n * 2 ^ s = 0 := by omega
      rcases Nat.mul_eq_zero.1 this with h | h <;> omega
  by_cases c : X % n = 0
  · obtain ⟨k1, k2⟩ := key.1 c
    simp [c, k1, k2]
  · have : ¬ (r = 0 ∧ X * 2 ^ s % n = 0) := fun h => c (key.2 h)
    by_cases k1 : r = 0
    · simp [c, k1, show ¬ X * 2 ^ s % n = 0 from fun h => this ⟨k1, h⟩]
    · simp [c, k1]
theorem quot_same {f : Format} {x n t u : Nat} {e : Int} (hn : 0 < n) (h : 2 ^ (f.fractionBits + 1) ≤ x * 2 ^ t / n) (h' : 2 ^ (f.fractionBits + 1) ≤ x * 2 ^ u / n) :
    rnd f (x * 2 ^ t / n) (e - t) (decide (x * 2 ^ t % n ≠ 0)) = rnd f (x * 2 ^ u / n) (e - u) (decide (x * 2 ^ u % n ≠ 0)) := by
  rcases Nat.le_total t u with hl | hl
  · obtain ⟨s, rfl⟩ := Nat.le.dest hl
    exact (quot_fine hn h).symm
  · obtain ⟨s, rfl⟩ := Nat.le.dest hl
    exact quot_fine hn h'
theorem divP_spec (f : Format) (t : Nat) (a b : Nm) (ht : a.m ≠ 0 → b.m ≠ 0 → 2 ^ (f.fractionBits + 1) ≤ a.m * 2 ^ t / b.m) : divP f t a b = ans f ((toD a).quotient (f.fractionBits + 2) (toD b)) := by
  unfold divP toD ans
  obtain ⟨an, ai, as, am, ae⟩ := a
  obtain ⟨bn, bi, bs, bm, be⟩ := b
  cases an <;> cases bn <;> cases ai <;> cases bi
  · simp only [Bool.or_false, Bool.and_false, Bool.false_and, Bool.false_eq_true, if_false, Datum.quotient, xor_bne, Bool.not_false, Bool.true_and, Bool.false_or, decide_eq_true_eq, Bool.and_eq_true]
    by_cases hb : bm = 0
    · subst hb
      by_cases ha : am = 0
      · subst ha; simp
      · simp [ha, Format.write, infW]
    · by_cases ha : am = 0
      · subst ha
        simp only [hb, if_false, if_true, and_true, Nat.zero_shiftLeft, Nat.zero_div, Nat.mul_zero, Nat.zero_mod, bne_self_eq_false, Bool.toNat_false, Nat.add_zero, Option.map_some, Option.getD_some, write_number, closeP]
        rfl
      · rw [if_neg (by simp [ha]), if_neg hb, if_neg ha, if_neg hb]
        simp only [Option.map_some, Option.getD_some, write_number]
        unfold closeP
        congr 1
        have ht' := ht ha hb
        simp only at ht'
        obtain ⟨u, hu⟩ : ∃ u, u = f.fractionBits + 2 + bm.log2 - am.log2 := ⟨_, rfl⟩
        rw [← hu, Nat.shiftLeft_eq]
        have hn : 0 < bm := by omega
        have hq : 2 ^ (f.fractionBits + 1) ≤ am * 2 ^ u / bm := by
          rw [Nat.le_div_iff_mul_le hn]
          have h1 : bm < 2 ^ (bm.log2 + 1) := Nat.lt_log2_self
          have h2 : 2 ^ am.log2 ≤ am := Nat.log2_self_le ha
          have h3 : 2 ^ am.log2 * 2 ^ u ≤ am * 2 ^ u := Nat.mul_le_mul_right _ h2
          have h4 : 2 ^ (f.fractionBits + 1) * bm ≤ 2 ^ (f.fractionBits + 1) * 2 ^ (bm.log2 + 1) := Nat.mul_le_mul_left _ (by omega)
          rw [← Nat.pow_add] at h3 h4
          have h5 : 2 ^ (f.fractionBits + 1 + (bm.log2 + 1)) ≤ 2 ^ (am.log2 + u) := Nat.pow_le_pow_right (by decide) (by omega)
          omega
        rw [quot_same (e := ae - be) hn ht' hq]
        have hbl : (am * 2 ^ u % bm != 0).toNat < 2 ^ 1 := by cases (am * 2 ^ u % bm != 0) <;> decide
        have := rnd_fine (f := f) (m := am * 2 ^ u / bm) (e := ae - be - u) (s := 1) (r := (am * 2 ^ u % bm != 0).toNat) (st := false) hq hbl
        rw [Nat.pow_one, Nat.mul_comm _ 2, Bool.or_false] at this
        rw [show ae - be - (u : Int) - 1 = ae - be - u - (1 : Nat) by omega, this]
        congr 1
        by_cases c : am * 2 ^ u % bm = 0
        · simp [c]
        · have : (am * 2 ^ u % bm != 0) = true := by simp [c]
          rw [this]; simp [c]
  all_goals simp only [Bool.or_false, Bool.or_true, Bool.and_false, Bool.and_true, Bool.false_and, Bool.true_and, Bool.not_true, Bool.not_false, Bool.false_or, Bool.true_or, Bool.false_eq_true, if_false, if_true, Datum.quotient, xor_bne]
  all_goals first
    | rfl
    | skip
  all_goals simp [Format.write, infW, closeP, Format.nearest]
end Go.Num
