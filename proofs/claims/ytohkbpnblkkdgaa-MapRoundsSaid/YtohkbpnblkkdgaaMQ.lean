/- A map that is read, is written, and is read again as it was (plain): numbers and values. -/
import Derived.Test.YtohkbpnblkkdgaaMP
import Derived.Test.YtohkbpnblkkdgaaM6
namespace Go.Proofs.Ytohkbpnblkkdgaa
open Go.Vc
set_option maxRecDepth 100000
set_option linter.unusedSimpArgs false
set_option linter.unusedVariables false

theorem numB_join (a : List UInt8) : ∀ b : List UInt8, numB (a ++ b) = numB a * 256 ^ b.length + numB b := by
  intro b
  suffices H : ∀ (b : List UInt8) (x : Nat), b.foldl (fun x b => x * 256 + b.toNat) x = x * 256 ^ b.length + numB b by
    unfold numB at H ⊢
    rw [List.foldl_append, H]
  intro b
  induction b with
  | nil => intro x; simp [numB]
  | cons c r ih =>
    intro x
    have h1 : numB (c :: r) = c.toNat * 256 ^ r.length + numB r := by
      show r.foldl _ (0 * 256 + c.toNat) = _
      rw [ih]; simp
    rw [List.foldl_cons, ih, h1, List.length_cons, Nat.pow_succ, Nat.add_mul, Nat.mul_assoc, Nat.mul_comm 256]
    omega
theorem numB_big (x : Nat) : ∀ n, numB (bigS x n) = x % 256 ^ n := by
  intro n
  induction n with
  | zero => simp [bigS, numB, Nat.mod_one]
  | succ n ih =>
    have h1 := numB_join [UInt8.ofNat (x / 256 ^ n % 256)] (bigS x n)
    rw [bigS_succ]
    show numB ([UInt8.ofNat (x / 256 ^ n % 256)] ++ bigS x n) = _
    rw [h1, ih, bigS_len]
    have h2 : numB [UInt8.ofNat (x / 256 ^ n % 256)] = x / 256 ^ n % 256 := by
      show 0 * 256 + (UInt8.ofNat (x / 256 ^ n % 256)).toNat = _
      rw [UInt8.toNat_ofNat']; omega
    rw [h2, Nat.pow_succ, Nat.mod_mul, Nat.mul_comm]
    omega
/-- A number that lies ahead. -/
theorem numS_at {t : List UInt8} {s : RS} {x n : Nat} {rest : List UInt8} (he : s.e = 0) (hn : 0 < n) (ht : t.drop s.p = bigS x n ++ rest) (hx : x < 256 ^ n) : numS t n s = (x, ⟨s.p + n, 0, s.es⟩) ∧ t.drop (s.p + n) = rest := by
  have hl : (t.drop s.p).length = n + rest.length := by rw [ht, List.length_append, bigS_len]
  rw [List.length_drop] at hl
  have hd : t.drop (s.p + n) = rest := by
    rw [← List.drop_drop, ht]
    exact List.drop_left' bigS_len
  refine ⟨?_, hd⟩
  unfold numS takeS
  rw [if_neg (by simp [he]), if_neg (by omega), ht, List.take_left' bigS_len, numB_big, Nat.mod_eq_of_lt hx]
/-- What is read, where nothing is wrong. -/
theorem numS_ok {t : List UInt8} {s : RS} {n : Nat} (h : (numS t n s).2.e = 0) : s.e = 0 ∧ (numS t n s).2 = ⟨s.p + n, 0, s.es⟩ := by
  have he := num_e h
  refine ⟨he, ?_⟩
  unfold numS takeS at h ⊢
  rw [if_neg (by simp [he])] at h ⊢
  split
  · rename_i h1
    rw [if_pos h1] at h
    cases h
  · rfl
/-- A value that can be written, if its class has a name. -/
def GoodV (p : List Cst) (v : VT) : Prop := (v.tag = 7 ∧ v.at' = 0) ∨ (v.tag = 8 ∧ v.name = [] ∧ 0 ≤ v.at' ∧ v.at' ≤ 65535) ∨ (v.tag < 7 ∧ v.name = [] ∧ v.at' = 0)
theorem failS_zero {e q : Nat} {s : RS} (he : e ≠ 0) (h : (failS e q s).e = 0) : False := failS_ne he h
theorem valD_ok {p : List Cst} {l : List UInt8} {s : RS} (h : (valD p l s).2.e = 0) : s.e = 0 ∧ GoodV p (valD p l s).1 ∧ (valD p l s).2 = ⟨s.p + (valS p (valD p l s).1).1.length, 0, s.es⟩ := by
  unfold valD at h ⊢
  simp only at h ⊢
  by_cases h7 : (numS l 1 s).1 = 7
  · rw [if_pos h7] at h ⊢
    by_cases hi : isS p (numS l 2 (numS l 1 s).2).1 7 = true
    · rw [if_pos hi] at h ⊢
      obtain ⟨h1, h2⟩ := numS_ok h
      obtain ⟨h3, h4⟩ := numS_ok h1
      refine ⟨h3, .inl ⟨rfl, rfl⟩, ?_⟩
      simp only [h2, valS, if_true, List.length_cons, bigS_len]
      simp only [h4]
    · rw [if_neg hi] at h
      exact (failS_zero (by decide) h).elim
  · rw [if_neg h7] at h ⊢
    by_cases h8 : (numS l 1 s).1 = 8
    · rw [if_pos h8] at h ⊢
      obtain ⟨h1, h2⟩ := numS_ok h
      obtain ⟨h3, h4⟩ := numS_ok h1
      have hx := numS_lt (l := l) (n := 2) (s := (numS l 1 s).2)
      simp only [Nat.reducePow] at hx
      refine ⟨h3, .inr (.inl ⟨rfl, rfl, by simp only; omega, by simp only; omega⟩), ?_⟩
      simp only [h2, valS, List.length_cons, bigS_len, if_neg (show ¬ 8 = 7 by decide), if_true]
      simp only [h4]
    · rw [if_neg h8] at h ⊢
      by_cases h9 : 8 < (numS l 1 s).1
      · rw [if_pos h9] at h
        exact (failS_zero (by decide) h).elim
      · rw [if_neg h9] at h ⊢
        obtain ⟨h1, h2⟩ := numS_ok h
        refine ⟨h1, .inr (.inr ⟨by simp only; omega, rfl, rfl⟩), ?_⟩
        simp only [h2, valS, if_neg h7, if_neg h8, List.length_cons, List.length_nil]
theorem valsD_ok {p : List Cst} {l : List UInt8} : ∀ (n : Nat) (xs : List VT) (s : RS), (valsD p l n xs s).2.e = 0 →
    ∃ vs : List VT, vs.length = n ∧ (valsD p l n xs s).1 = xs ++ vs ∧ s.e = 0 ∧ (∀ v ∈ vs, GoodV p v) ∧ (valsD p l n xs s).2 = ⟨s.p + (valsS p vs).1.length, 0, s.es⟩ := by
  intro n
  induction n with
  | zero => intro xs s h; exact ⟨[], rfl, by simp [valsD], h, by simp, by simp only [valsD, valsS]; cases s; simp_all [valsD]⟩
  | succ n ih =>
    intro xs s h
    by_cases he : s.e = 0
    · rw [valsD, if_neg (by simp [he])] at h ⊢
      obtain ⟨vs, h1, h2, h3, h4, h5⟩ := ih _ _ h
      obtain ⟨_, g2, g3⟩ := valD_ok h3
      refine ⟨(valD p l s).1 :: vs, by simp [h1], by rw [h2]; simp, he, ?_, ?_⟩
      · intro v hv
        rcases List.mem_cons.1 hv with rfl | hv
        · exact g2
        · exact h4 v hv
      · rw [h5, g3]
        simp only [valsS, List.length_append, Nat.add_assoc]
    · rw [valsD_bad he] at h
      exact absurd h he
/-- A good value, written and read. -/
theorem valS_err {p : List Cst} {v : VT} (h : GoodV p v) : (valS p v).2 = 0 ∨ (valS p v).2 = 7 := by
  rcases h with ⟨h1, _⟩ | ⟨h1, _, h2, h3⟩ | ⟨h1, _⟩
  · unfold valS; rw [if_pos h1]; simp only; split <;> simp
  · unfold valS; rw [if_neg (by omega), if_pos h1]; simp only; rw [if_neg (by omega)]; simp
  · unfold valS; rw [if_neg (by omega), if_neg (by omega)]; simp only; rw [if_neg (by omega)]; simp
theorem valsS_err {p : List Cst} {l : List VT} (h : ∀ v ∈ l, GoodV p v) : (valsS p l).2 = 0 ∨ (valsS p l).2 = 7 := by
  induction l with
  | nil => exact .inl rfl
  | cons v r ih =>
    have h1 := valS_err (h v (by simp))
    have h2 := ih (fun w hw => h w (by simp [hw]))
    simp only [valsS, thenE]
    split
    · exact h2
    · exact h1
theorem cls_back {p : List Cst} {name : List UInt8} (h : clsS p name ≠ 0) : isS p (clsS p name) 7 = true ∧ (clsOfS p (clsS p name)).1 = name := by
  unfold clsS at h ⊢
  cases hf : (p.drop 1).findIdx? (hitS p name) with
  | none => rw [hf] at h; simp at h
  | some i =>
    simp only
    obtain ⟨h1, h2, _⟩ := List.findIdx?_eq_some_iff_getElem.1 hf
    rw [List.length_drop] at h1
    rw [List.getElem_drop] at h2
    have h3 : p[1 + i]'(by omega) = p.getD (i + 1) Cst.zero := by rw [List.getD_eq_getElem?_getD, List.getElem?_eq_getElem (by omega)]; simp [Nat.add_comm]
    rw [h3] at h2
    unfold hitS at h2
    simp only [Bool.and_eq_true, decide_eq_true_eq] at h2
    have hi : isS p (i + 1) 7 = true := by
      unfold isS
      simp only [Bool.and_eq_true, decide_eq_true_eq]
      exact ⟨by omega, by omega, h2.1⟩
    refine ⟨hi, ?_⟩
    unfold clsOfS
    rw [if_pos hi, if_pos h2.2.1]
    exact h2.2.2
theorem valD_at {p : List Cst} {t : List UInt8} {s : RS} {v : VT} {rest : List UInt8} (hp : p.length < 65536) (hv : GoodV p v) (h0 : (valS p v).2 = 0) (he : s.e = 0) (ht : t.drop s.p = (valS p v).1 ++ rest) :
    valD p t s = (v, ⟨s.p + (valS p v).1.length, 0, s.es⟩) ∧ t.drop (s.p + (valS p v).1.length) = rest := by
  have one : ∀ (x : Nat) (r : List UInt8), x < 256 → UInt8.ofNat x :: r = bigS x 1 ++ r := fun x r hx => by rw [bigS_one, Nat.mod_eq_of_lt hx]; rfl
  obtain ⟨tag, name, at'⟩ := v
  rcases hv with ⟨h1, h2⟩ | ⟨h1, h2, h3, h4⟩ | ⟨h1, h2, h3⟩
  · simp only at h1 h2
    subst h1 h2
    have hS : valS p ⟨7, name, 0⟩ = (UInt8.ofNat 7 :: bigS (clsS p name) 2, if clsS p name = 0 then 7 else 0) := rfl
    rw [hS] at h0 ht ⊢
    simp only at h0 ht ⊢
    have hc : clsS p name ≠ 0 := by intro hc; rw [if_pos hc] at h0; cases h0
    have hle := clsS_le p name
    obtain ⟨c1, c2⟩ := cls_back hc
    rw [List.cons_append, one 7 _ (by decide)] at ht
    obtain ⟨q1, q2⟩ := numS_at he (by decide) ht (by decide)
    obtain ⟨q3, q4⟩ := numS_at (s := ⟨s.p + 1, 0, s.es⟩) rfl (by decide) q2 (by simp only [Nat.reducePow]; omega)
    refine ⟨?_, ?_⟩
    · unfold valD
      simp only [q1, q3, if_true, if_pos c1, c2, List.length_cons, bigS_len]
    · simp only [List.length_cons, bigS_len]; exact q4
  · simp only at h1 h2 h3 h4
    subst h1 h2
    obtain ⟨a, rfl⟩ : ∃ a : Nat, at' = (a : Int) := ⟨at'.toNat, by omega⟩
    have hS : (valS p ⟨8, [], (a : Int)⟩).1 = UInt8.ofNat 8 :: bigS a 2 := by
      unfold valS
      simp only [if_neg (show ¬ 8 = 7 by decide), if_true]
      rw [atU_nat (by omega)]
    rw [hS] at ht ⊢
    rw [List.cons_append, one 8 _ (by decide)] at ht
    obtain ⟨q1, q2⟩ := numS_at he (by decide) ht (by decide)
    obtain ⟨q3, q4⟩ := numS_at (s := ⟨s.p + 1, 0, s.es⟩) rfl (by decide) q2 (by simp only [Nat.reducePow]; omega)
    refine ⟨?_, ?_⟩
    · unfold valD
      simp only [q1, q3, if_neg (show ¬ 8 = 7 by decide), if_true, List.length_cons, bigS_len]
    · simp only [List.length_cons, bigS_len]; exact q4
  · simp only at h1 h2 h3
    subst h2 h3
    have hS : (valS p ⟨tag, [], 0⟩).1 = [UInt8.ofNat tag] := by
      unfold valS
      simp only [if_neg (show ¬ tag = 7 by omega), if_neg (show ¬ tag = 8 by omega)]
    rw [hS] at ht ⊢
    rw [List.cons_append, one tag _ (by omega)] at ht
    obtain ⟨q1, q2⟩ := numS_at he (by decide) ht (by simp only [Nat.reducePow]; omega)
    refine ⟨?_, ?_⟩
    · unfold valD
      simp only [q1, if_neg (show ¬ tag = 7 by omega), if_neg (show ¬ tag = 8 by omega), if_neg (show ¬ 8 < tag by omega), List.length_cons, List.length_nil]
    · exact q2
theorem thenE_zero' {a b : Nat} (h : thenE a b = 0) : a = 0 ∧ b = 0 := by
  unfold thenE at h
  split at h
  · rename_i ha; exact ⟨ha, h⟩
  · rename_i ha; exact absurd h ha
theorem valsD_at {p : List Cst} {t : List UInt8} (hp : p.length < 65536) : ∀ (vs : List VT) (xs : List VT) (s : RS) (rest : List UInt8), (∀ v ∈ vs, GoodV p v) → (valsS p vs).2 = 0 → s.e = 0 → t.drop s.p = (valsS p vs).1 ++ rest →
    valsD p t vs.length xs s = (xs ++ vs, ⟨s.p + (valsS p vs).1.length, 0, s.es⟩) ∧ t.drop (s.p + (valsS p vs).1.length) = rest := by
  intro vs
  induction vs with
  | nil => intro xs s rest _ _ he ht; exact ⟨by simp only [valsD, valsS, List.length_nil, List.append_nil]; cases s; simp_all, by simpa [valsS] using ht⟩
  | cons v r ih =>
    intro xs s rest hg h0 he ht
    simp only [valsS] at h0 ht ⊢
    obtain ⟨z1, z2⟩ := thenE_zero' h0
    rw [List.append_assoc] at ht
    obtain ⟨q1, q2⟩ := valD_at hp (hg v (by simp)) z1 he ht
    obtain ⟨q3, q4⟩ := ih (xs ++ [v]) ⟨s.p + (valS p v).1.length, 0, s.es⟩ rest (fun w hw => hg w (by simp [hw])) z2 rfl q2
    refine ⟨?_, ?_⟩
    · rw [List.length_cons, valsD, if_neg (by simp [he]), q1, q3]
      simp only [List.append_assoc, List.singleton_append, List.length_append, Nat.add_assoc]
    · rw [List.length_append, ← Nat.add_assoc]; exact q4
end Go.Proofs.Ytohkbpnblkkdgaa
