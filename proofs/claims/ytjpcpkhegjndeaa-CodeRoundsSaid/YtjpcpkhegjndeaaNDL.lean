/- Instructions out of bytes: how long (plain). -/
import Derived.Test.YtjpcpkhegjndeaaND3
namespace Go.Proofs.Ytjpcpkhegjndeaa
open Go.Vc
set_option maxRecDepth 100000
set_option linter.unusedSimpArgs false
set_option linter.unusedVariables false

theorem key_len (f : Nat) (l : List UInt8) (a : Nat) (ks : List Int) (s : RS) : (keyD f l a ks s).1.length ≤ ks.length + 1 := by
  unfold keyD
  split <;> simp
theorem key_p (f : Nat) (l : List UInt8) (a : Nat) (ha : a ≤ l.length) (ks : List Int) (s : RS) : s.p ≤ (keyD f l a ks s).2.p := (ok_key f l a ha ks s).1
theorem rows_len (f : Nat) (l : List UInt8) (a : Nat) (ha : a ≤ l.length) : ∀ (r : Nat) (c : KT), 4 * (rowsD f l a r c).1.length + c.2.2.p ≤ 4 * c.1.length + (rowsD f l a r c).2.2.p + 4 ∧ 4 * (rowsD f l a r c).2.1.length + c.2.2.p ≤ 4 * c.2.1.length + (rowsD f l a r c).2.2.p + 4 := by
  intro r
  induction r with
  | zero => intro c; exact ⟨by simp only [rowsD]; omega, by simp only [rowsD]; omega⟩
  | succ r ih =>
    intro c
    rw [rowsD]
    split
    · exact ⟨by omega, by omega⟩
    · have h1 := key_len f l a c.1 c.2.2
      have h2 := key_p f l a ha c.1 c.2.2
      have hk := keyD f l a c.1 c.2.2
      generalize keyD f l a c.1 c.2.2 = K at *
      obtain ⟨ks, s1⟩ := K
      simp only at h1 h2 ⊢
      have h3 := ih (ks, c.2.1 ++ [(a : Int) + (sgnD l 4 s1).1], (sgnD l 4 s1).2)
      have h4 := sgn4_p (l := l) (s := s1)
      have h5 := (ok_sgn l 4 s1).1
      by_cases he : (sgnD l 4 s1).2.e = 0
      · have := (h4 he).2
        simp only [List.length_append, List.length_cons, List.length_nil] at h3
        omega
      · rw [rowsD_bad (by simpa using he)]
        simp only [List.length_append, List.length_cons, List.length_nil]
        omega
def Bd (l : List UInt8) (x : In) : Prop := x.keys.length ≤ l.length + 8 ∧ x.tgts.length ≤ l.length + 8
theorem opsD_len (x : In) (a f : Nat) (l : List UInt8) (s : RS) (ha : a ≤ l.length) (hs : s.p ≤ l.length) (hk : x.keys = []) (ht : x.tgts = []) : Bd l (opsD x a f l s).1 := by
  have hi : ∀ (c : Prop) [Decidable c] (y z : In × RS), Bd l y.1 → Bd l z.1 → Bd l (if c then y else z).1 := by
    intro c _ y z hy hz
    split <;> assumption
  have h0 : ∀ y : In, y.keys = [] → y.tgts.length ≤ 1 → Bd l y := fun y h1 h2 => ⟨by rw [h1]; simp, by omega⟩
  have hx1 : x.tgts.length ≤ 1 := by rw [ht]; simp
  have hc : Bd l (choD x a f l s).1 := by
    unfold choD
    simp only
    have hp0 := (ok_pad l a ha 4 s).trans (ok_sgn l 4 _)
    have hp1 := hp0.trans (ok_sgn l 4 _)
    have hp2 := hp1.trans (ok_sgn l 4 _)
    have fin : ∀ (cnt : Nat) (t0 : Int) (s9 : RS), Ok l s s9 → (rowsD f l a cnt ([], [t0], s9)).1.length ≤ l.length + 8 ∧ (rowsD f l a cnt ([], [t0], s9)).2.1.length ≤ l.length + 8 := by
      intro cnt t0 s9 h9
      have h1 := rows_len f l a ha cnt ([], [t0], s9)
      have h2 := (ok_rows f l a ha cnt ([], [t0], s9)).2.1 (h9.2.1 hs)
      simp only [List.length_nil, List.length_cons] at h1
      omega
    refine hi _ _ _ (hi _ _ _ (h0 _ hk (by simp)) ?_) (hi _ _ _ (h0 _ hk (by simp)) ?_)
    · exact fin _ _ _ hp2
    · exact fin _ _ _ hp1
  unfold opsD
  simp only
  refine hi _ _ _ (h0 _ hk hx1) (hi _ _ _ (h0 _ hk hx1) (hi _ _ _ (h0 _ hk hx1) (hi _ _ _ (h0 _ hk hx1) (hi _ _ _ (h0 _ hk hx1) (hi _ _ _ (h0 _ hk hx1) (hi _ _ _ (h0 _ hk hx1) (hi _ _ _ (h0 _ hk (by simp)) (hi _ _ _ (h0 _ hk (by simp)) (hi _ _ _ hc (hi _ _ _ (h0 _ hk hx1) (hi _ _ _ (h0 _ hk hx1) (hi _ _ _ (h0 _ hk hx1) (h0 _ hk hx1)))))))))))))
theorem oneD_len (l : List UInt8) (s : RS) (hs : s.p ≤ l.length) : Bd l (oneD l s).1 := by
  have h1 := (ok_num l 1 s).2.1 hs
  have h2 := (ok_num l 1 (numS l 1 s).2).2.1 h1
  unfold oneD
  simp only
  split
  · split
    · exact ⟨by simp [ins0], by simp [ins0]⟩
    · exact opsD_len _ _ _ l _ hs h2 rfl rfl
  · exact opsD_len _ _ _ l _ hs h1 rfl rfl
theorem allD_len (l : List UInt8) : ∀ (k : Nat) (xs : List In) (s : RS), s.p ≤ l.length → (∀ x ∈ xs, Bd l x) → (∀ x ∈ (allD l k xs s).1, Bd l x) ∧ (allD l k xs s).1.length ≤ xs.length + k := by
  intro k
  induction k with
  | zero => intro xs s _ h; exact ⟨h, Nat.le_refl _⟩
  | succ k ih =>
    intro xs s hs h
    rw [allD]
    split
    · have h1 := (ok_one l s hs).1.2.1 hs
      obtain ⟨h2, h3⟩ := ih (xs ++ [(oneD l s).1]) (oneD l s).2 h1 (by
        intro x hx
        rcases List.mem_append.1 hx with hx | hx
        · exact h x hx
        · rw [List.mem_singleton.1 hx]; exact oneD_len l s hs)
      refine ⟨h2, ?_⟩
      simp only [List.length_append, List.length_cons, List.length_nil] at h3
      omega
    · exact ⟨h, by simp only; omega⟩
theorem decD_len (l : List UInt8) (hl : l.length ≤ 32768) : (decD l).1.length ≤ 32768 ∧ ∀ x ∈ (decD l).1, x.keys.length ≤ 40000 ∧ x.tgts.length ≤ 40000 := by
  unfold decD
  split
  · exact ⟨by simp, by simp⟩
  · unfold endD
    simp only
    split
    · exact ⟨by simp, by simp⟩
    · obtain ⟨h1, h2⟩ := allD_len l l.length [] ⟨0, 0, 0⟩ (Nat.zero_le _) (by simp)
      refine ⟨by simp only [List.length_nil] at h2; simp only; omega, fun x hx => ?_⟩
      have := h1 x hx
      unfold Bd at this
      omega
theorem oneD_fit (l : List UInt8) (s : RS) : (oneD l s).1.at' = (s.p : Int) ∧ (oneD l s).1.op < 256 := by
  have h1 := numS_lt (l := l) (n := 1) (s := s)
  have h2 := numS_lt (l := l) (n := 1) (s := (numS l 1 s).2)
  have hc : ∀ (x : In) (a f : Nat) (t : RS), (choD x a f l t).1.at' = x.at' ∧ (choD x a f l t).1.op = x.op := by
    intro x a f t
    unfold choD
    simp only
    split
    · split <;> exact ⟨rfl, rfl⟩
    · split <;> exact ⟨rfl, rfl⟩
  have ho : ∀ (x : In) (a f : Nat) (t : RS), (opsD x a f l t).1.at' = x.at' ∧ (opsD x a f l t).1.op = x.op := by
    intro x a f t
    have hi : ∀ (c : Prop) [Decidable c] (y z : In × RS), (y.1.at' = x.at' ∧ y.1.op = x.op) → (z.1.at' = x.at' ∧ z.1.op = x.op) → ((if c then y else z).1.at' = x.at' ∧ (if c then y else z).1.op = x.op) := by
      intro c _ y z hy hz
      split <;> assumption
    have r3 : x.at' = x.at' ∧ x.op = x.op := ⟨rfl, rfl⟩
    unfold opsD
    simp only
    exact hi _ _ _ r3 (hi _ _ _ r3 (hi _ _ _ r3 (hi _ _ _ r3 (hi _ _ _ r3 (hi _ _ _ r3 (hi _ _ _ r3 (hi _ _ _ r3 (hi _ _ _ r3 (hi _ _ _ (hc x a f t) (hi _ _ _ r3 (hi _ _ _ r3 (hi _ _ _ r3 r3))))))))))))
  unfold oneD
  simp only
  split
  · split
    · exact ⟨rfl, h2⟩
    · exact ⟨(ho _ _ _ _).1, by rw [(ho _ _ _ _).2]; exact h2⟩
  · exact ⟨(ho _ _ _ _).1, by rw [(ho _ _ _ _).2]; exact h1⟩
theorem allD_fit (l : List UInt8) (hl : l.length ≤ 1073741824) : ∀ (k : Nat) (xs : List In) (s : RS), s.p ≤ l.length → (∀ x ∈ xs, x.Fit) → ∀ x ∈ (allD l k xs s).1, x.Fit := by
  intro k
  induction k with
  | zero => intro xs s _ h; exact h
  | succ k ih =>
    intro xs s hs h
    rw [allD]
    split
    · refine ih _ _ ((ok_one l s hs).1.2.1 hs) (fun x hx => ?_)
      rcases List.mem_append.1 hx with hx | hx
      · exact h x hx
      · rw [List.mem_singleton.1 hx]
        obtain ⟨e1, e2⟩ := oneD_fit l s
        exact ⟨e2, by rw [e1]; omega, by rw [e1]; omega⟩
    · exact h
theorem decD_fit (l : List UInt8) (hl : l.length ≤ 1073741824) : ∀ x ∈ (decD l).1, x.Fit := by
  unfold decD
  split
  · simp
  · unfold endD
    simp only
    split
    · simp
    · exact allD_fit l hl _ _ _ (Nat.zero_le _) (by simp)
end Go.Proofs.Ytjpcpkhegjndeaa
