/- pool.Read is the reference's reading. -/
import Derived.Test.YtohkbpnblkkdgaaRP
namespace Go.Proofs.Ytohkbpnblkkdgaa
open Go.Vc
set_option maxRecDepth 100000
set_option linter.unusedSimpArgs false
set_option linter.unusedVariables false

/-- What the reader's run comes to. -/
def finR (x : List Cst × RS) : RR := if x.2.e ≠ 0 then ([], 0, x.2.e, x.2.es) else (x.1, x.2.p, 0, 0)

/-! #### Numbers of bytes -/
theorem numB_app (a b : List UInt8) : numB (a ++ b) = numB a * 256 ^ b.length + numB b := by
  suffices H : ∀ (k : Nat) (b : List UInt8), b.length = k → numB (a ++ b) = numB a * 256 ^ b.length + numB b from H _ b rfl
  intro k
  induction k with
  | zero => intro b hb; have := List.length_eq_zero_iff.1 hb; subst this; simp [numB]
  | succ k ih =>
    intro b hb
    obtain ⟨c, d, rfl⟩ : ∃ c d, b = c ++ [d] := by
      rcases List.eq_nil_or_concat b with h | ⟨c, d, h⟩
      · subst h; simp at hb
      · exact ⟨c, d, by simpa using h⟩
    have h1 : c.length = k := by simpa using hb
    rw [← List.append_assoc, numB_append, numB_append, ih c h1, List.length_append, List.length_singleton, Nat.pow_succ, Nat.add_mul, Nat.mul_assoc, Nat.add_assoc]
theorem cut_eq (l : List UInt8) (p n : Nat) : (l.take (p + n)).drop p = (l.drop p).take n := by rw [List.drop_take, Nat.add_sub_cancel_left]
theorem cut_two (l : List UInt8) (p a b : Nat) : (l.drop p).take (a + b) = (l.drop p).take a ++ (l.drop (p + a)).take b := by
  rw [List.take_add, List.drop_drop]
theorem numS_ok {l : List UInt8} {n p es : Nat} (h : p + n ≤ l.length) : numS l n ⟨p, 0, es⟩ = (numB ((l.drop p).take n), ⟨p + n, 0, es⟩) := by
  have h1 : ¬ (RS.mk p 0 es).e ≠ 0 := by simp
  have h2 : ¬ l.length < p + n := by omega
  simp only [numS, takeS, if_neg h1, if_neg h2]
theorem numS_end {l : List UInt8} {n p es : Nat} (h : l.length < p + n) : numS l n ⟨p, 0, es⟩ = (0, ⟨p, 1, l.length⟩) := by
  have h1 : ¬ (RS.mk p 0 es).e ≠ 0 := by simp
  simp only [numS, takeS, if_neg h1, if_pos h]; rfl
theorem numS_bad {l : List UInt8} {n p e es : Nat} (h : e ≠ 0) : numS l n ⟨p, e, es⟩ = (0, ⟨p, e, es⟩) := by
  simp only [numS, takeS, ne_eq, h, not_false_eq_true, if_true]; rfl
theorem takeS_ok {l : List UInt8} {n p es : Nat} (h : p + n ≤ l.length) : takeS l n ⟨p, 0, es⟩ = ((l.drop p).take n, ⟨p + n, 0, es⟩) := by
  have h1 : ¬ (RS.mk p 0 es).e ≠ 0 := by simp
  have h2 : ¬ l.length < p + n := by omega
  simp only [takeS, if_neg h1, if_neg h2]
theorem takeS_end {l : List UInt8} {n p es : Nat} (h : l.length < p + n) : takeS l n ⟨p, 0, es⟩ = ([], ⟨p, 1, l.length⟩) := by
  have h1 : ¬ (RS.mk p 0 es).e ≠ 0 := by simp
  simp only [takeS, if_neg h1, if_pos h]
theorem takeS_bad {l : List UInt8} {n p e es : Nat} (h : e ≠ 0) : takeS l n ⟨p, e, es⟩ = ([], ⟨p, e, es⟩) := by
  simp only [takeS, ne_eq, h, not_false_eq_true, if_true]
theorem numB_one {l : List UInt8} {p : Nat} (h : p < l.length) : numB ((l.drop p).take 1) = (l.getD p 0).toNat := by
  rw [List.drop_eq_getElem_cons h, List.take_succ_cons, List.take_zero]; simp [numB, h]

/-- One constant, by the program and by the reference. -/
theorem one_ref {l : List UInt8} {p es : Nat} (hp : p ≤ l.length) :
    match refOne l p with
    | .inl e => e.1 ≠ 0 ∧ (oneR l ⟨p, 0, es⟩).2.e = e.1 ∧ (oneR l ⟨p, 0, es⟩).2.es = e.2
    | .inr (c, p') => oneR l ⟨p, 0, es⟩ = (c, ⟨p', 0, es⟩) ∧ p' ≤ l.length := by
  by_cases h0 : l.length ≤ p
  · have hr : refOne l p = .inl (1, l.length) := if_pos h0
    have hn : oneR l ⟨p, 0, es⟩ = (⟨0, [], 0, 0, 0⟩, ⟨p, 1, l.length⟩) := by
      unfold oneR
      rw [numS_end (by omega)]
      simp [failS]
    rw [hr, hn]
    simp
  have hn1 : numS l 1 ⟨p, 0, es⟩ = ((l.getD p 0).toNat, ⟨p + 1, 0, es⟩) := by rw [numS_ok (by omega), numB_one (by omega)]
  unfold oneR refOne
  simp only [hn1, if_neg h0]
  have ht : (l.getD p 0).toNat < 256 := by have := UInt8.toNat_lt (l.getD p 0); simpa using this
  generalize (l.getD p 0).toNat = t at *
  by_cases t1 : t = 1
  · subst t1
    rw [show sizeS 1 = 2 from rfl]
    simp only [Int.reduceToNat, Int.reduceLT, if_false, if_true, Nat.add_assoc, Nat.reduceAdd]
    rw [show p + 3 = (p + 1) + 2 by omega, cut_eq]
    by_cases h1 : l.length < p + 1 + 2
    · rw [if_pos h1, numS_end h1]
      simp [takeS_bad, numB, unitsS, unitsAt]
    · rw [if_neg h1, numS_ok (by omega)]
      simp only
      generalize numB ((l.drop (p + 1)).take 2) = m
      rw [show p + (3 + m) = (p + 1 + 2) + m by omega, cut_eq]
      by_cases h2 : l.length < p + 1 + 2 + m
      · rw [if_pos h2, takeS_end h2]
        simp [unitsS, unitsAt, failS]
      · rw [if_neg h2, takeS_ok (by omega)]
        simp only
        cases hu : unitsS ((l.drop (p + 1 + 2)).take m) with
        | none => simp [failS]
        | some us => simp; omega
  simp only [if_neg t1]
  by_cases t34 : t = 3 ∨ t = 4
  · have hz : sizeS t = 4 := by rcases t34 with rfl | rfl <;> rfl
    have h36 : t = 3 ∨ t = 4 ∨ t = 5 ∨ t = 6 := by omega
    rw [hz]
    simp only [Int.reduceToNat, Int.reduceLT, if_false, if_pos t34, if_pos h36]
    by_cases h1 : l.length < p + 1 + 4
    · rw [if_pos h1, numS_end h1]
      simp
    · rw [if_neg h1, numS_ok (by omega), cut_eq]
      exact ⟨rfl, by omega⟩
  simp only [if_neg t34]
  by_cases t56 : t = 5 ∨ t = 6
  · have hz : sizeS t = 8 := by rcases t56 with rfl | rfl <;> rfl
    have h36 : t = 3 ∨ t = 4 ∨ t = 5 ∨ t = 6 := by omega
    rw [hz]
    simp only [Int.reduceToNat, Int.reduceLT, if_false, if_pos t56, if_pos h36]
    by_cases h1 : l.length < p + 1 + 8
    · rw [if_pos h1]
      by_cases h3 : l.length < p + 1 + 4
      · rw [numS_end h3, numS_bad (by simp)]
        simp
      · rw [numS_ok (by omega), numS_end (by omega)]
        simp
    · rw [if_neg h1, numS_ok (by omega), numS_ok (by omega), cut_eq, show (8 : Nat) = 4 + 4 from rfl, cut_two, numB_app]
      have : ((l.drop (p + 1 + 4)).take 4).length = 4 := by simp; omega
      rw [this]
      exact ⟨rfl, by omega⟩
  simp only [if_neg t56]
  have h36 : ¬ (t = 3 ∨ t = 4 ∨ t = 5 ∨ t = 6) := by omega
  by_cases t78 : t = 7 ∨ t = 8
  · have hz : sizeS t = 2 := by rcases t78 with rfl | rfl <;> rfl
    rw [hz]
    simp only [Int.reduceToNat, Int.reduceLT, if_false, if_pos t78, if_neg h36]
    by_cases h1 : l.length < p + 1 + 2
    · rw [if_pos h1, numS_end h1]
      simp
    · rw [if_neg h1, numS_ok (by omega), cut_eq]
      exact ⟨rfl, by omega⟩
  simp only [if_neg t78]
  by_cases t9 : t = 9 ∨ t = 10 ∨ t = 11 ∨ t = 12
  · have hz : sizeS t = 4 := by rcases t9 with rfl | rfl | rfl | rfl <;> rfl
    rw [hz]
    simp only [Int.reduceToNat, Int.reduceLT, if_false, if_pos t9, if_neg h36]
    by_cases h1 : l.length < p + 1 + 4
    · rw [if_pos h1]
      by_cases h3 : l.length < p + 1 + 2
      · rw [numS_end h3, numS_bad (by simp)]
        simp
      · rw [numS_ok (by omega), numS_end (by omega)]
        simp
    · rw [if_neg h1, numS_ok (by omega), numS_ok (by omega), cut_eq, show (4 : Nat) = 2 + 2 from rfl, cut_two]
      have : ((l.drop (p + 1)).take 2).length = 2 := by simp; omega
      rw [List.take_left' this, List.drop_left' this]
      exact ⟨rfl, by omega⟩
  · have hz : sizeS t = -1 := by unfold sizeS; rw [if_neg (by omega), if_neg (by omega), if_neg (by omega)]
    rw [hz]
    simp only [Int.reduceNeg, Int.reduceLT, if_true, if_neg t9]
    simp [failS]

theorem loop_ref (l : List UInt8) (n es : Nat) : ∀ (k : Nat) (cs : List Cst) (p : Nat), n ≤ k + cs.length → p ≤ l.length → finR (loopR l n k cs ⟨p, 0, es⟩) = refLoop l n k cs p := by
  intro k
  induction k with
  | zero => intro cs p _ _; rfl
  | succ k ih =>
    intro cs p hk hp
    rw [loopR, refLoop]
    by_cases hlt : cs.length < n
    · rw [if_pos ⟨hlt, rfl⟩, if_pos hlt]
      have h1 := one_ref (es := es) hp
      cases hr : refOne l p with
      | inl e =>
        rw [hr] at h1
        simp only at h1 ⊢
        obtain ⟨h2, h3, h4⟩ := h1
        have hst : ∀ (k : Nat) (cs : List Cst), finR (loopR l n k cs (oneR l ⟨p, 0, es⟩).2) = ([], 0, e.1, e.2) := by
          intro k cs
          rw [loopR_stop (by rw [h3]; exact fun h => h2 h.2), finR, if_pos (by simpa [h3] using h2)]
          simp [h3, h4]
        have hf : failS 12 p (oneR l ⟨p, 0, es⟩).2 = (oneR l ⟨p, 0, es⟩).2 := by rw [failS, if_neg (by rw [h3]; exact h2)]
        split
        · rw [hf, ite_self, hst]
        · exact hst _ _
      | inr c =>
        obtain ⟨c, p'⟩ := c
        rw [hr] at h1
        simp only at h1 ⊢
        rw [h1.1]
        simp only
        by_cases hb : bigTwo c.tag = true
        · rw [if_pos hb, if_pos hb]
          by_cases hn : n < cs.length + 2
          · rw [if_pos hn, if_pos hn]
            have : failS 12 p ⟨p', 0, es⟩ = ⟨p', 12, p⟩ := rfl
            rw [this, loopR_stop (by simp), finR]; simp
          · rw [if_neg hn, if_neg hn]
            exact ih _ _ (by simp; omega) h1.2
        · rw [if_neg hb, if_neg hb]
          exact ih _ _ (by simp; omega) h1.2
    · rw [if_neg (fun h => hlt h.1), if_neg hlt]; rfl
theorem read_ref (l : List UInt8) : finR (poolR l ⟨0, 0, 0⟩) = refRead l := by
  unfold poolR refRead
  by_cases h2 : l.length < 2
  · rw [if_pos h2, numS_end (by omega)]
    simp [failS, loopR_stop, finR]
  · rw [if_neg h2, numS_ok (by omega)]
    simp only [Nat.zero_add, List.drop_zero]
    by_cases hz : numB (l.take 2) = 0
    · rw [if_pos hz, if_pos hz]
      simp [failS, loopR_stop, finR, hz]
    · rw [if_neg hz, if_neg hz]
      exact loop_ref l _ 0 _ _ _ (by simp) (by omega)

end Go.Proofs.Ytohkbpnblkkdgaa
