/- How far a pool's reading goes (plain); the magic number. -/
import Derived.Test.YtohkbpnblkkdgaaLV
namespace Go.Proofs.Ytohkbpnblkkdgaa
open Go.Vc
set_option maxRecDepth 100000
set_option linter.unusedSimpArgs false
set_option linter.unusedVariables false

structure RSok (l : List UInt8) (s : RS) : Prop where
  p : s.p ≤ l.length
  es : s.es ≤ l.length
section
variable {l : List UInt8} {s : RS}
theorem RSok.take {n : Nat} (H : RSok l s) : RSok l (takeS l n s).2 := by
  unfold takeS
  split
  · exact H
  · split
    · exact ⟨H.p, Nat.le_refl _⟩
    · exact ⟨by simp only; omega, H.es⟩
theorem RSok.num {n : Nat} (H : RSok l s) : RSok l (numS l n s).2 := H.take
theorem RSok.fail {e q : Nat} (H : RSok l s) (hq : q ≤ l.length) : RSok l (failS e q s) := by
  unfold failS; split
  · exact ⟨H.p, hq⟩
  · exact H
theorem RSok.ite {c : Prop} [Decidable c] {a b : RS} (h1 : RSok l a) (h2 : RSok l b) : RSok l (if c then a else b) := by split <;> assumption
theorem RSok.one (H : RSok l s) : RSok l (oneR l s).2 := by
  have h1 : RSok l (numS l 1 s).2 := H.num
  have hp := H.p
  unfold oneR
  dsimp only
  generalize numS l 1 s = a at *
  split
  · exact RSok.ite (h1.num.take.fail hp) h1.num.take
  · split
    · exact h1.num
    · split
      · exact h1.num.num
      · split
        · exact h1.num
        · split
          · exact h1.num.num
          · exact h1.fail hp
theorem RSok.loop {n : Nat} : ∀ (k : Nat) (cs : List Cst) (s : RS), RSok l s → RSok l (loopR l n k cs s).2 := by
  intro k
  induction k with
  | zero => intro cs s H; exact H
  | succ k ih =>
    intro cs s H
    rw [loopR]
    split
    · split
      · exact ih _ _ (RSok.ite (H.one.fail H.p) H.one)
      · exact ih _ _ H.one
    · exact H
theorem RSok.pool (H : RSok l s) : RSok l (poolR l s).2 := RSok.loop _ _ _ (RSok.ite (H.num.fail H.p) H.num)
theorem refRead_ok (l : List UInt8) : (refRead l).2.1 ≤ l.length ∧ (refRead l).2.2.2 ≤ l.length := by
  have H : RSok l (poolR l ⟨0, 0, 0⟩).2 := RSok.pool ⟨Nat.zero_le _, Nat.zero_le _⟩
  rw [← read_ref]
  unfold finR
  split
  · exact ⟨Nat.zero_le _, H.es⟩
  · exact ⟨H.p, Nat.zero_le _⟩
theorem refRead_p (l : List UInt8) (h : (refRead l).2.2.1 ≠ 0) : (refRead l).2.1 = 0 := by
  rw [← read_ref] at h ⊢
  unfold finR at h ⊢
  by_cases he : (poolR l ⟨0, 0, 0⟩).2.e = 0
  · simp [he] at h
  · simp [he]
theorem magic_iff : (takeS l 4 s).1 = [202, 254, 186, 190] ↔ (numS l 4 s).1 = 3405691582 := by
  have hlen := @takeS_len l 4 s
  have hn : (numS l 4 s).1 = numB (takeS l 4 s).1 := rfl
  rw [hn]
  generalize (takeS l 4 s).1 = b at *
  constructor
  · intro h; subst h; decide
  · intro h
    by_cases h4 : b.length = 4
    · match b, h4 with
      | [a0, a1, a2, a3], _ =>
        have t0 := UInt8.toNat_lt a0
        have t1 := UInt8.toNat_lt a1
        have t2 := UInt8.toNat_lt a2
        have t3 := UInt8.toNat_lt a3
        simp only [Nat.reducePow] at t0 t1 t2 t3
        have hv : numB [a0, a1, a2, a3] = ((a0.toNat * 256 + a1.toNat) * 256 + a2.toNat) * 256 + a3.toNat := by simp [numB]
        rw [hv] at h
        have e0 : a0 = 202 := UInt8.toNat.inj (by show a0.toNat = 202; omega)
        have e1 : a1 = 254 := UInt8.toNat.inj (by show a1.toNat = 254; omega)
        have e2 : a2 = 186 := UInt8.toNat.inj (by show a2.toNat = 186; omega)
        have e3 : a3 = 190 := UInt8.toNat.inj (by show a3.toNat = 190; omega)
        rw [e0, e1, e2, e3]
    · have h5 := numB_lt b
      have : 256 ^ b.length ≤ 256 ^ 3 := Nat.pow_le_pow_right (by decide) (by omega)
      omega
end
end Go.Proofs.Ytohkbpnblkkdgaa
