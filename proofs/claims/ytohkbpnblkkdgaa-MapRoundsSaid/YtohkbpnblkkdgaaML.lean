/- How long read frames are. -/
import Derived.Test.YtohkbpnblkkdgaaMP
namespace Go.Proofs.Ytohkbpnblkkdgaa
open Go.Vc
set_option maxRecDepth 100000
set_option linter.unusedSimpArgs false
set_option linter.unusedVariables false

theorem mapD_len (p : List Cst) (l : List UInt8) : ∀ (n : Nat) (pl : Int) (loc : List VT) (fs : List Frm) (s : RS) (B : Nat), loc.length ≤ B → 65535 ≤ B → (∀ f ∈ fs, f.L.length ≤ B ∧ f.S.length ≤ 65535) →
    (∀ f ∈ (mapD p l n pl loc fs s).1, f.L.length ≤ B + 3 * n ∧ f.S.length ≤ 65535) ∧ (mapD p l n pl loc fs s).1.length ≤ fs.length + n := by
  intro n
  induction n with
  | zero => intro pl loc fs s B _ _ h; exact ⟨fun f hf => by have := h f hf; exact ⟨by omega, this.2⟩, Nat.le_refl _⟩
  | succ n ih =>
    intro pl loc fs s B h1 h2 h
    rw [mapD]
    split
    · exact ⟨fun f hf => by have := h f hf; exact ⟨by omega, this.2⟩, by simp only; omega⟩
    · obtain ⟨q1, q2, _⟩ := frmD_len p l loc s
      obtain ⟨g1, g2⟩ := ih (pl + ((frmD p l loc s).2.1 + 1 : Nat)) (frmD p l loc s).1.L (fs ++ [⟨pl + ((frmD p l loc s).2.1 + 1 : Nat), (frmD p l loc s).1.L, (frmD p l loc s).1.S⟩]) (frmD p l loc s).2.2 (B + 3) (by omega) (by omega) (by
        intro f hf
        rcases List.mem_append.1 hf with hf | hf
        · have := h f hf; exact ⟨by omega, this.2⟩
        · rw [List.mem_singleton.1 hf]; exact ⟨by simp only; omega, q2⟩)
      refine ⟨fun f hf => ?_, ?_⟩
      · have := g1 f hf; exact ⟨by omega, this.2⟩
      · simp only [List.length_append, List.length_singleton] at g2; omega
theorem mapA_len (p : List Cst) (l : List UInt8) (first : List VT) (h : first.length ≤ 65535) : (mapA p l first).1.length ≤ 65535 ∧ ∀ f ∈ (mapA p l first).1, f.L.length ≤ 262140 ∧ f.S.length ≤ 65535 := by
  have hn := numS_lt (l := l) (n := 2) (s := ⟨0, 0, 0⟩)
  simp only [Nat.reducePow] at hn
  obtain ⟨h1, h2⟩ := mapD_len p l (numS l 2 ⟨0, 0, 0⟩).1 (-1) first [] (numS l 2 ⟨0, 0, 0⟩).2 65535 h (Nat.le_refl _) (by simp)
  have key : ∀ r : List Frm × RS, (mapE l r).1 = [] ∨ (mapE l r).1 = r.1 := by
    intro r
    unfold mapE
    simp only
    generalize (if r.2.p < l.length then failS 2 r.2.p r.2 else r.2) = s
    split
    · exact .inl rfl
    · exact .inr rfl
  unfold mapA
  rcases key (mapD p l (numS l 2 ⟨0, 0, 0⟩).1 (-1) first [] (numS l 2 ⟨0, 0, 0⟩).2) with hk | hk
  · rw [hk]; exact ⟨by simp, by simp⟩
  · rw [hk]
    refine ⟨by simp only [List.length_nil] at h2; omega, fun f hf => ?_⟩
    have := h1 f hf
    exact ⟨by omega, this.2⟩
end Go.Proofs.Ytohkbpnblkkdgaa
