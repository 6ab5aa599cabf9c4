/- Plain laws: units and texts, there and back. No condition. -/
import Derived.Test.YtnpgmbpialokcaaPa
namespace Go.Vc
/-! ### There and back -/
theorem dec1_enc {l : List UInt8} {i u n : Nat} (hi : i < l.length) (h : dec1 l i = some (u, n)) : enc u = (l.drop i).take n := by
  rw [dec1_ref hi] at h
  split at h
  · rename_i he; rw [Option.some.inj h] at he; exact he
  · cases h
theorem unitsAt_text {l : List UInt8} : ∀ (f i : Nat) (us : List Nat), l.length ≤ f + i → unitsAt l f i = some us → textS us = l.drop i ∧ us.length ≤ l.length - i ∧ ∀ u ∈ us, u < 65536 := by
  intro f
  induction f with
  | zero => intro i us hf h; simp only [unitsAt, Option.some.injEq] at h; subst h; exact ⟨by rw [List.drop_of_length_le (by omega)]; rfl, by simp, by simp⟩
  | succ f ih =>
    intro i us hf h
    simp only [unitsAt] at h
    split at h
    · rename_i hi
      split at h
      · rename_i u n hd
        have h1 := dec1_pos hd
        have h2 := dec1_le hi hd
        cases hr : unitsAt l f (i + n) with
        | none => rw [hr] at h; cases h
        | some r =>
          rw [hr] at h
          simp only [Option.map_some, Option.some.injEq] at h
          subst h
          obtain ⟨k1, k2, k3⟩ := ih (i + n) r (by omega) hr
          refine ⟨?_, by simp; omega, ?_⟩
          · have : textS (u :: r) = enc u ++ textS r := by simp [textS]
            rw [this, k1, dec1_enc hi hd, ← List.drop_drop, List.take_append_drop]
          · intro x hx
            rcases List.mem_cons.1 hx with hx | hx
            · rw [hx]; exact h1.2.2
            · exact k3 x hx
      · cases h
    · rename_i hi
      cases h
      exact ⟨by simp [textS, List.drop_of_length_le (Nat.le_of_not_lt hi)], by simp, by simp⟩
theorem units_text {l : List UInt8} {us : List Nat} (h : unitsS l = some us) : textS us = l ∧ us.length ≤ l.length ∧ ∀ u ∈ us, u < 65536 := by
  have := unitsAt_text l.length 0 us (by omega) h
  simpa using this

theorem dec1_of_enc {l r : List UInt8} {i u : Nat} (hu : u < 65536) (h : l.drop i = enc u ++ r) : dec1 l i = some (u, (enc u).length) := by
  have hl := enc_len u
  have hlen : l.length - i = (enc u).length + r.length := by rw [← List.length_drop, h, List.length_append]
  have hi : i < l.length := by omega
  have hk : ∀ k, l.getD (i + k) 0 = (enc u ++ r).getD k 0 := fun k => by rw [← h, getD_drop]
  have h0 := hk 0
  have h1 := hk 1
  have h2 := hk 2
  rw [Nat.add_zero] at h0
  have ht : enc u = (l.drop i).take (enc u).length := by rw [h, List.take_left]
  rw [dec1_ref hi]
  have hr : refU l i = (u, (enc u).length) := by
    unfold refU
    simp only []
    by_cases c1 : 0 < u ∧ u < 128
    · have e : enc u = [UInt8.ofNat u] := by rw [enc, if_pos c1]
      rw [e] at h0 ⊢
      have : (l.getD i 0).toNat = u := by rw [h0]; simp [UInt8.toNat_ofNat']; omega
      rw [this, if_neg (by omega), if_neg (by omega)]; rfl
    · by_cases c2 : u < 2048
      · have e : enc u = [UInt8.ofNat (192 + u / 64), UInt8.ofNat (128 + u % 64)] := by rw [enc, if_neg c1, if_pos c2]
        rw [e] at h0 h1 hlen ⊢
        have e0 : (l.getD i 0).toNat = 192 + u / 64 := by rw [h0]; simp [UInt8.toNat_ofNat']; omega
        have e1 : (l.getD (i + 1) 0).toNat = 128 + u % 64 := by rw [h1]; simp [UInt8.toNat_ofNat']; omega
        simp only [List.length_cons, List.length_nil] at hlen
        rw [e0, e1, if_neg (by omega), if_pos (by omega)]
        simp only [Prod.mk.injEq]; exact ⟨by omega, rfl⟩
      · have e : enc u = [UInt8.ofNat (224 + u / 4096), UInt8.ofNat (128 + u / 64 % 64), UInt8.ofNat (128 + u % 64)] := by rw [enc, if_neg c1, if_neg c2]
        rw [e] at h0 h1 h2 hlen ⊢
        have e0 : (l.getD i 0).toNat = 224 + u / 4096 := by rw [h0]; simp [UInt8.toNat_ofNat']; omega
        have e1 : (l.getD (i + 1) 0).toNat = 128 + u / 64 % 64 := by rw [h1]; simp [UInt8.toNat_ofNat']; omega
        have e2 : (l.getD (i + 2) 0).toNat = 128 + u % 64 := by rw [h2]; simp [UInt8.toNat_ofNat']; omega
        simp only [List.length_cons, List.length_nil] at hlen
        rw [e0, e1, e2, if_pos (by omega)]
        simp only [Prod.mk.injEq]; exact ⟨by omega, rfl⟩
  rw [hr, if_pos ht]
theorem unitsAt_enc {l : List UInt8} : ∀ (us : List Nat) (f i : Nat), (∀ u ∈ us, u < 65536) → l.drop i = textS us → l.length ≤ f + i → unitsAt l f i = some us := by
  intro us
  induction us with
  | nil =>
    intro f i _ h hf
    have : l.length ≤ i := by have := congrArg List.length h; simp [textS] at this; omega
    cases f with
    | zero => rfl
    | succ f => rw [unitsAt, if_neg (by omega)]
  | cons u us ih =>
    intro f i hu h hf
    have hc : textS (u :: us) = enc u ++ textS us := by simp [textS]
    rw [hc] at h
    have hl := enc_len u
    have hi : i < l.length := by have := congrArg List.length h; simp at this; omega
    have hd := dec1_of_enc (hu u List.mem_cons_self) h
    cases f with
    | zero => omega
    | succ f =>
      rw [unitsAt, if_pos hi, hd]
      simp only []
      rw [ih f (i + (enc u).length) (fun x hx => hu x (List.mem_cons_of_mem _ hx)) ?_ (by omega)]
      · rfl
      · rw [← List.drop_drop, h, List.drop_left]
theorem units_of_text {us : List Nat} (hu : ∀ u ∈ us, u < 65536) : unitsS (textS us) = some us :=
  unitsAt_enc us _ 0 hu (by simp) (by omega)
end Go.Vc
