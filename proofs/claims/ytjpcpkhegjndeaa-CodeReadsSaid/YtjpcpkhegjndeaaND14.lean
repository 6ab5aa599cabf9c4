/- The law of read instructions, on heaps. -/
import Derived.Test.YtjpcpkhegjndeaaND13
import Derived.Test.YtjpcpkhegjndeaaNB
namespace Go.Proofs.Ytjpcpkhegjndeaa
open Go.Vc
set_option maxRecDepth 100000
set_option linter.unusedSimpArgs false
set_option linter.unusedVariables false

theorem key_len (f : Nat) (l : List UInt8) (a : Nat) (ks : List Int) (s : RS) : (keyD f l a ks s).1.length ≤ ks.length + 1 := by
  unfold keyD
  split <;> simp
theorem key_p (f : Nat) (l : List UInt8) (a : Nat) (ha : a ≤ l.length) (ks : List Int) (s : RS) : s.p ≤ (keyD f l a ks s).2.p := (ok_key f l a ha ks s).1
theorem rows_len (f : Nat) (l : List UInt8) (a : Nat) (ha : a ≤ l.length) : ∀ (r : Nat) (c : KT), 4 * (rowsD f l a r c).1.length + c.2.2.p ≤ 4 * c.1.length + (rowsD f l a r c).2.2.p + 4 ∧ 4 * (rowsD f l a r c).2.1.length + c.2.2.p ≤ 4 * c.2.1.length + (rowsD f l a r c).2.2.p + 4 := by
  intro r
  induction r with
  | zero => intro c; exact ⟨by simp only [rowsD]; omega, by simp only [rowsD]; omega⟩
  | succ r ih =>
    intro c
    rw [rowsD]
    split
    · exact ⟨by omega, by omega⟩
    · have h1 := key_len f l a c.1 c.2.2
      have h2 := key_p f l a ha c.1 c.2.2
      have hk := keyD f l a c.1 c.2.2
      generalize keyD f l a c.1 c.2.2 = K at *
      obtain ⟨ks, s1⟩ := K
      simp only at h1 h2 ⊢
      have h3 := ih (ks, c.2.1 ++ [(a : Int) + (sgnD l 4 s1).1], (sgnD l 4 s1).2)
      have h4 := sgn4_p (l := l) (s := s1)
      have h5 := (ok_sgn l 4 s1).1
      by_cases he : (sgnD l 4 s1).2.e = 0
      · have := (h4 he).2
        simp only [List.length_append, List.length_cons, List.length_nil] at h3
        omega
      · rw [rowsD_bad (by simpa using he)]
        simp only [List.length_append, List.length_cons, List.length_nil]
        omega
def Bd (l : List UInt8) (x : In) : Prop := x.keys.length ≤ l.length + 8 ∧ x.tgts.length ≤ l.length + 8
theorem opsD_len (x : In) (a f : Nat) (l : List UInt8) (s : RS) (ha : a ≤ l.length) (hs : s.p ≤ l.length) (hk : x.keys = []) (ht : x.tgts = []) : Bd l (opsD x a f l s).1 := by
  have hi : ∀ (c : Prop) [Decidable c] (y z : In × RS), Bd l y.1 → Bd l z.1 → Bd l (if c then y else z).1 := by
    intro c _ y z hy hz
    split <;> assumption
  have h0 : ∀ y : In, y.keys = [] → y.tgts.length ≤ 1 → Bd l y := fun y h1 h2 => ⟨by rw [h1]; simp, by omega⟩
  have hx1 : x.tgts.length ≤ 1 := by rw [ht]; simp
  have hc : Bd l (choD x a f l s).1 := by
    unfold choD
    simp only
    have hp0 := (ok_pad l a ha 4 s).trans (ok_sgn l 4 _)
    have hp1 := hp0.trans (ok_sgn l 4 _)
    have hp2 := hp1.trans (ok_sgn l 4 _)
    have fin : ∀ (cnt : Nat) (t0 : Int) (s9 : RS), Ok l s s9 → (rowsD f l a cnt ([], [t0], s9)).1.length ≤ l.length + 8 ∧ (rowsD f l a cnt ([], [t0], s9)).2.1.length ≤ l.length + 8 := by
      intro cnt t0 s9 h9
      have h1 := rows_len f l a ha cnt ([], [t0], s9)
      have h2 := (ok_rows f l a ha cnt ([], [t0], s9)).2.1 (h9.2.1 hs)
      simp only [List.length_nil, List.length_cons] at h1
      omega
    refine hi _ _ _ (hi _ _ _ (h0 _ hk (by simp)) ?_) (hi _ _ _ (h0 _ hk (by simp)) ?_)
    · exact fin _ _ _ hp2
    · exact fin _ _ _ hp1
  unfold opsD
  simp only
  refine hi _ _ _ (h0 _ hk hx1) (hi _ _ _ (h0 _ hk hx1) (hi _ _ _ (h0 _ hk hx1) (hi _ _ _ (h0 _ hk hx1) (hi _ _ _ (h0 _ hk hx1) (hi _ _ _ (h0 _ hk hx1) (hi _ _ _ (h0 _ hk hx1) (hi _ _ _ (h0 _ hk (by simp)) (hi _ _ _ (h0 _ hk (by simp)) (hi _ _ _ hc (hi _ _ _ (h0 _ hk hx1) (hi _ _ _ (h0 _ hk hx1) (hi _ _ _ (h0 _ hk hx1) (h0 _ hk hx1)))))))))))))
theorem oneD_len (l : List UInt8) (s : RS) (hs : s.p ≤ l.length) : Bd l (oneD l s).1 := by
  have h1 := (ok_num l 1 s).2.1 hs
  have h2 := (ok_num l 1 (numS l 1 s).2).2.1 h1
  unfold oneD
  simp only
  split
  · split
    · exact ⟨by simp [ins0], by simp [ins0]⟩
    · exact opsD_len _ _ _ l _ hs h2 rfl rfl
  · exact opsD_len _ _ _ l _ hs h1 rfl rfl
theorem allD_len (l : List UInt8) : ∀ (k : Nat) (xs : List In) (s : RS), s.p ≤ l.length → (∀ x ∈ xs, Bd l x) → (∀ x ∈ (allD l k xs s).1, Bd l x) ∧ (allD l k xs s).1.length ≤ xs.length + k := by
  intro k
  induction k with
  | zero => intro xs s _ h; exact ⟨h, Nat.le_refl _⟩
  | succ k ih =>
    intro xs s hs h
    rw [allD]
    split
    · have h1 := (ok_one l s hs).1.2.1 hs
      obtain ⟨h2, h3⟩ := ih (xs ++ [(oneD l s).1]) (oneD l s).2 h1 (by
        intro x hx
        rcases List.mem_append.1 hx with hx | hx
        · exact h x hx
        · rw [List.mem_singleton.1 hx]; exact oneD_len l s hs)
      refine ⟨h2, ?_⟩
      simp only [List.length_append, List.length_cons, List.length_nil] at h3
      omega
    · exact ⟨h, by simp only; omega⟩
theorem decD_len (l : List UInt8) (hl : l.length ≤ 32768) : (decD l).1.length ≤ 32768 ∧ ∀ x ∈ (decD l).1, x.keys.length ≤ 40000 ∧ x.tgts.length ≤ 40000 := by
  unfold decD
  split
  · exact ⟨by simp, by simp⟩
  · unfold endD
    simp only
    split
    · exact ⟨by simp, by simp⟩
    · obtain ⟨h1, h2⟩ := allD_len l l.length [] ⟨0, 0, 0⟩ (Nat.zero_le _) (by simp)
      refine ⟨by simp only [List.length_nil] at h2; simp only; omega, fun x hx => ?_⟩
      have := h1 x hx
      unfold Bd at this
      omega

set_option maxHeartbeats 2000000 in
theorem codeReads_any (l : List UInt8) (h : Heap) (hl : l.length ≤ 9223372036854775807) :
    HCalls Try.prog 4 #[str l] h fun r h' => Ext h h' ∧ r = .bool true := by
  refine C.law2_CodeReads_calls (args := [str l]) rfl ?_
  by_cases hbig : 32768 < l.length
  · have hbig' : (32768 : Int) < l.length := by omega
    simp (disch := first | omega | assumption) only [C.law2_CodeReads_gos, vs, Go.Vc.vk, T.ts, ↓reduceIte, Nat.reduceEqDiff, reduceCtorEq, Nat.reduceLeDiff, Nat.reducePow, Int.reducePow, Int.reduceToNat, Nat.reduceAdd, hbig']
    exact Ext.refl _
  have hbig' : ¬ (32768 : Int) < l.length := by omega
  obtain ⟨hn, hL⟩ := decD_len l (by omega)
  simp (disch := first | omega | assumption) only [C.law2_CodeReads_gos, vs, Go.Vc.vk, T.ts, ↓reduceIte, Nat.reduceEqDiff, reduceCtorEq, Nat.reduceLeDiff, Nat.reducePow, Int.reducePow, Int.reduceToNat, Nat.reduceAdd, hbig']
  refine eff_call_of ?_
  simp (disch := first | omega | assumption) only [C.law2_CodeReads_gos, vs, Go.Vc.vk, T.ts, ↓reduceIte, Nat.reduceEqDiff, reduceCtorEq, Nat.reduceLeDiff, Nat.reducePow, Int.reducePow, Int.reduceToNat, Nat.reduceAdd]
  refine (decode_any l h (by omega)).mono ?_
  intro v1 h1 hp1
  have x1 := hp1.1
  obtain ⟨sv, hv1, F1⟩ := hp1.2
  clear hp1
  simp (disch := first | omega | assumption) only [C.law2_CodeReads_gos, vs, Go.Vc.vk, T.ts, ↓reduceIte, Nat.reduceEqDiff, reduceCtorEq, Nat.reduceLeDiff, Nat.reducePow, Int.reducePow, Int.reduceToNat, Nat.reduceAdd, hv1]
  refine eff_call_of ?_
  simp (disch := first | omega | assumption) only [C.law2_CodeReads_gos, vs, Go.Vc.vk, T.ts, ↓reduceIte, Nat.reduceEqDiff, reduceCtorEq, Nat.reduceLeDiff, Nat.reducePow, Int.reducePow, Int.reduceToNat, Nat.reduceAdd]
  refine (rdecode_any l h1 (by omega)).mono ?_
  intro v2 h2 hp2
  have x2 := hp2.1
  obtain ⟨sv2, hv2, F2⟩ := hp2.2
  clear hp2
  have F1' := F1.ext x2
  generalize decD l = D at *
  obtain ⟨xs, e, at'⟩ := D
  simp only at hv1 hv2 F1 F2 F1' hn hL
  simp (disch := first | omega | assumption) only [C.law2_CodeReads_gos, vs, Go.Vc.vk, T.ts, ↓reduceIte, Nat.reduceEqDiff, reduceCtorEq, Nat.reduceLeDiff, Nat.reducePow, Int.reducePow, Int.reduceToNat, Nat.reduceAdd, hv2]
  refine eff_call_of ?_
  simp (disch := first | omega | assumption) only [C.law2_CodeReads_gos, vs, Go.Vc.vk, T.ts, ↓reduceIte, Nat.reduceEqDiff, reduceCtorEq, Nat.reduceLeDiff, Nat.reducePow, Int.reducePow, Int.reduceToNat, Nat.reduceAdd]
  refine (same_any xs sv sv2 h2 F1'.insC F2.insC (by omega) (fun x hx => by have := hL x hx; omega)).mono ?_
  intro v3 h3 hp3
  have x3 := hp3.1
  have hv3 := hp3.2
  clear hp3
  simp (disch := first | omega | assumption) only [C.law2_CodeReads_gos, vs, Go.Vc.vk, T.ts, ↓reduceIte, Nat.reduceEqDiff, reduceCtorEq, Nat.reduceLeDiff, Nat.reducePow, Int.reducePow, Int.reduceToNat, Nat.reduceAdd, hv3]
  refine eff_call_of ?_
  simp (disch := first | omega | assumption) only [C.law2_CodeReads_gos, vs, Go.Vc.vk, T.ts, ↓reduceIte, Nat.reduceEqDiff, reduceCtorEq, Nat.reduceLeDiff, Nat.reducePow, Int.reducePow, Int.reduceToNat, Nat.reduceAdd]
  obtain ⟨rows, W1, W2, W3, W4⟩ := F1'.ext x3
  have X3 := (x1.trans x2).trans x3
  refine (apart_any (rows := rows) xs (by omega) ⟨W1, W2, W3, W4⟩ (fun x hx => by have := hL x hx; omega) X3.size).mono ?_
  intro v4 h4 hp4
  have hv4 := hp4.2
  have X4 : Ext h h4 := Fr.trans X3 hp4.1 (fun _ _ h => h) (fun k hk hs => by omega)
  clear hp4
  simp (disch := first | omega | assumption) only [C.law2_CodeReads_gos, vs, Go.Vc.vk, T.ts, ↓reduceIte, Nat.reduceEqDiff, reduceCtorEq, Nat.reduceLeDiff, Nat.reducePow, Int.reducePow, Int.reduceToNat, Nat.reduceAdd, hv4]
  exact X4
end Go.Proofs.Ytjpcpkhegjndeaa
