/- What is read is written as it was: instructions (plain). -/
import Derived.Test.YtjpcpkhegjndeaaNQ1
namespace Go.Proofs.Ytjpcpkhegjndeaa
open Go.Vc
set_option maxRecDepth 100000
set_option linter.unusedSimpArgs false
set_option linter.unusedVariables false

theorem cho_back (x : In) (a f : Nat) (hf : f = 10 ∨ f = 11) (l : List UInt8) (s : RS) (hx : x.at' = (a : Int)) (hp : s.p ≤ l.length) (h : (choD x a f l s).2.e = 0) :
    s.e = 0 ∧ choE (choD x a f l s).1 f (l.take s.p, true) = (l.take (choD x a f l s).2.p, true) := by
  rcases hf with rfl | rfl
  · unfold choD at h ⊢
    simp only [↓reduceIte] at h ⊢
    by_cases hlt : (sgnD l 4 (sgnD l 4 (sgnD l 4 (padD l a 4 s)).2).2).1 < (sgnD l 4 (sgnD l 4 (padD l a 4 s)).2).1
    · rw [if_pos hlt] at h
      exact absurd h (fail_ne (by decide))
    rw [if_neg hlt] at h ⊢
    obtain ⟨K, T, h1, _, h3, h4, h5, h6⟩ := rows_back (Or.inl rfl) _ _ _ _ h
    clear h
    have e5 := sgn_ok h5
    have e4 := sgn_ok e5.1
    have e3 := sgn_ok e4.1
    have eP := padS_num hp e3.1
    refine ⟨(pad_ok 4 s e3.1).1, ?_⟩
    have hr1 := sgn_rng (l := l) (n := 4) (s := (sgnD l 4 (padD l a 4 s)).2) (by omega)
    have hr2 := sgn_rng (l := l) (n := 4) (s := (sgnD l 4 (sgnD l 4 (padD l a 4 s)).2).2) (by omega)
    have a1 := tgt_num (a := a) (Or.inr (Or.inr rfl)) e4.1
    have a2 := sgn_num (Or.inr (Or.inr rfl)) e5.1
    have a3 := sgn_num (Or.inr (Or.inr rfl)) h5
    simp only [h3, h4, List.nil_append, List.singleton_append]
    unfold choE
    rw [if_neg (by simp only [List.length_cons, h1]; omega)]
    simp only [List.length_cons, h1, List.getD_cons_zero, List.drop_succ_cons, List.drop_zero, Nat.add_sub_cancel, ↓reduceIte, hx]
    rw [eP, a1, a2]
    generalize sgnD l 4 (sgnD l 4 (padD l a 4 s)).2 = N at *
    generalize sgnD l 4 N.2 = HI at *
    simp only [Nat.reduceSub, Nat.reducePow, Nat.reduceMul] at hr1 hr2
    have ew : wr (wr (N.1 + ((HI.1 - N.1 + 1).toNat : Nat)) - 1) = HI.1 := by
      have e1 : wr (N.1 + ((HI.1 - N.1 + 1).toNat : Nat)) = N.1 + ((HI.1 - N.1 + 1).toNat : Nat) := wr_id (by omega) (by omega)
      rw [e1, wr_id (by omega) (by omega)]
      omega
    rw [ew, a3]
    exact h6 0 (fun hh => absurd hh (by decide))
  · unfold choD at h ⊢
    simp only [Nat.reduceEqDiff, if_false] at h ⊢
    by_cases hlt : (sgnD l 4 (sgnD l 4 (padD l a 4 s)).2).1 < 0
    · rw [if_pos hlt] at h
      exact absurd h (fail_ne (by decide))
    rw [if_neg hlt] at h ⊢
    obtain ⟨K, T, h1, h2, h3, h4, h5, h6⟩ := rows_back (Or.inr rfl) _ _ _ _ h
    clear h
    have e4 := sgn_ok h5
    have e3 := sgn_ok e4.1
    have eP := padS_num hp e3.1
    refine ⟨(pad_ok 4 s e3.1).1, ?_⟩
    have a1 := tgt_num (a := a) (Or.inr (Or.inr rfl)) e4.1
    have a2 := sgn_num (Or.inr (Or.inr rfl)) h5
    simp only [h3, h4, List.nil_append, List.singleton_append]
    unfold choE
    rw [if_neg (by simp only [List.length_cons, h1, h2 rfl]; omega)]
    simp only [List.length_cons, h1, List.getD_cons_zero, List.drop_succ_cons, List.drop_zero, Nat.add_sub_cancel, Nat.reduceEqDiff, if_false, hx]
    rw [eP, a1]
    generalize sgnD l 4 (sgnD l 4 (padD l a 4 s)).2 = N at *
    have ew : ((N.1.toNat : Nat) : Int) = N.1 := by omega
    rw [ew, a2]
    exact h6 0 (fun _ => rfl)

theorem hdr_of {x y : In} (h1 : y.op = x.op) (h2 : y.wide = x.wide) (s : ES) : headE y s = headE x s := by unfold headE; rw [h1, h2]
theorem size_of {x y : In} (h2 : y.wide = x.wide) : sizeE y = sizeE x := by unfold sizeE; rw [h2]
theorem cho_same (x : In) (a f : Nat) (l : List UInt8) (s : RS) : (choD x a f l s).1.at' = x.at' ∧ (choD x a f l s).1.op = x.op ∧ (choD x a f l s).1.wide = x.wide := by
  unfold choD
  simp only
  split
  · split <;> exact ⟨rfl, rfl, rfl⟩
  · split <;> exact ⟨rfl, rfl, rfl⟩
theorem ops_same (x : In) (a f : Nat) (l : List UInt8) (s : RS) : (opsD x a f l s).1.at' = x.at' ∧ (opsD x a f l s).1.op = x.op ∧ (opsD x a f l s).1.wide = x.wide := by
  have hi : ∀ (c : Prop) [Decidable c] (y z : In × RS), (y.1.at' = x.at' ∧ y.1.op = x.op ∧ y.1.wide = x.wide) → (z.1.at' = x.at' ∧ z.1.op = x.op ∧ z.1.wide = x.wide) → ((if c then y else z).1.at' = x.at' ∧ (if c then y else z).1.op = x.op ∧ (if c then y else z).1.wide = x.wide) := by
    intro c _ y z hy hz
    split <;> assumption
  have r3 : x.at' = x.at' ∧ x.op = x.op ∧ x.wide = x.wide := ⟨rfl, rfl, rfl⟩
  unfold opsD
  simp only
  refine hi _ _ _ r3 (hi _ _ _ r3 (hi _ _ _ r3 (hi _ _ _ r3 (hi _ _ _ r3 (hi _ _ _ r3 (hi _ _ _ r3 (hi _ _ _ r3 (hi _ _ _ r3 (hi _ _ _ (cho_same ..) (hi _ _ _ r3 (hi _ _ _ r3 (hi _ _ _ r3 r3))))))))))))
set_option maxHeartbeats 2000000 in
theorem ops_back (x : In) (a f : Nat) (hf : f = 0 ∨ f = 1 ∨ f = 2 ∨ f = 3 ∨ f = 4 ∨ f = 5 ∨ f = 6 ∨ f = 7 ∨ f = 8 ∨ f = 9 ∨ f = 10 ∨ f = 11 ∨ f = 12 ∨ f = 13 ∨ f = 14) (l : List UInt8) (s : RS) (hx : x.at' = (a : Int)) (ht : x.tgts = []) (hp : s.p ≤ l.length)
    (hh : headE x (l.take a, true) = (l.take s.p, true)) (h : (opsD x a f l s).2.e = 0) :
    f ≠ 1 ∧ s.e = 0 ∧ oneE (opsD x a f l s).1 f (l.take a, true) = (l.take (opsD x a f l s).2.p, true) := by
  have P : ∀ A B : Int, tgtS (headE { x with A := A, B := B } (l.take a, true)) { x with A := A, B := B } 0 = (l.take s.p, true) := by
    intro A B
    rw [hdr_of (y := { x with A := A, B := B }) (x := x) rfl rfl, hh]
    unfold tgtS
    simp only [ht]
    rfl
  have J : ∀ (y : In) (n : Nat), (n = 1 ∨ n = 2 ∨ n = 4) → y.op = x.op → y.wide = x.wide → y.at' = (a : Int) → y.tgts = [(a : Int) + (sgnD l n s).1] → (sgnD l n s).2.e = 0 → jmpE y (headE y (l.take a, true)) n = (l.take (sgnD l n s).2.p, true) := by
    intro y n hn h1 h2 h3 h4 h5
    have e1 : tgtS (headE y (l.take a, true)) y 1 = (l.take s.p, true) := by
      rw [hdr_of h1 h2, hh]
      unfold tgtS
      rw [h4]; rfl
    unfold jmpE
    rw [e1, if_pos rfl, h4, h3]
    exact tgt_num hn h5
  have hsz : (if x.wide = true then 2 else 1) = sizeE x := rfl
  have hs2 : sizeE x = 1 ∨ sizeE x = 2 := by unfold sizeE; split <;> omega
  have hs3 : sizeE x = 1 ∨ sizeE x = 2 ∨ sizeE x = 4 := by omega
  rcases hf with rfl | rfl | rfl | rfl | rfl | rfl | rfl | rfl | rfl | rfl | rfl | rfl | rfl | rfl | rfl
  · exact ⟨by decide, h, P x.A x.B⟩
  · exact absurd h (fail_ne (by decide))
  · refine ⟨by decide, (sgn_ok h).1, ?_⟩
    show sgnS (tgtS (headE { x with A := (sgnD l 1 s).1 } (l.take a, true)) { x with A := (sgnD l 1 s).1 } 0) (sgnD l 1 s).1 1 = (l.take (sgnD l 1 s).2.p, true)
    rw [P]
    exact sgn_num (by omega) h
  · refine ⟨by decide, (sgn_ok h).1, ?_⟩
    show sgnS (tgtS (headE { x with A := (sgnD l 2 s).1 } (l.take a, true)) { x with A := (sgnD l 2 s).1 } 0) (sgnD l 2 s).1 2 = (l.take (sgnD l 2 s).2.p, true)
    rw [P]
    exact sgn_num (by omega) h
  · refine ⟨by decide, (num_ok h).1, ?_⟩
    show unsS (tgtS (headE { x with A := (numS l 1 s).1 } (l.take a, true)) { x with A := (numS l 1 s).1 } 0) (numS l 1 s).1 1 = (l.take (numS l 1 s).2.p, true)
    rw [P]
    exact uns_num (by omega) h
  · refine ⟨by decide, (num_ok h).1, ?_⟩
    show unsS (tgtS (headE { x with A := (numS l 2 s).1 } (l.take a, true)) { x with A := (numS l 2 s).1 } 0) (numS l 2 s).1 2 = (l.take (numS l 2 s).2.p, true)
    rw [P]
    exact uns_num (by omega) h
  · have h : (numS l (sizeE x) s).2.e = 0 := h
    refine ⟨by decide, (num_ok h).1, ?_⟩
    show unsS (tgtS (headE { x with A := (numS l (sizeE x) s).1 } (l.take a, true)) { x with A := (numS l (sizeE x) s).1 } 0) (numS l (sizeE x) s).1 (sizeE x) = (l.take (numS l (sizeE x) s).2.p, true)
    rw [P]
    exact uns_num hs2 h
  · have h : (sgnD l (sizeE x) (numS l (sizeE x) s).2).2.e = 0 := h
    have h1 := (sgn_ok h).1
    refine ⟨by decide, (num_ok h1).1, ?_⟩
    show sgnS (unsS (tgtS (headE { x with A := (numS l (sizeE x) s).1, B := (sgnD l (sizeE x) (numS l (sizeE x) s).2).1 } (l.take a, true)) { x with A := (numS l (sizeE x) s).1, B := (sgnD l (sizeE x) (numS l (sizeE x) s).2).1 } 0) (numS l (sizeE x) s).1 (sizeE x)) (sgnD l (sizeE x) (numS l (sizeE x) s).2).1 (sizeE x) = (l.take (sgnD l (sizeE x) (numS l (sizeE x) s).2).2.p, true)
    rw [P, uns_num hs2 h1]
    exact sgn_num hs3 h
  · have h : (sgnD l 2 s).2.e = 0 := h
    refine ⟨by decide, (sgn_ok h).1, ?_⟩
    show jmpE { x with tgts := [(a : Int) + (sgnD l 2 s).1] } (headE { x with tgts := [(a : Int) + (sgnD l 2 s).1] } (l.take a, true)) 2 = (l.take (sgnD l 2 s).2.p, true)
    exact J { x with tgts := [(a : Int) + (sgnD l 2 s).1] } 2 (by omega) rfl rfl hx rfl h
  · have h : (sgnD l 4 s).2.e = 0 := h
    refine ⟨by decide, (sgn_ok h).1, ?_⟩
    show jmpE { x with tgts := [(a : Int) + (sgnD l 4 s).1] } (headE { x with tgts := [(a : Int) + (sgnD l 4 s).1] } (l.take a, true)) 4 = (l.take (sgnD l 4 s).2.p, true)
    exact J { x with tgts := [(a : Int) + (sgnD l 4 s).1] } 4 (by omega) rfl rfl hx rfl h
  · have h : (choD x a 10 l s).2.e = 0 := h
    obtain ⟨h1, h2⟩ := cho_back x a 10 (Or.inl rfl) l s hx hp h
    refine ⟨by decide, h1, ?_⟩
    show choE (choD x a 10 l s).1 10 (headE (choD x a 10 l s).1 (l.take a, true)) = (l.take (choD x a 10 l s).2.p, true)
    have := cho_same x a 10 l s
    rw [hdr_of this.2.1 this.2.2, hh]
    exact h2
  · have h : (choD x a 11 l s).2.e = 0 := h
    obtain ⟨h1, h2⟩ := cho_back x a 11 (Or.inr rfl) l s hx hp h
    refine ⟨by decide, h1, ?_⟩
    show choE (choD x a 11 l s).1 11 (headE (choD x a 11 l s).1 (l.take a, true)) = (l.take (choD x a 11 l s).2.p, true)
    have := cho_same x a 11 l s
    rw [hdr_of this.2.1 this.2.2, hh]
    exact h2
  · have h : (if (numS l 1 (numS l 1 (numS l 2 s).2).2).1 ≠ 0 ∨ (numS l 1 (numS l 2 s).2).1 = 0 then failS 15 a (numS l 1 (numS l 1 (numS l 2 s).2).2).2 else (numS l 1 (numS l 1 (numS l 2 s).2).2).2).e = 0 := h
    obtain ⟨k1, k2, k3⟩ := fail_ite (by decide) h
    have g3 := num_ok k2
    have g2 := num_ok g3.1
    have g1 := num_ok g2.1
    refine ⟨by decide, g1.1, ?_⟩
    have e9 : opsD x a 12 l s = ({ x with A := (numS l 2 s).1, B := (numS l 1 (numS l 2 s).2).1 }, (numS l 1 (numS l 1 (numS l 2 s).2).2).2) := by
      rw [← k3]; rfl
    rw [e9]
    have hb := numS_lt (l := l) (n := 1) (s := (numS l 2 s).2)
    have e8 : putX (unsS (tgtS (headE { x with A := (numS l 2 s).1, B := (numS l 1 (numS l 2 s).2).1 } (l.take a, true)) { x with A := (numS l 2 s).1, B := (numS l 1 (numS l 2 s).2).1 } 0) (numS l 2 s).1 2) (numS l 1 (numS l 2 s).2).1 1 1 255 = (l.take (numS l 1 (numS l 2 s).2).2.p, true) := by
      rw [P, uns_num (by omega) g2.1]
      exact put_uns (by omega) g3.1 _ (by simp; omega)
    show ((putX (unsS (tgtS (headE { x with A := (numS l 2 s).1, B := (numS l 1 (numS l 2 s).2).1 } (l.take a, true)) { x with A := (numS l 2 s).1, B := (numS l 1 (numS l 2 s).2).1 } 0) (numS l 2 s).1 2) (numS l 1 (numS l 2 s).2).1 1 1 255).1 ++ [0], (putX (unsS (tgtS (headE { x with A := (numS l 2 s).1, B := (numS l 1 (numS l 2 s).2).1 } (l.take a, true)) { x with A := (numS l 2 s).1, B := (numS l 1 (numS l 2 s).2).1 } 0) (numS l 2 s).1 2) (numS l 1 (numS l 2 s).2).1 1 1 255).2) = _
    rw [e8]
    have hz : (numS l 1 (numS l 1 (numS l 2 s).2).2).1 = 0 := by omega
    have g4 := g3.2.2.2
    rw [hz] at g4
    simp only
    rw [g3.2.2.1, g4]
    rfl
  · have h : (if (numS l 1 s).1 < 4 ∨ 11 < (numS l 1 s).1 then failS 15 a (numS l 1 s).2 else (numS l 1 s).2).e = 0 := h
    obtain ⟨k1, k2, k3⟩ := fail_ite (by decide) h
    refine ⟨by decide, (num_ok k2).1, ?_⟩
    have e9 : opsD x a 13 l s = ({ x with A := (numS l 1 s).1 }, (numS l 1 s).2) := by
      rw [← k3]; rfl
    rw [e9]
    show putX (tgtS (headE { x with A := (numS l 1 s).1 } (l.take a, true)) { x with A := (numS l 1 s).1 } 0) (numS l 1 s).1 1 4 11 = (l.take (numS l 1 s).2.p, true)
    rw [P]
    exact put_uns (by omega) k2 _ (by simp; omega)
  · have h : (if (numS l 1 (numS l 2 s).2).1 = 0 then failS 15 a (numS l 1 (numS l 2 s).2).2 else (numS l 1 (numS l 2 s).2).2).e = 0 := h
    obtain ⟨k1, k2, k3⟩ := fail_ite (by decide) h
    have g2 := num_ok k2
    have g1 := num_ok g2.1
    refine ⟨by decide, g1.1, ?_⟩
    have e9 : opsD x a 14 l s = ({ x with A := (numS l 2 s).1, B := (numS l 1 (numS l 2 s).2).1 }, (numS l 1 (numS l 2 s).2).2) := by
      rw [← k3]; rfl
    rw [e9]
    have hb := numS_lt (l := l) (n := 1) (s := (numS l 2 s).2)
    show putX (unsS (tgtS (headE { x with A := (numS l 2 s).1, B := (numS l 1 (numS l 2 s).2).1 } (l.take a, true)) { x with A := (numS l 2 s).1, B := (numS l 1 (numS l 2 s).2).1 } 0) (numS l 2 s).1 2) (numS l 1 (numS l 2 s).2).1 1 1 255 = (l.take (numS l 1 (numS l 2 s).2).2.p, true)
    rw [P, uns_num (by omega) g2.1]
    exact put_uns (by omega) k2 _ (by simp; omega)

theorem cho_stop (x : In) (a f : Nat) (l : List UInt8) (s : RS) : (choD x a f l s).2.e = 0 → s.e = 0 := by
  have k1 : ∀ z : RS, (sgnD l 4 z).2.e = 0 → z.e = 0 := fun z h => (sgn_ok h).1
  unfold choD
  simp only
  split
  · split
    · intro h; exact absurd h (fail_ne (by decide))
    · intro h; exact (pad_ok 4 s (k1 _ (k1 _ (k1 _ (rows_stop _ _ h))))).1
  · split
    · intro h; exact absurd h (fail_ne (by decide))
    · intro h; exact (pad_ok 4 s (k1 _ (k1 _ (rows_stop _ _ h)))).1
theorem ops_stop (x : In) (a f : Nat) (l : List UInt8) (s : RS) : (opsD x a f l s).2.e = 0 → s.e = 0 := by
  have hi : ∀ (c : Prop) [Decidable c] (y z : In × RS), (y.2.e = 0 → s.e = 0) → (z.2.e = 0 → s.e = 0) → ((if c then y else z).2.e = 0 → s.e = 0) := by
    intro c _ y z hy hz
    split <;> assumption
  unfold opsD
  simp only
  refine hi _ _ _ (fun h => absurd h (fail_ne (by decide))) (hi _ _ _ (fun h => (sgn_ok h).1) (hi _ _ _ (fun h => (sgn_ok h).1) (hi _ _ _ (fun h => (num_ok h).1) (hi _ _ _ (fun h => (num_ok h).1) (hi _ _ _ (fun h => (num_ok h).1) (hi _ _ _ (fun h => (num_ok (sgn_ok h).1).1) (hi _ _ _ (fun h => (sgn_ok h).1) (hi _ _ _ (fun h => (sgn_ok h).1) (hi _ _ _ (fun h => cho_stop x a f l s h) (hi _ _ _ ?_ (hi _ _ _ ?_ (hi _ _ _ ?_ (fun h => h)))))))))))))
  · exact fun h => (num_ok (num_ok (num_ok (fail_ite (by decide) h).2.1).1).1).1
  · exact fun h => (num_ok (fail_ite (by decide) h).2.1).1
  · exact fun h => (num_ok (num_ok (fail_ite (by decide) h).2.1).1).1
theorem formS_15 : ∀ o, o < 256 → formS o = 15 → o = 196 := by decide +kernel
theorem bigS_one {o : Nat} (ho : o < 256) : bigS o 1 = [UInt8.ofNat o] := by
  simp [bigS, Nat.mod_eq_of_lt ho]
theorem one_back {l : List UInt8} {s : RS} (h : (oneD l s).2.e = 0) :
    s.e = 0 ∧ (oneD l s).1.at' = (s.p : Int) ∧ ¬ badF (oneD l s).1 ∧ oneE (oneD l s).1 (formS (oneD l s).1.op) (l.take s.p, true) = (l.take (oneD l s).2.p, true) := by
  have ho := numS_lt (l := l) (n := 1) (s := s)
  simp only [Nat.reducePow] at ho
  unfold oneD at h ⊢
  simp only at h ⊢
  by_cases h15 : formS (numS l 1 s).1 = 15
  · rw [if_pos h15] at h ⊢
    have h196 := formS_15 _ ho h15
    have ho2 := numS_lt (l := l) (n := 1) (s := (numS l 1 s).2)
    simp only [Nat.reducePow] at ho2
    by_cases hb : formS (numS l 1 (numS l 1 s).2).1 ≠ 6 ∧ formS (numS l 1 (numS l 1 s).2).1 ≠ 7
    · rw [if_pos hb] at h
      exact absurd h (fail_ne (by decide))
    rw [if_neg hb] at h ⊢
    have h2 := ops_stop _ _ _ _ _ h
    have g2 := num_ok h2
    have g1 := num_ok g2.1
    have hh : headE (ins0 s.p (numS l 1 (numS l 1 s).2).1 true) (l.take s.p, true) = (l.take (numS l 1 (numS l 1 s).2).2.p, true) := by
      unfold headE
      simp only [ins0, ↓reduceIte]
      have g14 := g1.2.2.2
      have g24 := g2.2.2.2
      rw [h196, bigS_one (by decide)] at g14
      rw [bigS_one ho2, g1.2.2.1, g14] at g24
      rw [g2.2.2.1, g1.2.2.1, g24]
      rfl
    obtain ⟨_, _, h3⟩ := ops_back _ s.p _ (by omega) l _ rfl rfl (by omega) hh h
    have hs := ops_same (ins0 s.p (numS l 1 (numS l 1 s).2).1 true) s.p (formS (numS l 1 (numS l 1 s).2).1) l (numS l 1 (numS l 1 s).2).2
    refine ⟨g1.1, hs.1, ?_, ?_⟩
    · unfold badF
      rw [hs.2.1, hs.2.2]
      have hb : formS (numS l 1 (numS l 1 s).2).1 = 6 ∨ formS (numS l 1 (numS l 1 s).2).1 = 7 := by omega
      rintro (h | h | h)
      · have h : formS (numS l 1 (numS l 1 s).2).1 = 1 := h
        omega
      · have h : formS (numS l 1 (numS l 1 s).2).1 = 15 := h
        omega
      · have h2 : formS (numS l 1 (numS l 1 s).2).1 ≠ 6 := h.2.1
        have h3 : formS (numS l 1 (numS l 1 s).2).1 ≠ 7 := h.2.2
        omega
    · rw [hs.2.1]; exact h3
  · rw [if_neg h15] at h ⊢
    have h2 := ops_stop _ _ _ _ _ h
    have g1 := num_ok h2
    have hh : headE (ins0 s.p (numS l 1 s).1 false) (l.take s.p, true) = (l.take (numS l 1 s).2.p, true) := by
      unfold headE
      simp only [ins0, Bool.false_eq_true, ↓reduceIte]
      have g14 := g1.2.2.2
      rw [bigS_one ho] at g14
      rw [g1.2.2.1, g14]
    have hle := formS_lt _ ho
    obtain ⟨hn1, _, h3⟩ := ops_back _ s.p (formS (numS l 1 s).1) (by omega) l _ rfl rfl (by omega) hh h
    have hs := ops_same (ins0 s.p (numS l 1 s).1 false) s.p (formS (numS l 1 s).1) l (numS l 1 s).2
    refine ⟨g1.1, hs.1, ?_, ?_⟩
    · unfold badF
      rw [hs.2.1, hs.2.2]
      rintro (h | h | h)
      · exact hn1 h
      · exact h15 h
      · exact Bool.false_ne_true h.1
    · rw [hs.2.1]; exact h3
theorem all_stop (l : List UInt8) : ∀ (k : Nat) (xs : List In) (s : RS), (allD l k xs s).2.e = 0 → s.e = 0 := by
  intro k
  cases k with
  | zero => intro xs s h; exact h
  | succ k =>
    intro xs s
    rw [allD]
    split
    · intro _; omega
    · intro h; exact h
theorem all_back {l : List UInt8} (hl : l.length ≤ 65535) : ∀ (k : Nat) (xs : List In) (s : RS), s.p ≤ l.length → l.length ≤ s.p + k → (allD l k xs s).2.e = 0 →
    ∃ zs, (allD l k xs s).1 = xs ++ zs ∧ (s.p < l.length → zs ≠ []) ∧ ∀ all i, encR all zs i (l.take s.p) = endR all l := by
  intro k
  induction k with
  | zero =>
    intro xs s h1 h2 _
    refine ⟨[], by simp [allD], fun _ => by omega, fun all i => ?_⟩
    rw [encR, List.take_of_length_le (by omega)]
  | succ k ih =>
    intro xs s h1 h2 h
    have hs := all_stop l _ _ _ h
    rw [allD] at h ⊢
    by_cases hp : s.p < l.length
    · rw [if_pos ⟨hp, hs⟩] at h ⊢
      have ho := ok_one l s h1
      have hq := ho.2 hp hs
      have hq2 := ho.1.2.1 h1
      obtain ⟨zs, z1, _, z3⟩ := ih _ _ hq2 (by omega) h
      obtain ⟨_, b2, b3, b4⟩ := one_back (all_stop l _ _ _ h)
      refine ⟨(oneD l s).1 :: zs, by rw [z1]; simp, fun _ => by simp, fun all i => ?_⟩
      rw [encR, if_neg (by rw [b2, List.length_take]; omega), if_neg b3, b4, if_neg (by simp), if_neg (by simp only [List.length_take]; omega)]
      exact z3 all (i + 1)
    · rw [if_neg (fun hh => hp hh.1)] at h ⊢
      refine ⟨[], by simp, fun hh => absurd hh hp, fun all i => ?_⟩
      rw [encR, List.take_of_length_le (by omega)]
theorem tgts_back {n : Nat} {ats : List Int} {a : Nat} : ∀ (ts : List Int) (s : RS), (tgtsD n ats a ts s).e = 0 → s.e = 0 ∧ ∀ t ∈ ts, ats.contains t = true := by
  intro ts
  induction ts with
  | nil => intro s h; exact ⟨h, by simp⟩
  | cons t r ih =>
    intro s h
    rw [tgtsD] at h
    obtain ⟨h1, h2⟩ := ih _ h
    obtain ⟨k1, k2, _⟩ := fail_ite (by decide) h1
    refine ⟨k2, fun t' ht => ?_⟩
    rcases List.mem_cons.1 ht with rfl | ht
    · unfold badT at k1
      cases hc : ats.contains t' with
      | true => rfl
      | false => rw [hc] at k1; simp at k1
    · exact h2 _ ht
theorem chk_back {n : Nat} {ats : List Int} : ∀ (xs : List In) (s : RS), (chkD n ats xs s).e = 0 → s.e = 0 ∧ ∀ k, tgtR ats xs k = none := by
  intro xs
  induction xs with
  | nil => intro s h; exact ⟨h, fun _ => rfl⟩
  | cons x r ih =>
    intro s h
    rw [chkD] at h
    obtain ⟨h1, h2⟩ := ih _ h
    obtain ⟨k1, k2⟩ := tgts_back _ _ h1
    refine ⟨k1, fun k => ?_⟩
    rw [tgtR, if_pos (by rw [List.all_eq_true]; exact k2)]
    exact h2 _
theorem back_of {l : List UInt8} (h : (decD l).2.1 = 0) : encR (decD l).1 (decD l).1 0 [] = (l, 0, 0) := by
  unfold decD at h ⊢
  by_cases h0 : l.length = 0 ∨ 65535 < l.length
  · rw [if_pos h0] at h; exact absurd h (by decide)
  rw [if_neg h0] at h ⊢
  unfold endD at h ⊢
  simp only at h ⊢
  by_cases he : (chkD l.length ((allD l l.length [] ⟨0, 0, 0⟩).1.map In.at') (allD l l.length [] ⟨0, 0, 0⟩).1 (allD l l.length [] ⟨0, 0, 0⟩).2).e = 0
  · rw [if_neg (by simpa using he)]
    obtain ⟨k1, k2⟩ := chk_back _ _ he
    obtain ⟨zs, z1, z2, z3⟩ := all_back (l := l) (by omega) l.length [] ⟨0, 0, 0⟩ (Nat.zero_le _) (by simp) k1
    have z2 := z2 (by simp only; omega)
    rw [List.nil_append] at z1
    rw [z1] at k2 ⊢
    have := z3 zs 0
    rw [List.take_zero] at this
    rw [this]
    unfold endR
    rw [if_neg (fun hh => z2 (List.length_eq_zero_iff.1 hh)), k2]
  · rw [if_pos he] at h; exact absurd h he
theorem bad_of {l : List UInt8} (h : (decD l).2.1 ≠ 0) : (decD l).1 = [] := by
  unfold decD at h ⊢
  split
  · rfl
  · rename_i h0
    rw [if_neg h0] at h
    unfold endD at h ⊢
    simp only at h ⊢
    split
    · rfl
    · rename_i he
      rw [if_neg he] at h
      exact absurd rfl h
theorem dec_0b1 : decD [0, 177] = ([ins0 0 0 false, ins0 1 177 false], 0, 0) := by rfl
end Go.Proofs.Ytjpcpkhegjndeaa
