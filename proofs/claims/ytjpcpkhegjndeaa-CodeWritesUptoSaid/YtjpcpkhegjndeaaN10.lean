/- The encoder of instructions: both say the same of one instruction. -/
import Derived.Test.YtjpcpkhegjndeaaN9
namespace Go.Proofs.Ytjpcpkhegjndeaa
open Go.Vc
set_option maxRecDepth 100000
set_option linter.unusedSimpArgs false
set_option linter.unusedVariables false

def pre (b : List UInt8) (s : ES) : ES := (b ++ s.1, s.2)
theorem pre_putS (b : List UInt8) (s : ES) (x : Int) (n : Nat) (c : Bool) : putS (pre b s) x n c = pre b (putS s x n c) := by simp [putS, pre]
theorem pre_sgnS (b : List UInt8) (s : ES) (x : Int) (n : Nat) : sgnS (pre b s) x n = pre b (sgnS s x n) := pre_putS ..
theorem pre_unsS (b : List UInt8) (s : ES) (x : Int) (n : Nat) : unsS (pre b s) x n = pre b (unsS s x n) := pre_putS ..
theorem pre_putX (b : List UInt8) (s : ES) (x : Int) (n : Nat) (lo hi : Int) : putX (pre b s) x n lo hi = pre b (putX s x n lo hi) := pre_putS ..
theorem pre_tgtS (b : List UInt8) (s : ES) (x : In) (n : Nat) : tgtS (pre b s) x n = pre b (tgtS s x n) := rfl
theorem pre_headE (b : List UInt8) (s : ES) (x : In) : headE x (pre b s) = pre b (headE x s) := by
  unfold headE pre
  split <;> simp
theorem pre_rowE (b : List UInt8) (f : Nat) (keys : List Int) (at' : Int) : ∀ (l : List Int) (k : Nat) (s : ES), rowE f keys at' l k (pre b s) = pre b (rowE f keys at' l k s) := by
  intro l
  induction l with
  | nil => intro k s; rfl
  | cons t r ih =>
    intro k s
    simp only [rowE]
    by_cases hf : f = 11
    · simp only [if_pos hf]
      have h1 : ((pre b s).1, (pre b s).2 && ordK keys k) = pre b (s.1, s.2 && ordK keys k) := rfl
      rw [h1, pre_sgnS, pre_sgnS, ih]
    · simp only [if_neg hf]
      rw [pre_sgnS, ih]
theorem pre_choM (b : List UInt8) (x : In) (f : Nat) (s : ES) : choM x f (pre b s) = pre b (choM x f s) := by
  unfold choM
  simp only [pre_sgnS]
  split <;> rw [pre_rowE]
theorem pre_jmpE (b : List UInt8) (x : In) (s : ES) (n : Nat) : jmpE x (pre b s) n = pre b (jmpE x s n) := by
  unfold jmpE
  rw [pre_tgtS]
  have h1 : (pre b (tgtS s x 1)).2 = (tgtS s x 1).2 := rfl
  rw [h1]
  split
  · rw [pre_sgnS]
  · rfl
theorem pre_oneE (b : List UInt8) (x : In) (f : Nat) (s : ES) (h10 : f ≠ 10) (h11 : f ≠ 11) : oneE x f (pre b s) = pre b (oneE x f s) := by
  have hi : ∀ (c : Prop) [Decidable c] (y z y' z' : ES), y = pre b y' → z = pre b z' → (if c then y else z) = pre b (if c then y' else z') := by
    intro c _ y z y' z' hy hz
    split <;> assumption
  unfold oneE
  simp only [if_neg h10, if_neg h11, pre_headE, pre_tgtS, pre_sgnS, pre_unsS, pre_putX, pre_jmpE]
  refine hi _ _ _ _ _ rfl (hi _ _ _ _ _ rfl (hi _ _ _ _ _ rfl (hi _ _ _ _ _ rfl (hi _ _ _ _ _ rfl (hi _ _ _ _ _ rfl (hi _ _ _ _ _ rfl (hi _ _ _ _ _ rfl (hi _ _ _ _ _ rfl (hi _ _ _ _ _ ?_ (hi _ _ _ _ _ rfl rfl))))))))))
  simp [pre]
theorem rowE_false (f : Nat) (keys : List Int) (at' : Int) : ∀ (l : List Int) (k : Nat) (s : ES), s.2 = false → (rowE f keys at' l k s).2 = false := by
  intro l
  induction l with
  | nil => intro k s h; exact h
  | cons t r ih =>
    intro k s h
    rw [rowE]
    refine ih _ _ ?_
    split <;> simp [sgnS, putS, h]
theorem rowE_len1 (f : Nat) (keys : List Int) (at' : Int) : ∀ (l : List Int) (k : Nat) (s : ES), s.1.length ≤ (rowE f keys at' l k s).1.length := by
  intro l
  induction l with
  | nil => intro k s; exact Nat.le_refl _
  | cons t r ih =>
    intro k s
    rw [rowE]
    refine Nat.le_trans ?_ (ih _ _)
    split <;> simp [sgnS, putS] <;> omega
theorem oneE_false (x : In) (f : Nat) (s : ES) (h10 : f ≠ 10) (h11 : f ≠ 11) (ht : x.tgts.length ≠ (if f = 8 ∨ f = 9 then 1 else 0)) : (oneE x f s).2 = false := by
  have hi : ∀ (c : Prop) [Decidable c] (y z : ES), (c → y.2 = false) → (¬ c → z.2 = false) → (if c then y else z).2 = false := by
    intro c _ y z hy hz
    split <;> simp_all
  by_cases h89 : f = 8 ∨ f = 9
  · rw [if_pos h89] at ht
    have hj : ∀ n, (jmpE x (headE x s) n).2 = false := by
      intro n
      unfold jmpE
      have : (tgtS (headE x s) x 1).2 = false := by simp [tgtS, ht]
      rw [if_neg (by simp [this])]
      exact this
    unfold oneE
    rcases h89 with rfl | rfl
    · simp only [Nat.reduceEqDiff, if_false, if_true]; exact hj 2
    · simp only [Nat.reduceEqDiff, if_false, if_true]; exact hj 4
  · rw [if_neg h89] at ht
    have ht0 : (tgtS (headE x s) x 0).2 = false := by simp [tgtS, ht]
    have h8 : f ≠ 8 := fun e => h89 (Or.inl e)
    have h9 : f ≠ 9 := fun e => h89 (Or.inr e)
    unfold oneE
    simp only [if_neg h8, if_neg h9, if_neg h10, if_neg h11]
    refine hi _ _ _ (fun _ => ht0) fun _ => hi _ _ _ (fun _ => ?_) fun _ => hi _ _ _ (fun _ => ?_) fun _ => hi _ _ _ (fun _ => ?_) fun _ => hi _ _ _ (fun _ => ?_) fun _ => hi _ _ _ (fun _ => ?_) fun _ => hi _ _ _ (fun _ => ?_) fun _ => hi _ _ _ (fun _ => ?_) fun _ => hi _ _ _ (fun _ => ?_) fun _ => ?_
    all_goals simp [sgnS, unsS, putX, putS, ht0]
theorem padS_app (b : List UInt8) (op : UInt8) : padS (b ++ [op]) = b ++ (op :: List.replicate ((4 - (b.length + 1) % 4) % 4) 0) := by simp [padS]
theorem headE_len (x : In) (s : ES) : s.1.length + 1 ≤ (headE x s).1.length := by unfold headE; split <;> simp
theorem oneE_len1 (x : In) (f : Nat) (s : ES) : s.1.length + 1 ≤ (oneE x f s).1.length := by
  have hi : ∀ (c : Prop) [Decidable c] (y z : ES), s.1.length + 1 ≤ y.1.length → s.1.length + 1 ≤ z.1.length → s.1.length + 1 ≤ (if c then y else z).1.length := by
    intro c _ y z hy hz
    split <;> assumption
  have hh := headE_len x s
  have hj : ∀ n, s.1.length + 1 ≤ (jmpE x (headE x s) n).1.length := by
    intro n
    unfold jmpE
    refine hi _ _ _ ?_ ?_ <;> simp only [sgnS, putS_len, tgtS] <;> omega
  have hc : ∀ f, s.1.length + 1 ≤ (choE x f (headE x s)).1.length := by
    intro f
    rw [choE_eq]
    refine hi _ _ _ ?_ ?_
    · simp [padS]; omega
    · unfold choM
      refine Nat.le_trans ?_ (rowE_len1 _ _ _ _ _ _)
      refine hi _ _ _ ?_ ?_ <;> simp only [sgnS, putS_len] <;> simp [padS] <;> omega
  have ht : s.1.length + 1 ≤ (tgtS (headE x s) x 0).1.length := hh
  unfold oneE
  refine hi _ _ _ ht (hi _ _ _ ?_ (hi _ _ _ ?_ (hi _ _ _ ?_ (hi _ _ _ ?_ (hi _ _ _ ?_ (hi _ _ _ ?_ (hi _ _ _ (hj _) (hi _ _ _ (hj _) (hi _ _ _ (hc _) (hi _ _ _ (hc _) (hi _ _ _ ?_ (hi _ _ _ ?_ ?_))))))))))))
  all_goals
    simp only [sgnS, unsS, putX, putS_len, List.length_append]
    omega
/-- Both say the same of one instruction. -/
theorem enc_same (x : In) (b : List UInt8) (hbad : ¬ badF x) :
    (oneE x (formS x.op) (b, true)).2 = (encX x (formS x.op) b.length).2 ∧ ((encX x (formS x.op) b.length).2 = true → (oneE x (formS x.op) (b, true)).1 = b ++ (encX x (formS x.op) b.length).1) := by
  have hw : formS x.op = 10 ∨ formS x.op = 11 → x.wide = false := by
    intro hf
    cases hw : x.wide with
    | false => rfl
    | true => exact absurd (Or.inr (Or.inr ⟨hw, by omega, by omega⟩)) hbad
  generalize formS x.op = f at *
  clear hbad
  have hb : (b, true) = pre b ([], true) := by simp [pre]
  unfold encX
  by_cases hf : f = 10 ∨ f = 11
  · rw [if_pos hf]
    have hh : headE x (b, true) = (b ++ [UInt8.ofNat x.op], true) := by unfold headE; rw [if_neg (by simp [hw hf])]
    have ho : oneE x f (b, true) = choE x f (b ++ [UInt8.ofNat x.op], true) := by
      unfold oneE
      rcases hf with rfl | rfl
      · simp only [Nat.reduceEqDiff, if_false, if_true, hh]
      · simp only [Nat.reduceEqDiff, if_false, if_true, hh]
    rw [ho, choE_eq]
    unfold choX
    by_cases hB : choBad x f
    · rw [if_pos hB, if_pos hB]
      exact ⟨rfl, by simp⟩
    · rw [if_neg hB, if_neg hB]
      have : (padS (b ++ [UInt8.ofNat x.op], true).1, (b ++ [UInt8.ofNat x.op], true).2) = pre b (UInt8.ofNat x.op :: List.replicate ((4 - (b.length + 1) % 4) % 4) 0, true) := by simp only [padS_app]; rfl
      rw [this, pre_choM]
      exact ⟨rfl, fun _ => rfl⟩
  · rw [if_neg hf]
    by_cases ht : x.tgts.length ≠ (if f = 8 ∨ f = 9 then 1 else 0)
    · rw [if_pos ht]
      exact ⟨oneE_false x f _ (fun e => hf (Or.inl e)) (fun e => hf (Or.inr e)) ht, by simp⟩
    · rw [if_neg ht, hb, pre_oneE b x f _ (fun e => hf (Or.inl e)) (fun e => hf (Or.inr e))]
      exact ⟨rfl, fun _ => rfl⟩
end Go.Proofs.Ytjpcpkhegjndeaa
