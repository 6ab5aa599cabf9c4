/- Instructions out of bytes: what is read (plain). -/
import Derived.Test.YtjpcpkhegjndeaaR1
import Derived.Test.YtjpcpkhegjndeaaN4
namespace Go.Proofs.Ytjpcpkhegjndeaa
open Go.Vc
set_option maxRecDepth 100000
set_option linter.unusedSimpArgs false
set_option linter.unusedVariables false

def sgnN (x n : Nat) : Int := if 128 * 256 ^ (n - 1) ≤ x then (x : Int) - (256 ^ n : Nat) else (x : Int)
def sgnD (l : List UInt8) (n : Nat) (s : RS) : Int × RS := (sgnN (numS l n s).1 n, (numS l n s).2)
def padD (l : List UInt8) (at' : Nat) : Nat → RS → RS
  | 0, s => s
  | k + 1, s => if s.p % 4 = 0 ∨ s.e ≠ 0 then s else padD l at' k (if (numS l 1 s).1 ≠ 0 then failS 15 at' (numS l 1 s).2 else (numS l 1 s).2)
abbrev KT := List Int × List Int × RS
def keyD (f : Nat) (l : List UInt8) (at' : Nat) (ks : List Int) (s : RS) : List Int × RS :=
  if f = 11 then
    (ks ++ [(sgnD l 4 s).1], if ks ≠ [] ∧ (sgnD l 4 s).1 ≤ ks.getD (ks.length - 1) 0 then failS 15 at' (sgnD l 4 s).2 else (sgnD l 4 s).2)
  else (ks, s)
def rowsD (f : Nat) (l : List UInt8) (at' : Nat) : Nat → KT → KT
  | 0, c => c
  | r + 1, c => if c.2.2.e ≠ 0 then c else
    rowsD f l at' r ((keyD f l at' c.1 c.2.2).1, c.2.1 ++ [(at' : Int) + (sgnD l 4 (keyD f l at' c.1 c.2.2).2).1], (sgnD l 4 (keyD f l at' c.1 c.2.2).2).2)
/-- A switch. -/
def choD (x : In) (at' f : Nat) (l : List UInt8) (s : RS) : In × RS :=
  let t0 := sgnD l 4 (padD l at' 4 s)
  let n := sgnD l 4 t0.2
  if f = 10 then
    let hi := sgnD l 4 n.2
    if hi.1 < n.1 then ({ x with low := n.1, tgts := [(at' : Int) + t0.1] }, failS 15 at' hi.2)
    else
      let c := rowsD f l at' (hi.1 - n.1 + 1).toNat ([], [(at' : Int) + t0.1], hi.2)
      ({ x with low := n.1, keys := c.1, tgts := c.2.1 }, c.2.2)
  else if n.1 < 0 then ({ x with tgts := [(at' : Int) + t0.1] }, failS 15 at' n.2)
  else
    let c := rowsD f l at' n.1.toNat ([], [(at' : Int) + t0.1], n.2)
    ({ x with keys := c.1, tgts := c.2.1 }, c.2.2)
/-- The operands, of a form. -/
def opsD (x : In) (at' f : Nat) (l : List UInt8) (s : RS) : In × RS :=
  let sz := if x.wide = true then 2 else 1
  if f = 1 then (x, failS 14 at' s)
  else if f = 2 then ({ x with A := (sgnD l 1 s).1 }, (sgnD l 1 s).2)
  else if f = 3 then ({ x with A := (sgnD l 2 s).1 }, (sgnD l 2 s).2)
  else if f = 4 then ({ x with A := (numS l 1 s).1 }, (numS l 1 s).2)
  else if f = 5 then ({ x with A := (numS l 2 s).1 }, (numS l 2 s).2)
  else if f = 6 then ({ x with A := (numS l sz s).1 }, (numS l sz s).2)
  else if f = 7 then ({ x with A := (numS l sz s).1, B := (sgnD l sz (numS l sz s).2).1 }, (sgnD l sz (numS l sz s).2).2)
  else if f = 8 then ({ x with tgts := [(at' : Int) + (sgnD l 2 s).1] }, (sgnD l 2 s).2)
  else if f = 9 then ({ x with tgts := [(at' : Int) + (sgnD l 4 s).1] }, (sgnD l 4 s).2)
  else if f = 10 ∨ f = 11 then choD x at' f l s
  else if f = 12 then
    let a := numS l 2 s
    let b := numS l 1 a.2
    let c := numS l 1 b.2
    ({ x with A := a.1, B := b.1 }, if c.1 ≠ 0 ∨ b.1 = 0 then failS 15 at' c.2 else c.2)
  else if f = 13 then ({ x with A := (numS l 1 s).1 }, if (numS l 1 s).1 < 4 ∨ 11 < (numS l 1 s).1 then failS 15 at' (numS l 1 s).2 else (numS l 1 s).2)
  else if f = 14 then
    let a := numS l 2 s
    let b := numS l 1 a.2
    ({ x with A := a.1, B := b.1 }, if b.1 = 0 then failS 15 at' b.2 else b.2)
  else (x, s)
def ins0 (p op : Nat) (w : Bool) : In := ⟨p, op, w, 0, 0, 0, [], []⟩
/-- An instruction. -/
def oneD (l : List UInt8) (s : RS) : In × RS :=
  let o := numS l 1 s
  if formS o.1 = 15 then
    let o2 := numS l 1 o.2
    if formS o2.1 ≠ 6 ∧ formS o2.1 ≠ 7 then (ins0 s.p o2.1 true, failS 14 s.p o2.2)
    else opsD (ins0 s.p o2.1 true) s.p (formS o2.1) l o2.2
  else opsD (ins0 s.p o.1 false) s.p (formS o.1) l o.2
def allD (l : List UInt8) : Nat → List In → RS → List In × RS
  | 0, xs, s => (xs, s)
  | k + 1, xs, s => if s.p < l.length ∧ s.e = 0 then allD l k (xs ++ [(oneD l s).1]) (oneD l s).2 else (xs, s)
def badT (n : Nat) (ats : List Int) (t : Int) : Bool := !(decide (0 ≤ t) && decide (t < n) && ats.contains t)
def tgtsD (n : Nat) (ats : List Int) (a : Nat) : List Int → RS → RS
  | [], s => s
  | t :: r, s => tgtsD n ats a r (if badT n ats t = true then failS 16 a s else s)
def chkD (n : Nat) (ats : List Int) : List In → RS → RS
  | [], s => s
  | x :: r, s => chkD n ats r (tgtsD n ats x.at'.toNat x.tgts s)
def endD (l : List UInt8) (r : List In × RS) : List In × Nat × Nat :=
  let s := chkD l.length (r.1.map In.at') r.1 r.2
  if s.e ≠ 0 then ([], s.e, s.es) else (r.1, 0, 0)
def decD (l : List UInt8) : List In × Nat × Nat :=
  if l.length = 0 ∨ 65535 < l.length then ([], 12, 0) else endD l (allD l l.length [] ⟨0, 0, 0⟩)

/-! ### How far -/
def Ok (l : List UInt8) (s s' : RS) : Prop := s.p ≤ s'.p ∧ (s.p ≤ l.length → s'.p ≤ l.length) ∧ (s'.e ≤ 16 ∨ s'.e = s.e) ∧ (s'.es ≤ l.length ∨ s'.es = s.es)
theorem Ok.refl (l : List UInt8) (s : RS) : Ok l s s := ⟨Nat.le_refl _, id, Or.inr rfl, Or.inr rfl⟩
theorem Ok.trans {l : List UInt8} {a b c : RS} (H : Ok l a b) (K : Ok l b c) : Ok l a c := by
  obtain ⟨h1, h2, h3, h4⟩ := H
  obtain ⟨k1, k2, k3, k4⟩ := K
  refine ⟨by omega, fun h => k2 (h2 h), ?_, ?_⟩
  · rcases k3 with k | k
    · exact Or.inl k
    · rw [k]; exact h3
  · rcases k4 with k | k
    · exact Or.inl k
    · rw [k]; exact h4
theorem ok_fail (l : List UInt8) (e q : Nat) (s : RS) (he : e ≤ 16) (hq : q ≤ l.length) : Ok l s (failS e q s) := by
  unfold failS
  split
  · exact ⟨Nat.le_refl _, id, Or.inl he, Or.inl hq⟩
  · exact Ok.refl _ _
theorem ok_num (l : List UInt8) (n : Nat) (s : RS) : Ok l s (numS l n s).2 := by
  unfold numS takeS
  split
  · exact Ok.refl _ _
  · rename_i he
    have h0 : s.e = 0 := by omega
    split
    · exact ⟨Nat.le_refl _, id, Or.inl (show 1 ≤ 16 by decide), Or.inl (Nat.le_refl _)⟩
    · exact ⟨Nat.le_add_right _ _, fun _ => by simp only; omega, Or.inl (show 0 ≤ 16 by decide), Or.inr rfl⟩
theorem ok_sgn (l : List UInt8) (n : Nat) (s : RS) : Ok l s (sgnD l n s).2 := ok_num l n s
theorem ok_ite (l : List UInt8) (s a b : RS) (c : Prop) [Decidable c] (h1 : Ok l s a) (h2 : Ok l s b) : Ok l s (if c then a else b) := by
  split <;> assumption
theorem ok_pad (l : List UInt8) (at' : Nat) (ha : at' ≤ l.length) : ∀ (k : Nat) (s : RS), Ok l s (padD l at' k s) := by
  intro k
  induction k with
  | zero => intro s; exact Ok.refl _ _
  | succ k ih =>
    intro s
    rw [padD]
    split
    · exact Ok.refl _ _
    · refine Ok.trans (ok_ite l s _ _ _ ((ok_num l 1 s).trans (ok_fail l 15 at' _ (by decide) ha)) (ok_num l 1 s)) (ih _)
theorem ok_key (f : Nat) (l : List UInt8) (at' : Nat) (ha : at' ≤ l.length) (ks : List Int) (s : RS) : Ok l s (keyD f l at' ks s).2 := by
  unfold keyD
  split
  · exact ok_ite l s _ _ _ ((ok_sgn l 4 s).trans (ok_fail l 15 at' _ (by decide) ha)) (ok_sgn l 4 s)
  · exact Ok.refl _ _
theorem ok_rows (f : Nat) (l : List UInt8) (at' : Nat) (ha : at' ≤ l.length) : ∀ (r : Nat) (c : KT), Ok l c.2.2 (rowsD f l at' r c).2.2 := by
  intro r
  induction r with
  | zero => intro c; exact Ok.refl _ _
  | succ r ih =>
    intro c
    rw [rowsD]
    split
    · exact Ok.refl _ _
    · exact ((ok_key f l at' ha c.1 c.2.2).trans (ok_sgn l 4 _)).trans (ih ((keyD f l at' c.1 c.2.2).1, c.2.1 ++ [(at' : Int) + (sgnD l 4 (keyD f l at' c.1 c.2.2).2).1], (sgnD l 4 (keyD f l at' c.1 c.2.2).2).2))
theorem ok_cho (x : In) (at' f : Nat) (l : List UInt8) (s : RS) (ha : at' ≤ l.length) : Ok l s (choD x at' f l s).2 := by
  have h1 := ((ok_pad l at' ha 4 s).trans (ok_sgn l 4 _)).trans (ok_sgn l 4 _)
  unfold choD
  simp only
  split
  · have h2 := h1.trans (ok_sgn l 4 _)
    split
    · exact h2.trans (ok_fail l 15 at' _ (by decide) ha)
    · exact h2.trans (ok_rows f l at' ha _ ([], _, _))
  · split
    · exact h1.trans (ok_fail l 15 at' _ (by decide) ha)
    · exact h1.trans (ok_rows f l at' ha _ ([], _, _))
theorem ok_ops (x : In) (at' f : Nat) (l : List UInt8) (s : RS) (ha : at' ≤ l.length) : Ok l s (opsD x at' f l s).2 := by
  have hi : ∀ (c : Prop) [Decidable c] (y z : In × RS), Ok l s y.2 → Ok l s z.2 → Ok l s (if c then y else z).2 := by
    intro c _ y z hy hz
    split <;> assumption
  unfold opsD
  simp only
  refine hi _ _ _ (ok_fail l 14 at' _ (by decide) ha) (hi _ _ _ (ok_sgn ..) (hi _ _ _ (ok_sgn ..) (hi _ _ _ (ok_num ..) (hi _ _ _ (ok_num ..) (hi _ _ _ (ok_num ..) (hi _ _ _ ((ok_num ..).trans (ok_sgn ..)) (hi _ _ _ (ok_sgn ..) (hi _ _ _ (ok_sgn ..) (hi _ _ _ (ok_cho x at' f l s ha) (hi _ _ _ ?_ (hi _ _ _ ?_ (hi _ _ _ ?_ (Ok.refl _ _)))))))))))))
  · have h1 := ((ok_num l 2 s).trans (ok_num l 1 _)).trans (ok_num l 1 _)
    exact ok_ite l s _ _ _ (h1.trans (ok_fail l 15 at' _ (by decide) ha)) h1
  · exact ok_ite l s _ _ _ ((ok_num l 1 s).trans (ok_fail l 15 at' _ (by decide) ha)) (ok_num l 1 s)
  · have h1 := (ok_num l 2 s).trans (ok_num l 1 _)
    exact ok_ite l s _ _ _ (h1.trans (ok_fail l 15 at' _ (by decide) ha)) h1
theorem num_step (l : List UInt8) (s : RS) (h1 : s.p < l.length) (h2 : s.e = 0) : (numS l 1 s).2.p = s.p + 1 ∧ (numS l 1 s).2.e = 0 := by
  unfold numS takeS
  rw [if_neg (by omega), if_neg (by omega)]
  exact ⟨rfl, rfl⟩
theorem ok_one (l : List UInt8) (s : RS) (ha : s.p ≤ l.length) : Ok l s (oneD l s).2 ∧ (s.p < l.length → s.e = 0 → s.p + 1 ≤ (oneD l s).2.p) := by
  have key : ∀ r : RS, Ok l (numS l 1 s).2 r → Ok l s r ∧ (s.p < l.length → s.e = 0 → s.p + 1 ≤ r.p) := by
    intro r hr
    refine ⟨(ok_num l 1 s).trans hr, fun h1 h2 => ?_⟩
    have := (num_step l s h1 h2).1
    have := hr.1
    omega
  unfold oneD
  simp only
  split
  · split
    · exact key _ ((ok_num l 1 _).trans (ok_fail l 14 s.p _ (by decide) ha))
    · exact key _ ((ok_num l 1 _).trans (ok_ops _ s.p _ l _ ha))
  · exact key _ (ok_ops _ s.p _ l _ ha)
end Go.Proofs.Ytjpcpkhegjndeaa
