/- The reader of bytes (pool.Reader): what each of its functions does. Instructions out of bytes: what is read (plain). The reader's functions, one by one. The decoder of instructions: numbers with a sign, switches. The decoder of instructions: switches. The decoder of instructions: more operands. No condition. -/
import Derived.Test.YtflocjbhcjhenaaGreatDoorPa
import Derived.Test.YtflocjbhcjhenaaGreatDoorT
import Derived.Test.YtflocjbhcjhenaaGreatDoorVcS
import Derived.Test.YtflocjbhcjhenaaGreatDoorCA
import Derived.Test.YtflocjbhcjhenaaGreatDoorN3
set_option linter.unusedSimpArgs false
set_option linter.unusedVariables false
namespace Go.Proofs.YtflocjbhcjhenaaGreatDoor
open Go.Vc
set_option maxRecDepth 100000
structure RS where
  p : Nat
  e : Nat
  es : Nat
def failS (e q : Nat) (s : RS) : RS := if s.e = 0 then ⟨s.p, e, q⟩ else s
def takeS (l : List UInt8) (n : Nat) (s : RS) : List UInt8 × RS :=
  if s.e ≠ 0 then ([], s) else if l.length < s.p + n then ([], ⟨s.p, 1, l.length⟩) else ((l.drop s.p).take n, ⟨s.p + n, 0, s.es⟩)
def numB (l : List UInt8) : Nat := l.foldl (fun x b => x * 256 + b.toNat) 0
def numS (l : List UInt8) (n : Nat) (s : RS) : Nat × RS := (numB (takeS l n s).1, (takeS l n s).2)
def Rdr (h : Heap) (g : Nat) (l : List UInt8) (s : RS) : Prop :=
  h[g]? = some (.cells #[str l, .int .i64 s.p, .int .i64 s.e, .int .i64 s.es] 130 (0, 0)) ∧ s.p ≤ l.length
theorem numB_append (a : List UInt8) (b : UInt8) : numB (a ++ [b]) = numB a * 256 + b.toNat := by simp [numB]
theorem numB_lt (l : List UInt8) : numB l < 256 ^ l.length := by
  suffices H : ∀ (k : Nat) (l : List UInt8), l.length = k → numB l < 256 ^ l.length from H _ l rfl
  intro k
  induction k with
  | zero => intro l hl; have := List.length_eq_zero_iff.1 hl; subst this; decide
  | succ k ih =>
    intro l hl
    obtain ⟨a, b, rfl⟩ : ∃ a b, l = a ++ [b] := by
      rcases List.eq_nil_or_concat l with h | ⟨a, b, h⟩
      · subst h; simp at hl
      · exact ⟨a, b, by simpa using h⟩
    have h1 : a.length = k := by simpa using hl
    have h2 := ih a h1
    have h3 := UInt8.toNat_lt b
    simp only [Nat.reducePow] at h3
    rw [numB_append, List.length_append, List.length_singleton, Nat.pow_succ]
    omega
theorem takeS_len {l : List UInt8} {n : Nat} {s : RS} : (takeS l n s).1.length ≤ n := by
  unfold takeS; split
  · simp
  · split
    · simp
    · simp; omega
theorem numS_lt {l : List UInt8} {n : Nat} {s : RS} : (numS l n s).1 < 256 ^ n := Nat.lt_of_lt_of_le (numB_lt _) (Nat.pow_le_pow_right (by decide) takeS_len)
section
variable {h : Heap} {g : Nat} {l : List UInt8} {s : RS}
theorem Rdr.lt (H : Rdr h g l s) : g < h.size := (Array.getElem?_eq_some_iff.1 H.1).1
theorem Rdr.c0 (H : Rdr h g l s) : cellAt h ⟨g, 0, none⟩ = some (str l) := by rw [cellAt_of H.1]; rfl
theorem Rdr.c1 (H : Rdr h g l s) : cellAt h ⟨g, 1, none⟩ = some (.int .i64 (s.p : Int)) := by rw [cellAt_of H.1]; rfl
theorem Rdr.c2 (H : Rdr h g l s) : cellAt h ⟨g, 2, none⟩ = some (.int .i64 (s.e : Int)) := by rw [cellAt_of H.1]; rfl
theorem Rdr.c3 (H : Rdr h g l s) : cellAt h ⟨g, 3, none⟩ = some (.int .i64 (s.es : Int)) := by rw [cellAt_of H.1]; rfl
theorem Rdr.fr {S : Nat → Prop} {h' : Heap} (H : Rdr h g l s) (hf : Fr S h h') (hS : ¬ S g) : Rdr h' g l s := ⟨by rw [hf.same g H.lt hS, H.1], H.2⟩
end
end Go.Proofs.YtflocjbhcjhenaaGreatDoor
namespace Go.Proofs.YtflocjbhcjhenaaGreatDoor
open Go.Vc
set_option maxRecDepth 100000
def sgnN (x n : Nat) : Int := if 128 * 256 ^ (n - 1) ≤ x then (x : Int) - (256 ^ n : Nat) else (x : Int)
def sgnD (l : List UInt8) (n : Nat) (s : RS) : Int × RS := (sgnN (numS l n s).1 n, (numS l n s).2)
def padD (l : List UInt8) (at' : Nat) : Nat → RS → RS
  | 0, s => s
  | k + 1, s => if s.p % 4 = 0 ∨ s.e ≠ 0 then s else padD l at' k (if (numS l 1 s).1 ≠ 0 then failS 15 at' (numS l 1 s).2 else (numS l 1 s).2)
abbrev KT := List Int × List Int × RS
def keyD (f : Nat) (l : List UInt8) (at' : Nat) (ks : List Int) (s : RS) : List Int × RS :=
  if f = 11 then
    (ks ++ [(sgnD l 4 s).1], if ks ≠ [] ∧ (sgnD l 4 s).1 ≤ ks.getD (ks.length - 1) 0 then failS 15 at' (sgnD l 4 s).2 else (sgnD l 4 s).2)
  else (ks, s)
def rowsD (f : Nat) (l : List UInt8) (at' : Nat) : Nat → KT → KT
  | 0, c => c
  | r + 1, c => if c.2.2.e ≠ 0 then c else
    rowsD f l at' r ((keyD f l at' c.1 c.2.2).1, c.2.1 ++ [(at' : Int) + (sgnD l 4 (keyD f l at' c.1 c.2.2).2).1], (sgnD l 4 (keyD f l at' c.1 c.2.2).2).2)
def choD (x : In) (at' f : Nat) (l : List UInt8) (s : RS) : In × RS :=
  let t0 := sgnD l 4 (padD l at' 4 s)
  let n := sgnD l 4 t0.2
  if f = 10 then
    let hi := sgnD l 4 n.2
    if hi.1 < n.1 then ({ x with low := n.1, tgts := [(at' : Int) + t0.1] }, failS 15 at' hi.2)
    else
      let c := rowsD f l at' (hi.1 - n.1 + 1).toNat ([], [(at' : Int) + t0.1], hi.2)
      ({ x with low := n.1, keys := c.1, tgts := c.2.1 }, c.2.2)
  else if n.1 < 0 then ({ x with tgts := [(at' : Int) + t0.1] }, failS 15 at' n.2)
  else
    let c := rowsD f l at' n.1.toNat ([], [(at' : Int) + t0.1], n.2)
    ({ x with keys := c.1, tgts := c.2.1 }, c.2.2)
def opsD (x : In) (at' f : Nat) (l : List UInt8) (s : RS) : In × RS :=
  let sz := if x.wide = true then 2 else 1
  if f = 1 then (x, failS 14 at' s)
  else if f = 2 then ({ x with A := (sgnD l 1 s).1 }, (sgnD l 1 s).2)
  else if f = 3 then ({ x with A := (sgnD l 2 s).1 }, (sgnD l 2 s).2)
  else if f = 4 then ({ x with A := (numS l 1 s).1 }, (numS l 1 s).2)
  else if f = 5 then ({ x with A := (numS l 2 s).1 }, (numS l 2 s).2)
  else if f = 6 then ({ x with A := (numS l sz s).1 }, (numS l sz s).2)
  else if f = 7 then ({ x with A := (numS l sz s).1, B := (sgnD l sz (numS l sz s).2).1 }, (sgnD l sz (numS l sz s).2).2)
  else if f = 8 then ({ x with tgts := [(at' : Int) + (sgnD l 2 s).1] }, (sgnD l 2 s).2)
  else if f = 9 then ({ x with tgts := [(at' : Int) + (sgnD l 4 s).1] }, (sgnD l 4 s).2)
  else if f = 10 ∨ f = 11 then choD x at' f l s
  else if f = 12 then
    let a := numS l 2 s
    let b := numS l 1 a.2
    let c := numS l 1 b.2
    ({ x with A := a.1, B := b.1 }, if c.1 ≠ 0 ∨ b.1 = 0 then failS 15 at' c.2 else c.2)
  else if f = 13 then ({ x with A := (numS l 1 s).1 }, if (numS l 1 s).1 < 4 ∨ 11 < (numS l 1 s).1 then failS 15 at' (numS l 1 s).2 else (numS l 1 s).2)
  else if f = 14 then
    let a := numS l 2 s
    let b := numS l 1 a.2
    ({ x with A := a.1, B := b.1 }, if b.1 = 0 then failS 15 at' b.2 else b.2)
  else (x, s)
def ins0 (p op : Nat) (w : Bool) : In := ⟨p, op, w, 0, 0, 0, [], []⟩
def oneD (l : List UInt8) (s : RS) : In × RS :=
  let o := numS l 1 s
  if formS o.1 = 15 then
    let o2 := numS l 1 o.2
    if formS o2.1 ≠ 6 ∧ formS o2.1 ≠ 7 then (ins0 s.p o2.1 true, failS 14 s.p o2.2)
    else opsD (ins0 s.p o2.1 true) s.p (formS o2.1) l o2.2
  else opsD (ins0 s.p o.1 false) s.p (formS o.1) l o.2
def allD (l : List UInt8) : Nat → List In → RS → List In × RS
  | 0, xs, s => (xs, s)
  | k + 1, xs, s => if s.p < l.length ∧ s.e = 0 then allD l k (xs ++ [(oneD l s).1]) (oneD l s).2 else (xs, s)
def badT (n : Nat) (ats : List Int) (t : Int) : Bool := !(decide (0 ≤ t) && decide (t < n) && ats.contains t)
def tgtsD (n : Nat) (ats : List Int) (a : Nat) : List Int → RS → RS
  | [], s => s
  | t :: r, s => tgtsD n ats a r (if badT n ats t = true then failS 16 a s else s)
def chkD (n : Nat) (ats : List Int) : List In → RS → RS
  | [], s => s
  | x :: r, s => chkD n ats r (tgtsD n ats x.at'.toNat x.tgts s)
def endD (l : List UInt8) (r : List In × RS) : List In × Nat × Nat :=
  let s := chkD l.length (r.1.map In.at') r.1 r.2
  if s.e ≠ 0 then ([], s.e, s.es) else (r.1, 0, 0)
def decD (l : List UInt8) : List In × Nat × Nat :=
  if l.length = 0 ∨ 65535 < l.length then ([], 12, 0) else endD l (allD l l.length [] ⟨0, 0, 0⟩)
def Ok (l : List UInt8) (s s' : RS) : Prop := s.p ≤ s'.p ∧ (s.p ≤ l.length → s'.p ≤ l.length) ∧ (s'.e ≤ 16 ∨ s'.e = s.e) ∧ (s'.es ≤ l.length ∨ s'.es = s.es)
theorem Ok.refl (l : List UInt8) (s : RS) : Ok l s s := ⟨Nat.le_refl _, id, Or.inr rfl, Or.inr rfl⟩
theorem Ok.trans {l : List UInt8} {a b c : RS} (H : Ok l a b) (K : Ok l b c) : Ok l a c := by
  obtain ⟨h1, h2, h3, h4⟩ := H
  obtain ⟨k1, k2, k3, k4⟩ := K
  refine ⟨by omega, fun h => k2 (h2 h), ?_, ?_⟩
  · rcases k3 with k | k
    · exact Or.inl k
    · rw [k]; exact h3
  · rcases k4 with k | k
    · exact Or.inl k
    · rw [k]; exact h4
theorem ok_fail (l : List UInt8) (e q : Nat) (s : RS) (he : e ≤ 16) (hq : q ≤ l.length) : Ok l s (failS e q s) := by
  unfold failS
  split
  · exact ⟨Nat.le_refl _, id, Or.inl he, Or.inl hq⟩
  · exact Ok.refl _ _
theorem ok_num (l : List UInt8) (n : Nat) (s : RS) : Ok l s (numS l n s).2 := by
  unfold numS takeS
  split
  · exact Ok.refl _ _
  · rename_i he
    have h0 : s.e = 0 := by omega
    split
    · exact ⟨Nat.le_refl _, id, Or.inl (show 1 ≤ 16 by decide), Or.inl (Nat.le_refl _)⟩
    · exact ⟨Nat.le_add_right _ _, fun _ => by simp only; omega, Or.inl (show 0 ≤ 16 by decide), Or.inr rfl⟩
theorem ok_sgn (l : List UInt8) (n : Nat) (s : RS) : Ok l s (sgnD l n s).2 := ok_num l n s
theorem ok_ite (l : List UInt8) (s a b : RS) (c : Prop) [Decidable c] (h1 : Ok l s a) (h2 : Ok l s b) : Ok l s (if c then a else b) := by
  split <;> assumption
theorem ok_pad (l : List UInt8) (at' : Nat) (ha : at' ≤ l.length) : ∀ (k : Nat) (s : RS), Ok l s (padD l at' k s) := by
  intro k
  induction k with
  | zero => intro s; exact Ok.refl _ _
  | succ k ih =>
    intro s
    rw [padD]
    split
    · exact Ok.refl _ _
    · refine Ok.trans (ok_ite l s _ _ _ ((ok_num l 1 s).trans (ok_fail l 15 at' _ (by decide) ha)) (ok_num l 1 s)) (ih _)
theorem ok_key (f : Nat) (l : List UInt8) (at' : Nat) (ha : at' ≤ l.length) (ks : List Int) (s : RS) : Ok l s (keyD f l at' ks s).2 := by
  unfold keyD
  split
  · exact ok_ite l s _ _ _ ((ok_sgn l 4 s).trans (ok_fail l 15 at' _ (by decide) ha)) (ok_sgn l 4 s)
  · exact Ok.refl _ _
theorem ok_rows (f : Nat) (l : List UInt8) (at' : Nat) (ha : at' ≤ l.length) : ∀ (r : Nat) (c : KT), Ok l c.2.2 (rowsD f l at' r c).2.2 := by
  intro r
  induction r with
  | zero => intro c; exact Ok.refl _ _
  | succ r ih =>
    intro c
    rw [rowsD]
    split
    · exact Ok.refl _ _
    · exact ((ok_key f l at' ha c.1 c.2.2).trans (ok_sgn l 4 _)).trans (ih ((keyD f l at' c.1 c.2.2).1, c.2.1 ++ [(at' : Int) + (sgnD l 4 (keyD f l at' c.1 c.2.2).2).1], (sgnD l 4 (keyD f l at' c.1 c.2.2).2).2))
theorem ok_cho (x : In) (at' f : Nat) (l : List UInt8) (s : RS) (ha : at' ≤ l.length) : Ok l s (choD x at' f l s).2 := by
  have h1 := ((ok_pad l at' ha 4 s).trans (ok_sgn l 4 _)).trans (ok_sgn l 4 _)
  unfold choD
  simp only
  split
  · have h2 := h1.trans (ok_sgn l 4 _)
    split
    · exact h2.trans (ok_fail l 15 at' _ (by decide) ha)
    · exact h2.trans (ok_rows f l at' ha _ ([], _, _))
  · split
    · exact h1.trans (ok_fail l 15 at' _ (by decide) ha)
    · exact h1.trans (ok_rows f l at' ha _ ([], _, _))
theorem ok_ops (x : In) (at' f : Nat) (l : List UInt8) (s : RS) (ha : at' ≤ l.length) : Ok l s (opsD x at' f l s).2 := by
  have hi : ∀ (c : Prop) [Decidable c] (y z : In × RS), Ok l s y.2 → Ok l s z.2 → Ok l s (if c then y else z).2 := by
    intro c _ y z hy hz
    split <;> assumption
  unfold opsD
  simp only
  refine hi _ _ _ (ok_fail l 14 at' _ (by decide) ha) (hi _ _ _ (ok_sgn ..) (hi _ _ _ (ok_sgn ..) (hi _ _ _ (ok_num ..) (hi _ _ _ (ok_num ..) (hi _ _ _ (ok_num ..) (hi _ _ _ ((ok_num ..).trans (ok_sgn ..)) (hi _ _ _ (ok_sgn ..) (hi _ _ _ (ok_sgn ..) (hi _ _ _ (ok_cho x at' f l s ha) (hi _ _ _ ?_ (hi _ _ _ ?_ (hi _ _ _ ?_ (Ok.refl _ _)))))))))))))
  · have h1 := ((ok_num l 2 s).trans (ok_num l 1 _)).trans (ok_num l 1 _)
    exact ok_ite l s _ _ _ (h1.trans (ok_fail l 15 at' _ (by decide) ha)) h1
  · exact ok_ite l s _ _ _ ((ok_num l 1 s).trans (ok_fail l 15 at' _ (by decide) ha)) (ok_num l 1 s)
  · have h1 := (ok_num l 2 s).trans (ok_num l 1 _)
    exact ok_ite l s _ _ _ (h1.trans (ok_fail l 15 at' _ (by decide) ha)) h1
theorem num_step (l : List UInt8) (s : RS) (h1 : s.p < l.length) (h2 : s.e = 0) : (numS l 1 s).2.p = s.p + 1 ∧ (numS l 1 s).2.e = 0 := by
  unfold numS takeS
  rw [if_neg (by omega), if_neg (by omega)]
  exact ⟨rfl, rfl⟩
theorem ok_one (l : List UInt8) (s : RS) (ha : s.p ≤ l.length) : Ok l s (oneD l s).2 ∧ (s.p < l.length → s.e = 0 → s.p + 1 ≤ (oneD l s).2.p) := by
  have key : ∀ r : RS, Ok l (numS l 1 s).2 r → Ok l s r ∧ (s.p < l.length → s.e = 0 → s.p + 1 ≤ r.p) := by
    intro r hr
    refine ⟨(ok_num l 1 s).trans hr, fun h1 h2 => ?_⟩
    have := (num_step l s h1 h2).1
    have := hr.1
    omega
  unfold oneD
  simp only
  split
  · split
    · exact key _ ((ok_num l 1 _).trans (ok_fail l 14 s.p _ (by decide) ha))
    · exact key _ ((ok_num l 1 _).trans (ok_ops _ s.p _ l _ ha))
  · exact key _ (ok_ops _ s.p _ l _ ha)
end Go.Proofs.YtflocjbhcjhenaaGreatDoor
namespace Go.Proofs.YtflocjbhcjhenaaGreatDoor
open Go.Vc
set_option maxRecDepth 100000
section
variable {h : Heap} {g : Nat} {l : List UInt8} {s : RS}
theorem newReader_any (l : List UInt8) (h : Heap) : HCalls Tryz.prog 68 #[str l] h fun v h' => Ext h h' ∧ v = .pointer (some ⟨h.size, 0, none⟩) ∧ Rdr h' h.size l ⟨0, 0, 0⟩ ∧ h.size < h'.size := by
  refine C.pool_NewReader_calls (args := [str l]) rfl ?_
  simp only [C.pool_NewReader_gos, T.tv, seval]
  refine eff_box ?_
  simp only [T.tv, seval]
  exact ⟨Ext.push _ _, ⟨by simp, Nat.zero_le _⟩, by simp⟩
theorem err_any (H : Rdr h g l s) : HCalls Tryz.prog 74 #[.pointer (some ⟨g, 0, none⟩)] h fun v h' => h' = h ∧ v = .tuple #[.int .i64 s.e, .int .i64 s.es] := by
  refine C.Reader_Err_calls (args := [.pointer (some ⟨g, 0, none⟩)]) rfl ?_
  have c2 := H.c2
  have c3 := H.c3
  simp only [C.Reader_Err_gos, T.tv, seval, c2, c3]
theorem at_any (H : Rdr h g l s) : HCalls Tryz.prog 71 #[.pointer (some ⟨g, 0, none⟩)] h fun v h' => h' = h ∧ v = .int .i64 s.p := by
  refine C.Reader_At_calls (args := [.pointer (some ⟨g, 0, none⟩)]) rfl ?_
  have c1 := H.c1
  simp only [C.Reader_At_gos, T.tv, seval, c1]
theorem bad_any (H : Rdr h g l s) : HCalls Tryz.prog 70 #[.pointer (some ⟨g, 0, none⟩)] h fun v h' => h' = h ∧ v = .bool (decide (s.e ≠ 0)) := by
  refine C.Reader_Bad_calls (args := [.pointer (some ⟨g, 0, none⟩)]) rfl ?_
  have c2 := H.c2
  have hd : decide ¬ (s.e : Int) = 0 = decide ¬ s.e = 0 := by simp
  simp only [C.Reader_Bad_gos, T.tv, seval, c2, hd]
theorem left_any (hl : l.length ≤ 1073741824) (H : Rdr h g l s) : HCalls Tryz.prog 69 #[.pointer (some ⟨g, 0, none⟩)] h fun v h' => h' = h ∧ v = .int .i64 ((l.length - s.p : Nat) : Int) := by
  refine C.Reader_Left_calls (args := [.pointer (some ⟨g, 0, none⟩)]) rfl ?_
  have c0 := H.c0
  have c1 := H.c1
  have h2 := H.2
  have e : (l.length : Int) - (s.p : Int) = ((l.length - s.p : Nat) : Int) := by omega
  simp (disch := omega) only [C.Reader_Left_gos, T.tv, seval, c0, c1, e]
theorem fail_any (e q : Nat) (H : Rdr h g l s) : HCalls Tryz.prog 73 #[.pointer (some ⟨g, 0, none⟩), .int .i64 e, .int .i64 q] h fun v h' => Fr (fun k => k = g) h h' ∧ Rdr h' g l (failS e q s) := by
  refine C.Reader_Fail_calls (args := [.pointer (some ⟨g, 0, none⟩), .int .i64 e, .int .i64 q]) rfl ?_
  have c2 := H.c2
  by_cases he : s.e = 0
  · have he' : (s.e : Int) = 0 := by omega
    simp only [C.Reader_Fail_gos, T.tv, seval, c2, eq_true he']
    refine eff_store1_z T.zr_31 rfl rfl rfl rfl rfl (u := .int .i64 s.e) c2 ?_ ?_
    · simp [frozenAt, H.1]
    have b1 := setAt_get (o := 2) H.1 (.int .i64 (e : Int))
    simp only [T.tv, seval]
    have hc : cellAt (setAt h ⟨g, 2, none⟩ (.int .i64 (e : Int))) ⟨g, 3, none⟩ = some (.int .i64 s.es) := by rw [cellAt_of b1]; rfl
    refine eff_store1_z T.zr_3 rfl rfl rfl rfl rfl (u := .int .i64 s.es) hc ?_ ?_
    · simp [frozenAt, b1]
    have b2 := setAt_get (o := 3) b1 (.int .i64 (q : Int))
    simp only [T.tv]
    refine ⟨Fr.trans (Fr.set (S := fun k => k = g) _ _ _ fun _ => rfl) (Fr.set (S := fun k => k = g) _ _ _ fun _ => rfl) (fun _ _ h => h) (fun _ _ h => h), ?_⟩
    unfold failS
    rw [if_pos he]
    exact ⟨b2, H.2⟩
  · have he' : ¬ (s.e : Int) = 0 := by omega
    simp only [C.Reader_Fail_gos, T.tv, seval, c2, eq_false he']
    unfold failS
    rw [if_neg he]
    exact ⟨Fr.refl _ _, H⟩
theorem take_any (n : Nat) (hl : l.length ≤ 1073741824) (hn : n ≤ 1099511627776) (H : Rdr h g l s) : HCalls Tryz.prog 111 #[.pointer (some ⟨g, 0, none⟩), .int .i64 n] h fun v h' => Fr (fun k => k = g) h h' ∧ Rdr h' g l (takeS l n s).2 ∧ v = str (takeS l n s).1 := by
  refine C.Reader_Take_calls (args := [.pointer (some ⟨g, 0, none⟩), .int .i64 n]) rfl ?_
  simp only [C.Reader_Take_gos, T.tv, seval]
  refine eff_callF rfl ((bad_any H).mono ?_)
  rintro v1 h1 ⟨rfl, rfl⟩
  by_cases he : s.e = 0
  · have h2 := H.2
    have n0 : ¬ (n : Int) < 0 := by omega
    simp only [C.Reader_Take_gos, T.tv, seval, he]
    simp only [T.tv, n0, seval]
    refine eff_callF rfl ((left_any hl H).mono ?_)
    rintro v2 h3 ⟨rfl, rfl⟩
    have c0 := H.c0
    have c1 := H.c1
    by_cases hlt : l.length < s.p + n
    · have q : (((l.length - s.p : Nat) : Int)) < (n : Int) := by omega
      simp only [C.Reader_Take_gos, T.tv, seval, q, c0]
      refine eff_callF rfl ((fail_any 1 l.length H).mono ?_)
      rintro v4 h4 ⟨f4, r4⟩
      simp only [C.Reader_Take_gos, T.tv, seval]
      unfold takeS
      unfold failS at r4
      rw [if_pos he] at r4
      rw [if_neg (by simp [he]), if_pos hlt]
      exact ⟨f4, r4, rfl⟩
    · have q : ¬ (((l.length - s.p : Nat) : Int)) < (n : Int) := by omega
      simp (disch := omega) only [C.Reader_Take_gos, T.tv, seval, q, c0, c1]
      refine eff_store1_z T.zr_3 rfl rfl rfl rfl rfl (u := .int .i64 s.p) c1 ?_ ?_
      · simp [frozenAt, H.1]
      have b1 := setAt_get (o := 1) H.1 (.int .i64 ((s.p : Int) + (n : Int)))
      simp only [C.Reader_Take_gos, T.tv, seval]
      unfold takeS
      rw [if_neg (by simp [he]), if_neg hlt]
      refine ⟨Fr.set (S := fun k => k = g) _ _ _ fun _ => rfl, ⟨?_, by simp only; omega⟩, ?_⟩
      · rw [he] at b1; exact b1
      · have e1 : ((s.p : Int) + (n : Int)).toNat = s.p + n := by omega
        rw [e1, List.drop_take, Nat.add_sub_cancel_left]
  · have he' : (decide (s.e ≠ 0)) = true := by simp [he]
    simp only [C.Reader_Take_gos, T.tv, seval, he']
    unfold takeS
    rw [if_pos he]
    exact ⟨Fr.refl _ _, H, rfl⟩
theorem bits_or_i64 (a b : Nat) (ha : a < 9223372036854775808) (hb : b < 9223372036854775808) : bitsV .or .i64 (a : Int) (b : Int) = ((a ||| b : Nat) : Int) := by
  have h1 : (BitVec.ofInt 64 (a : Int)) = BitVec.ofNat 64 a := by simp
  have h2 : (BitVec.ofInt 64 (b : Int)) = BitVec.ofNat 64 b := by simp
  have h3 : a ||| b < 9223372036854775808 := Nat.or_lt_two_pow (n := 63) ha hb
  show IntKind.i64.wrap (((BitVec.ofInt 64 (a : Int) ||| BitVec.ofInt 64 (b : Int)).toNat : Nat) : Int) = _
  rw [h1, h2, BitVec.toNat_or, BitVec.toNat_ofNat, BitVec.toNat_ofNat]
  rw [Nat.mod_eq_of_lt (by omega), Nat.mod_eq_of_lt (by omega), wrap_i64 (by omega) (by omega)]
theorem shl_or {x : Nat} (hx : x < 36028797018963968) (b : UInt8) : bitsV .or .i64 ((x : Int) * 256) (b.toNat : Int) = ((x * 256 + b.toNat : Nat) : Int) := by
  have hb := UInt8.toNat_lt b
  simp only [Nat.reducePow] at hb
  have h := bits_or_i64 (x * 256) b.toNat (by omega) (by omega)
  have h2 : x * 256 ||| b.toNat = x * 256 + b.toNat := or_add 8 x b.toNat (by omega)
  rw [h2] at h
  rw [← h, Int.natCast_mul]; rfl
set_option maxHeartbeats 1000000 in
theorem num_any (n : Nat) (hl : l.length ≤ 1073741824) (hn : n ≤ 7) (H : Rdr h g l s) : HCalls Tryz.prog 87 #[.pointer (some ⟨g, 0, none⟩), .int .i64 n] h fun v h' => Fr (fun k => k = g) h h' ∧ Rdr h' g l (numS l n s).2 ∧ v = .int .i64 (numS l n s).1 := by
  refine C.Reader_Num_calls (args := [.pointer (some ⟨g, 0, none⟩), .int .i64 n]) rfl ?_
  simp only [C.Reader_Num_gos, T.tv, seval]
  refine eff_callF rfl ((take_any n hl (by omega) H).mono ?_)
  rintro v1 h1 ⟨f1, r1, rfl⟩
  have ht : (takeS l n s).1.length ≤ n := takeS_len
  unfold numS
  generalize takeS l n s = tk at *
  obtain ⟨bs, s'⟩ := tk
  simp only at r1 ht ⊢
  simp only [T.tv]
  refine eff_bytes_of (base := h1.size) Tryz.underlying9 Tryz.underlying136 Tryz.underlying5 rfl (Nat.le_refl _) (by omega) ?_
  intro sv h2 own2 x2
  obtain ⟨a, c, rfl, _⟩ := own2.sl
  have hbl : (bytesV bs).length = bs.length := by simp [bytesV]
  rw [hbl] at own2 ⊢
  have f2 : Fr (fun k => k = g) h h2 := Fr.trans f1 x2 (fun _ _ h => h) (fun _ _ h => h.elim)
  simp only [T.tv, seval]
  refine loop_intro [0, 1, 5, 11, 12, 13] (fun m ρ hc => ∃ i : Nat, m = bs.length - i ∧ i ≤ bs.length ∧
      ρ = [(0, .pointer (some ⟨g, 0, none⟩)), (1, .int .i64 n), (5, .int .i64 (numB (bs.take i))), (11, .slice a bs.length c), (12, .int .i64 bs.length), (13, .int .i64 i)] ∧ hc = h2) ?_ ?_
  · simp only [T.tv, seval]
    exact ⟨_, 0, rfl, Nat.zero_le _, by simp [numB]⟩
  · rintro m ρ hc ⟨i, rfl, hi, rfl, rfl⟩
    rcases Nat.lt_or_ge i bs.length with hlt | hge
    · have hlt' : (i : Int) < bs.length := by omega
      obtain ⟨b, o, c', heq, hb, hcell⟩ := own2.sl.at (i := i) (by rw [hbl]; exact hlt)
      rw [hbl] at heq
      cases heq
      have hg : (bytesV bs).getD i undef = .int .u8 ((bs.getD i 0).toNat : Int) := by simp [bytesV, hlt]
      rw [hg] at hcell
      have hx := numB_lt (bs.take i)
      have hp : 256 ^ (bs.take i).length ≤ 256 ^ 6 := Nat.pow_le_pow_right (by decide) (by simp; omega)
      have hx2 : numB (bs.take i) < 281474976710656 := by
        have : (256 : Nat) ^ 6 = 281474976710656 := by decide
        omega
      have hsh := shl_or (x := numB (bs.take i)) (by omega) (bs.getD i 0)
      have hb8 := UInt8.toNat_lt (bs.getD i 0)
      simp only [Nat.reducePow] at hb8
      have hst : numB (bs.take (i + 1)) = numB (bs.take i) * 256 + (bs.getD i 0).toNat := by
        rw [List.take_succ_eq_append_getElem hlt, numB_append]; simp [hlt]
      simp (disch := omega) only [C.Reader_Num_gos, T.tv, seval, hlt', hcell, hsh]
      exact ⟨bs.length - (i + 1), by omega, i + 1, rfl, by omega, by rw [hst]; rfl⟩
    · have hlt' : ¬ (i : Int) < bs.length := by omega
      have hin : i = bs.length := by omega
      subst hin
      simp only [C.Reader_Num_gos, T.tv, seval, hlt']
      rw [List.take_length]
      exact ⟨f2, r1.fr x2 id, rfl⟩
end
end Go.Proofs.YtflocjbhcjhenaaGreatDoor
namespace Go.Proofs.YtflocjbhcjhenaaGreatDoor
open Go.Vc
set_option maxRecDepth 100000
set_option maxHeartbeats 1000000 in
theorem sign_any (x n : Nat) (hn : n = 1 ∨ n = 2 ∨ n = 4) (hx : x < 256 ^ n) (h : Heap) :
    HCalls Tryz.prog 112 #[.int .i64 x, .int .i64 n] h fun v h' => h' = h ∧ v = .int .i64 (sgnN x n) := by
  refine C.code_sign_calls (args := [.int .i64 x, .int .i64 n]) rfl ?_
  rcases hn with rfl | rfl | rfl
  · have hx : x < 256 := hx
    rw [show ((1 : Nat) : Int) = 1 from rfl]
    by_cases g : 128 ≤ x
    · have g' : (128 : Int) ≤ x := by omega
      have e : sgnN x 1 = (x : Int) - 256 := by unfold sgnN; rw [if_pos (by simpa using g)]; rfl
      rw [e]
      simp (disch := omega) only [C.code_sign_gos, T.tv, seval, g', Int.reduceMul, Int.reduceSub]
    · have g' : ¬ (128 : Int) ≤ x := by omega
      have e : sgnN x 1 = (x : Int) := by unfold sgnN; rw [if_neg (by simpa using g)]
      rw [e]
      simp (disch := omega) only [C.code_sign_gos, T.tv, seval, g', Int.reduceMul, Int.reduceSub]
  · have hx : x < 65536 := hx
    rw [show ((2 : Nat) : Int) = 2 from rfl]
    by_cases g : 32768 ≤ x
    · have g' : (32768 : Int) ≤ x := by omega
      have e : sgnN x 2 = (x : Int) - 65536 := by unfold sgnN; rw [if_pos (by simpa using g)]; rfl
      rw [e]
      simp (disch := omega) only [C.code_sign_gos, T.tv, seval, g', Int.reduceMul, Int.reduceSub]
    · have g' : ¬ (32768 : Int) ≤ x := by omega
      have e : sgnN x 2 = (x : Int) := by unfold sgnN; rw [if_neg (by simpa using g)]
      rw [e]
      simp (disch := omega) only [C.code_sign_gos, T.tv, seval, g', Int.reduceMul, Int.reduceSub]
  · have hx : x < 4294967296 := hx
    rw [show ((4 : Nat) : Int) = 4 from rfl]
    by_cases g : 2147483648 ≤ x
    · have g' : (2147483648 : Int) ≤ x := by omega
      have e : sgnN x 4 = (x : Int) - 4294967296 := by unfold sgnN; rw [if_pos (by simpa using g)]; rfl
      rw [e]
      simp (disch := omega) only [C.code_sign_gos, T.tv, seval, g', Int.reduceMul, Int.reduceSub]
    · have g' : ¬ (2147483648 : Int) ≤ x := by omega
      have e : sgnN x 4 = (x : Int) := by unfold sgnN; rw [if_neg (by simpa using g)]
      rw [e]
      simp (disch := omega) only [C.code_sign_gos, T.tv, seval, g', Int.reduceMul, Int.reduceSub]
theorem sgnN_fit (x n : Nat) (hn : n = 1 ∨ n = 2 ∨ n = 4) (hx : x < 256 ^ n) : -2147483648 ≤ sgnN x n ∧ sgnN x n < 2147483648 := by
  unfold sgnN
  rcases hn with rfl | rfl | rfl
  · have hx : x < 256 := hx
    split <;> simp <;> omega
  · have hx : x < 65536 := hx
    split <;> simp <;> omega
  · have hx : x < 4294967296 := hx
    have : (128 * 256 ^ (4 - 1) : Nat) = 2147483648 := rfl
    have h2 : ((256 ^ 4 : Nat) : Int) = 4294967296 := rfl
    rw [h2]
    split <;> omega
theorem sgnD_fit (l : List UInt8) (n : Nat) (s : RS) (hn : n = 1 ∨ n = 2 ∨ n = 4) : -2147483648 ≤ (sgnD l n s).1 ∧ (sgnD l n s).1 < 2147483648 := sgnN_fit _ n hn numS_lt
section
variable {h : Heap} {g : Nat} {l : List UInt8} {s : RS}
set_option maxHeartbeats 1000000 in
theorem dsgn_any (n : Nat) (hn : n = 1 ∨ n = 2 ∨ n = 4) (hl : l.length ≤ 1073741824) (H : Rdr h g l s) :
    HCalls Tryz.prog 89 #[.agg #[.pointer (some ⟨g, 0, none⟩)], .int .i64 n] h fun v h' => Fr (fun k => k = g) h h' ∧ Rdr h' g l (sgnD l n s).2 ∧ v = .int .i64 (sgnD l n s).1 := by
  refine C.dec_signed_calls (args := [.agg #[.pointer (some ⟨g, 0, none⟩)], .int .i64 n]) rfl ?_
  have hgl := H.lt
  simp only [C.dec_signed_gos, T.tv]
  refine eff_box ?_
  have E := Ext.push h (.cells #[.pointer (some ⟨g, 0, none⟩)] 110)
  have H1 := H.fr E id
  have c0 : cellAt (h.push (.cells #[.pointer (some ⟨g, 0, none⟩)] 110)) ⟨h.size, 0, none⟩ = some (.pointer (some ⟨g, 0, none⟩)) := by rw [cellAt_push_new]; rfl
  simp only [C.dec_signed_gos, T.tv, seval, c0]
  generalize h.push (.cells #[.pointer (some ⟨g, 0, none⟩)] 110) = h1 at *
  refine eff_callF rfl ((num_any n hl (by omega) H1).mono ?_)
  rintro v2 h2 ⟨f2, r2, rfl⟩
  simp only [T.tv, seval]
  refine eff_callF rfl ((sign_any _ n hn numS_lt h2).mono ?_)
  rintro v3 h3 ⟨rfl, rfl⟩
  simp only [T.tv, seval]
  exact ⟨Fr.trans E f2 (fun _ _ h => h.elim) (fun _ _ h => h), r2, rfl⟩
end
def XR (h : Heap) (base q : Nat) (x : In) : Prop := ∃ vk vt, h[q]? = some (.cells (InV x vk vt).toArray 98 (0, 0)) ∧ Own h base 3 1 vk x.keys.length (intsV x.keys) ∧ Own h base 3 1 vt x.tgts.length (intsV x.tgts) ∧ ∀ k, vk.ownBlock = some k → ¬ vt.ownBlock = some k
theorem XR.fr {S : Nat → Prop} {h h' : Heap} {base q : Nat} {x : In} (H : XR h base q x) (hf : Fr S h h') (hq : ¬ S q) (hS : ∀ k, k < h.size → S k → (∃ cs t fz, h[k]? = some (.cells cs t fz) ∧ t ≠ 3)) : XR h' base q x := by
  obtain ⟨vk, vt, h1, h2, h3, h4⟩ := H
  refine ⟨vk, vt, Fr_blk hf h1 hq, h2.fr hf ?_, h3.fr hf ?_, h4⟩
  · intro k hk hs
    obtain ⟨cs, t, fz, e1, e2⟩ := hS k (h2.lt k hk).2 hs
    exact Own_ne h2 e1 (Ne.symm e2) hk
  · intro k hk hs
    obtain ⟨cs, t, fz, e1, e2⟩ := hS k (h3.lt k hk).2 hs
    exact Own_ne h3 e1 (Ne.symm e2) hk
theorem XR.lt {h : Heap} {base q : Nat} {x : In} (H : XR h base q x) : q < h.size := by
  obtain ⟨vk, vt, h1, _⟩ := H
  exact (Array.getElem?_eq_some_iff.1 h1).1
structure DS (h h' : Heap) (g q bd : Nat) (l : List UInt8) (x : In) (s : RS) : Prop where
  fr : Fr (fun k => k = g ∨ k = q) h h'
  rd : Rdr h' g l s
  xr : XR h' h.size q x
  bx : h'[bd]? = some (.cells #[.pointer (some ⟨g, 0, none⟩)] 110 (0, 0))
theorem Rdr.notint {h : Heap} {g : Nat} {l : List UInt8} {s : RS} (H : Rdr h g l s) : ∃ cs t fz, h[g]? = some (.cells cs t fz) ∧ t ≠ 3 := ⟨_, _, _, H.1, by decide⟩
section
variable {h h1 h2 : Heap} {g q bd : Nat} {l : List UInt8} {x : In} {s s' : RS}
theorem DS.gq (H : DS h h1 g q bd l x s) : q ≠ g ∧ bd ≠ g ∧ bd ≠ q := by
  obtain ⟨vk, vt, k1, _⟩ := H.xr
  have k2 := H.rd.1
  have k3 := H.bx
  refine ⟨?_, ?_, ?_⟩
  · intro e; subst e; rw [k1] at k2; cases k2
  · intro e; subst e; rw [k3] at k2; cases k2
  · intro e; subst e; rw [k3] at k1; cases k1
theorem DS.step (H : DS h h1 g q bd l x s) (f : Fr (fun k => k = g) h1 h2) (r : Rdr h2 g l s') : DS h h2 g q bd l x s' := by
  obtain ⟨e1, e2, _⟩ := H.gq
  refine ⟨Fr.trans H.fr f (fun _ _ h => h) (fun _ _ h => Or.inl h), r, H.xr.fr f e1 ?_, Fr_blk f H.bx e2⟩
  intro k hk hs
  subst hs
  exact H.rd.notint
theorem DS.cells (H : DS h h1 g q bd l x s) : cellAt h1 ⟨q, 0, none⟩ = some (.int .i64 x.at') ∧ cellAt h1 ⟨q, 1, none⟩ = some (.int .u8 (x.op : Int)) ∧ cellAt h1 ⟨q, 2, none⟩ = some (.bool x.wide) ∧ cellAt h1 ⟨q, 3, none⟩ = some (.int .i64 x.A) ∧ cellAt h1 ⟨q, 4, none⟩ = some (.int .i64 x.B) ∧ cellAt h1 ⟨q, 5, none⟩ = some (.int .i64 x.low) ∧ cellAt h1 ⟨bd, 0, none⟩ = some (.pointer (some ⟨g, 0, none⟩)) ∧ ld Tryz.prog 110 ⟨bd, 0, none⟩ h1 = some (.agg #[.pointer (some ⟨g, 0, none⟩)]) := by
  obtain ⟨vk, vt, k1, _⟩ := H.xr
  refine ⟨by rw [cellAt_of k1]; rfl, by rw [cellAt_of k1]; rfl, by rw [cellAt_of k1]; rfl, by rw [cellAt_of k1]; rfl, by rw [cellAt_of k1]; rfl, by rw [cellAt_of k1]; rfl, by rw [cellAt_of H.bx]; rfl, ?_⟩
  exact ld_agg T.ag_110 (vs := [.pointer (some ⟨g, 0, none⟩)]) (fun j v hv => by rw [cellAt_of H.bx, Nat.zero_add]; simpa using hv) rfl
theorem DS.set (H : DS h h1 g q bd l x s) (o : Nat) (v : Value) (x' : In) (hk : x'.keys = x.keys) (ht : x'.tgts = x.tgts) (hv : ∀ vk vt, (InV x vk vt).toArray.setIfInBounds o v = (InV x' vk vt).toArray) :
    DS h (setAt h1 ⟨q, o, none⟩ v) g q bd l x' s := by
  obtain ⟨e1, e2, e3⟩ := H.gq
  obtain ⟨vk, vt, k1, k2, k3, k4⟩ := H.xr
  have f : Fr (fun k => k = q) h1 (setAt h1 ⟨q, o, none⟩ v) := Fr.set (S := fun k => k = q) _ _ _ fun _ => rfl
  have b1 := setAt_get (o := o) k1 v
  rw [hv] at b1
  refine ⟨Fr.trans H.fr f (fun _ _ h => h) (fun _ _ h => Or.inr h), H.rd.fr f (Ne.symm e1), ⟨vk, vt, b1, ?_, ?_, k4⟩, Fr_blk f H.bx e3⟩
  · rw [hk]; exact k2.fr f fun k hk hS => by subst hS; exact Own_ne k2 k1 (by decide) hk
  · rw [ht]; exact k3.fr f fun k hk hS => by subst hS; exact Own_ne k3 k1 (by decide) hk
theorem DS.notfz (H : DS h h1 g q bd l x s) (o : Nat) : frozenAt h1 ⟨q, o, none⟩ = false := by
  obtain ⟨vk, vt, k1, _⟩ := H.xr
  simp [frozenAt, k1]
theorem DS.size (H : DS h h1 g q bd l x s) : h.size ≤ h1.size := H.fr.size
theorem DS.tg1 (H : DS h h1 g q bd l x s) (n : Int) :
    DS h (setAt (h1.push (.cells #[.int .i64 n] 3)) ⟨q, 7, none⟩ (.slice (some ⟨h1.size, 0, none⟩) 1 1)) g q bd l { x with tgts := [n] } s := by
  obtain ⟨e1, e2, e3⟩ := H.gq
  obtain ⟨vk, vt, k1, k2, k3, k4⟩ := H.xr
  have E := Ext.push h1 (.cells #[.int .i64 n] 3)
  have hs := H.size
  have f : Fr (fun k => k = q) (h1.push (.cells #[.int .i64 n] 3)) (setAt (h1.push (.cells #[.int .i64 n] 3)) ⟨q, 7, none⟩ (.slice (some ⟨h1.size, 0, none⟩) 1 1)) := Fr.set (S := fun k => k = q) _ _ _ fun _ => rfl
  have k1' := push_blk (o' := .cells #[.int .i64 n] 3) k1
  have b1 := setAt_get (o := 7) k1' (.slice (some ⟨h1.size, 0, none⟩) 1 1)
  have own1 : Own (h1.push (.cells #[.int .i64 n] 3)) h.size 3 1 (.slice (some ⟨h1.size, 0, none⟩) 1 1) 1 [.int .i64 n] := Own.new (vs := [.int .i64 n]) rfl (by decide) hs
  refine ⟨Fr.trans (Fr.trans H.fr E (fun _ _ h => h) (fun _ _ h => h.elim)) f (fun _ _ h => h) (fun _ _ h => Or.inr h), (H.rd.fr E id).fr f (Ne.symm e1), ⟨vk, _, b1, ?_, ?_, ?_⟩, Fr_blk f (Fr_blk E H.bx id) e3⟩
  · exact (k2.ext E).fr f fun k hk hS => by subst hS; exact Own_ne (k2.ext E) k1' (by decide) hk
  · exact own1.fr f fun k hk hS => by subst hS; exact Own_ne own1 k1' (by decide) hk
  · intro k hk hk2
    simp only [Value.ownBlock, Option.some.injEq] at hk2
    have := (k2.lt k hk).2
    omega
end
end Go.Proofs.YtflocjbhcjhenaaGreatDoor
namespace Go.Proofs.YtflocjbhcjhenaaGreatDoor
open Go.Vc
set_option maxRecDepth 100000
section
variable {h h1 h2 : Heap} {g q bd : Nat} {l : List UInt8} {x : In} {s s' : RS}
theorem DS.addK (H : DS h h1 g q bd l x s) {vk vt v2 : Value} {n : Int} (hq : h1[q]? = some (.cells (InV x vk vt).toArray 98 (0, 0))) (ownk : Own h1 h.size 3 1 vk x.keys.length (intsV x.keys)) (ownt : Own h1 h.size 3 1 vt x.tgts.length (intsV x.tgts))
    (disj : ∀ k, vk.ownBlock = some k → ¬ vt.ownBlock = some k) (own2 : Own h2 h.size 3 1 v2 (x.keys.length + 1) (intsV x.keys ++ [.int .i64 n])) (f : Fr (fun k => vk.ownBlock = some k) h1 h2) (fresh : ∀ k, v2.ownBlock = some k → vk.ownBlock = some k ∨ h1.size ≤ k) :
    DS h (setAt h2 ⟨q, 6, none⟩ v2) g q bd l { x with keys := x.keys ++ [n] } s := by
  obtain ⟨e1, e2, e3⟩ := H.gq
  have hs := H.size
  have hne : ∀ k cs t fz, h1[k]? = some (.cells cs t fz) → t ≠ 3 → ¬ vk.ownBlock = some k := fun k cs t fz hb ht => Own_ne ownk hb (Ne.symm ht)
  have q2 := Fr_blk f hq (hne _ _ _ _ hq (by decide))
  have r2 : Rdr h2 g l s := H.rd.fr f (hne _ _ _ _ H.rd.1 (by decide))
  have b2 := Fr_blk f H.bx (hne _ _ _ _ H.bx (by decide))
  have f2 : Fr (fun k => k = q) h2 (setAt h2 ⟨q, 6, none⟩ v2) := Fr.set (S := fun k => k = q) _ _ _ fun _ => rfl
  have b1 := setAt_get (o := 6) q2 v2
  have ot2 := ownt.fr f fun k hk hk2 => disj k hk2 hk
  refine ⟨Fr.trans (Fr.trans H.fr f (fun _ _ h => h) (fun k hk h => by have := (ownk.lt k h).1; omega)) f2 (fun _ _ h => h) (fun _ _ h => Or.inr h), r2.fr f2 (Ne.symm e1), ⟨v2, vt, b1, ?_, ?_, ?_⟩, Fr_blk f2 b2 e3⟩
  · refine Own_cast (own2.fr f2 fun k hk hS => ?_) (by simp) (by simp [intsV])
    subst hS; exact Own_ne own2 q2 (by decide) hk
  · exact ot2.fr f2 fun k hk hS => by subst hS; exact Own_ne ot2 q2 (by decide) hk
  · intro k hk hk2
    rcases fresh k hk with hh | hh
    · exact disj k hh hk2
    · have := (ownt.lt k hk2).2; omega
theorem DS.addT (H : DS h h1 g q bd l x s) {vk vt v2 : Value} {n : Int} (hq : h1[q]? = some (.cells (InV x vk vt).toArray 98 (0, 0))) (ownk : Own h1 h.size 3 1 vk x.keys.length (intsV x.keys)) (ownt : Own h1 h.size 3 1 vt x.tgts.length (intsV x.tgts))
    (disj : ∀ k, vk.ownBlock = some k → ¬ vt.ownBlock = some k) (own2 : Own h2 h.size 3 1 v2 (x.tgts.length + 1) (intsV x.tgts ++ [.int .i64 n])) (f : Fr (fun k => vt.ownBlock = some k) h1 h2) (fresh : ∀ k, v2.ownBlock = some k → vt.ownBlock = some k ∨ h1.size ≤ k) :
    DS h (setAt h2 ⟨q, 7, none⟩ v2) g q bd l { x with tgts := x.tgts ++ [n] } s := by
  obtain ⟨e1, e2, e3⟩ := H.gq
  have hs := H.size
  have hne : ∀ k cs t fz, h1[k]? = some (.cells cs t fz) → t ≠ 3 → ¬ vt.ownBlock = some k := fun k cs t fz hb ht => Own_ne ownt hb (Ne.symm ht)
  have q2 := Fr_blk f hq (hne _ _ _ _ hq (by decide))
  have r2 : Rdr h2 g l s := H.rd.fr f (hne _ _ _ _ H.rd.1 (by decide))
  have b2 := Fr_blk f H.bx (hne _ _ _ _ H.bx (by decide))
  have f2 : Fr (fun k => k = q) h2 (setAt h2 ⟨q, 7, none⟩ v2) := Fr.set (S := fun k => k = q) _ _ _ fun _ => rfl
  have b1 := setAt_get (o := 7) q2 v2
  have ok2 := ownk.fr f fun k hk hk2 => disj k hk hk2
  refine ⟨Fr.trans (Fr.trans H.fr f (fun _ _ h => h) (fun k hk h => by have := (ownt.lt k h).1; omega)) f2 (fun _ _ h => h) (fun _ _ h => Or.inr h), r2.fr f2 (Ne.symm e1), ⟨vk, v2, b1, ?_, ?_, ?_⟩, Fr_blk f2 b2 e3⟩
  · exact ok2.fr f2 fun k hk hS => by subst hS; exact Own_ne ok2 q2 (by decide) hk
  · refine Own_cast (own2.fr f2 fun k hk hS => ?_) (by simp) (by simp [intsV])
    subst hS; exact Own_ne own2 q2 (by decide) hk
  · intro k hk hk2
    rcases fresh k hk2 with hh | hh
    · exact disj k hk hh
    · have := (ownk.lt k hk).2; omega
theorem DS.push (H : DS h h1 g q bd l x s) (o : Obj) : DS h (h1.push o) g q bd l x s := by
  have E := Ext.push h1 o
  exact ⟨Fr.trans H.fr E (fun _ _ h => h) (fun _ _ h => h.elim), H.rd.fr E id, H.xr.fr E id (fun _ _ h => h.elim), Fr_blk E H.bx id⟩
end
theorem padD_done {l : List UInt8} {a k : Nat} {s : RS} (h : s.p % 4 = 0 ∨ s.e ≠ 0) : padD l a k s = s := by
  cases k with
  | zero => rfl
  | succ k => rw [padD, if_pos h]
theorem rowsD_bad {f : Nat} {l : List UInt8} {a r : Nat} {c : KT} (h : c.2.2.e ≠ 0) : rowsD f l a r c = c := by
  cases r with
  | zero => rfl
  | succ r => rw [rowsD, if_pos h]
theorem sgn4_p {l : List UInt8} {s : RS} (h : (sgnD l 4 s).2.e = 0) : s.e = 0 ∧ (sgnD l 4 s).2.p = s.p + 4 := by
  have h' : (takeS l 4 s).2.e = 0 := h
  show s.e = 0 ∧ (takeS l 4 s).2.p = s.p + 4
  unfold takeS at h' ⊢
  split at h'
  · rename_i hh; exact absurd h' hh
  · rename_i hh
    have h0 : s.e = 0 := by omega
    split at h'
    · cases h'
    · rename_i h2
      rw [if_neg (by omega), if_neg h2]
      exact ⟨h0, rfl⟩
section
variable {h : Heap} {g q : Nat} {l : List UInt8} {s : RS}
set_option maxHeartbeats 8000000 in
theorem dcho_any (x : In) (a f : Nat) (hf : f = 10 ∨ f = 11) (hl : l.length ≤ 1073741824) (ha : x.at' = (a : Int)) (hal : a ≤ l.length) (hk : x.keys = []) (ht : x.tgts = [])
    (H : Rdr h g l s) (hq : h[q]? = some (.cells (InV x (.slice none 0 0) (.slice none 0 0)).toArray 98 (0, 0))) :
    HCalls Tryz.prog 113 #[.agg #[.pointer (some ⟨g, 0, none⟩)], .pointer (some ⟨q, 0, none⟩), .int .i64 f] h fun _ h' =>
      Fr (fun k => k = g ∨ k = q) h h' ∧ Rdr h' g l (choD x a f l s).2 ∧ XR h' h.size q (choD x a f l s).1 := by
  refine C.dec_choice_calls (args := [.agg #[.pointer (some ⟨g, 0, none⟩)], .pointer (some ⟨q, 0, none⟩), .int .i64 f]) rfl ?_
  generalize hY : choD x a f l s = Y
  simp only [C.dec_choice_gos, T.tv]
  refine eff_box ?_
  have D0 : DS h (h.push (.cells #[.pointer (some ⟨g, 0, none⟩)] 110)) g q h.size l x s :=
    ⟨Fr.mono (Ext.push h _) (fun _ _ h => h.elim), H.fr (Ext.push h _) id, ⟨_, _, push_blk hq, by rw [hk]; exact Own.nil, by rw [ht]; exact Own.nil, by intro k hk; simp [Value.ownBlock] at hk⟩, by simp⟩
  simp only [T.tv, seval]
  generalize h.push (.cells #[.pointer (some ⟨g, 0, none⟩)] 110) = h1 at *
  refine loop_intro [1, 2, 3] (fun m ρ hc => ∃ (k : Nat) (s' : RS), m = k ∧ ρ = [(1, .pointer (some ⟨q, 0, none⟩)), (2, .int .i64 f), (3, .pointer (some ⟨h.size, 0, none⟩))] ∧ DS h hc g q h.size l x s' ∧ padD l a k s' = padD l a 4 s ∧ (s'.e ≠ 0 ∨ (4 - s'.p % 4) % 4 ≤ k)) ?_ ?_
  · simp only [T.tv, seval]
    exact ⟨_, 4, s, rfl, D0, rfl, by omega⟩
  rintro m ρ hc ⟨k, s1, rfl, rfl, D1, hpad, hkk⟩
  have fx1 := D1.cells
  rw [ha] at fx1
  simp only [C.dec_choice_gos, T.tv, seval, fx1]
  refine eff_callF rfl ((at_any D1.rd).mono ?_)
  intro v2 h2 hp2
  have e2 := hp2.1
  subst e2
  have hv2 := hp2.2
  clear hp2
  have hdone : s1.p % 4 = 0 ∨ s1.e ≠ 0 → padD l a 4 s = s1 := fun hd => by rw [← hpad, padD_done hd]
  by_cases hmore : s1.p % 4 = 0 ∨ s1.e ≠ 0
  case neg =>
    have hm4 : ¬ (s1.p : Int) % 4 = 0 := by omega
    have he0 : s1.e = 0 := by omega
    simp (disch := omega) only [T.tv, hv2, seval, fx1, eq_false hm4]
    refine eff_callF rfl ((bad_any D1.rd).mono ?_)
    intro v3 h3 hp3
    have e3 := hp3.1
    subst e3
    have hv3 := hp3.2
    rw [he0] at hv3
    clear hp3
    simp only [C.dec_choice_gos, T.tv, seval, hv3, fx1]
    refine eff_callF rfl ((num_any 1 hl (by omega) D1.rd).mono ?_)
    intro v4 h4 hp4
    have D4 := D1.step hp4.1 hp4.2.1
    have hv4 := hp4.2.2
    clear hp4
    have fx4 := D4.cells
    rw [ha] at fx4
    obtain ⟨k', rfl⟩ : ∃ k', m = k' + 1 := ⟨m - 1, by omega⟩
    rw [padD, if_neg hmore] at hpad
    have hsuc := num_step l s1
    by_cases hz : (numS l 1 s1).1 = 0
    · have hz' : (((numS l 1 s1).1 : Nat) : Int) = 0 := by omega
      rw [if_neg (by simp [hz])] at hpad
      simp only [T.tv, hv4, seval, eq_true hz']
      refine ⟨_, Nat.lt_succ_self _, k', _, rfl, D4, hpad, ?_⟩
      by_cases hlt : s1.p < l.length
      · have := (hsuc hlt he0).1
        omega
      · left
        unfold numS takeS
        rw [if_neg (by omega), if_pos (by omega)]
        exact (show (1 : Nat) ≠ 0 by decide)
    · have hz' : ¬ (((numS l 1 s1).1 : Nat) : Int) = 0 := by omega
      rw [if_pos (by simpa using hz)] at hpad
      simp only [C.dec_choice_gos, T.tv, seval, hv4, eq_false hz', fx4]
      refine eff_callF rfl ((fail_any 15 a D4.rd).mono ?_)
      intro v5 h5 hp5
      have D5 := D4.step hp5.1 hp5.2
      clear hp5
      simp only [T.tv, seval]
      refine ⟨_, Nat.lt_succ_self _, k', _, rfl, D5, hpad, Or.inl ?_⟩
      unfold failS
      split
      · exact (show (15 : Nat) ≠ 0 by decide)
      · assumption
  have hs1 := hdone hmore
  clear hdone hpad hkk
  unfold choD at hY
  rw [hs1] at hY
  clear hs1
  simp only at hY
  have tail : ∀ (v3 : Value) (pv : Bool), True := fun _ _ => trivial
  clear tail
  by_cases hm4 : s1.p % 4 = 0
  case' pos =>
    have hm4' : (s1.p : Int) % 4 = 0 := by omega
    simp (disch := omega) only [C.dec_choice_gos, T.tv, seval, hv2, fx1, eq_true hm4']
  case' neg =>
    have hm4' : ¬ (s1.p : Int) % 4 = 0 := by omega
    have he1 : (s1.e ≠ 0) = True := eq_true (by omega)
    simp (disch := omega) only [T.tv, hv2, seval, fx1, eq_false hm4']
    refine eff_callF rfl ((bad_any D1.rd).mono ?_)
    intro v3 h3 hp3
    have e3 := hp3.1
    subst e3
    have hv3 := hp3.2
    simp only [he1, decide_true] at hv3
    clear hp3
    simp only [C.dec_choice_gos, T.tv, seval, hv3, fx1]
  all_goals
    refine eff_callF rfl ((dsgn_any 4 (by omega) hl D1.rd).mono ?_)
    intro v4 h4 hp4
    have D4 := D1.step hp4.1 hp4.2.1
    have hv4 := hp4.2.2
    clear hp4
    have fx4 := D4.cells
    rw [ha] at fx4
    have b4 := sgnD_fit l 4 s1 (by omega)
    generalize hT : sgnD l 4 s1 = T at *
    obtain ⟨t0, s4⟩ := T
    simp only at hv4 hY b4 D4
    simp (disch := omega) only [T.tv, hv4, seval, fx4]
    refine eff_lits T.slT_96 rfl rfl (by decide) ?_
    simp only [T.tv, seval]
    have fx5 := (D4.push (.cells #[.int .i64 ((a : Int) + t0)] 3)).cells
    obtain ⟨vk4, vt4, q4, own4k, own4t, _⟩ := D4.xr
    have c7 : cellAt (h4.push (.cells #[.int .i64 ((a : Int) + t0)] 3)) ⟨q, 7, none⟩ = some vt4 := by rw [cellAt_of (push_blk q4)]; rfl
    refine eff_store1_z T.zr_96 rfl rfl rfl rfl rfl c7 ((D4.push _).notfz 7) ?_
    have D6 := D4.tg1 ((a : Int) + t0)
    generalize setAt (h4.push (.cells #[.int .i64 ((a : Int) + t0)] 3)) ⟨q, 7, none⟩ (.slice (some ⟨h4.size, 0, none⟩) 1 1) = h6 at *
    have fx6 := D6.cells
    rw [ha] at fx6
    clear c7 fx5 fx4 q4 own4k own4t
    simp only [C.dec_choice_gos, T.tv, seval, fx6]
    refine eff_callF rfl ((dsgn_any 4 (by omega) hl D6.rd).mono ?_)
    intro v7 h7 hp7
    have D7 := D6.step hp7.1 hp7.2.1
    have hv7 := hp7.2.2
    clear hp7
    have b7 := sgnD_fit l 4 s4 (by omega)
    generalize hT7 : sgnD l 4 s4 = T7 at *
    obtain ⟨n, s7⟩ := T7
    simp only at hv7 hY b7 D7
    have fx7 := D7.cells
    rw [ha] at fx7
    -- the rows
    have rows : ∀ (x2 : In) (cnt : Nat) (s9 : RS) (h9 : Heap), x2.at' = (a : Int) → x2.keys = [] → x2.tgts = [(a : Int) + t0] → cnt ≤ 8589934592 → DS h h9 g q h.size l x2 s9 →
        ({ x2 with keys := (rowsD f l a cnt ([], [(a : Int) + t0], s9)).1, tgts := (rowsD f l a cnt ([], [(a : Int) + t0], s9)).2.1 }, (rowsD f l a cnt ([], [(a : Int) + t0], s9)).2.2) = Y →
        ∀ ρ0 : Env, Env.keep [1, 2, 3, 6, 8] ρ0 = [(1, .pointer (some ⟨q, 0, none⟩)), (2, .int .i64 f), (3, .pointer (some ⟨h.size, 0, none⟩)), (6, .int .i64 cnt), (8, .int .i64 0)] →
        Cd.vc Tryz.prog (.loop C.dec_choice_l1) (Ex.inb 2 (retQ Tryz.prog [] fun _ h' => Fr (fun k => k = g ∨ k = q) h h' ∧ Rdr h' g l Y.2 ∧ XR h' h.size q Y.1)) ρ0 h9 := by
      intro x2 cnt s9 h9 ha2 hk2 ht2 hcl D9 hY2 ρ0 hρ
      have hf2 : f = 10 ∨ f = 11 := hf
      clear hY D7 D6 D4 D1 D0 fx7 fx6 fx1 hv7 hv4 hv2 hT hT7 b7 b4
      generalize hX : rowsD f l a cnt ([], [(a : Int) + t0], s9) = X at *
      refine loop_intro [1, 2, 3, 6, 8] (fun m ρ hc => ∃ (i r : Nat) (c : KT), m = r ∧ i + r = cnt ∧ (f = 11 → c.1.length = i) ∧ c.1.length ≤ i ∧ c.2.1.length = i + 1 ∧ ρ = [(1, .pointer (some ⟨q, 0, none⟩)), (2, .int .i64 f), (3, .pointer (some ⟨h.size, 0, none⟩)), (6, .int .i64 cnt), (8, .int .i64 i)] ∧
        DS h hc g q h.size l { x2 with keys := c.1, tgts := c.2.1 } c.2.2 ∧ rowsD f l a r c = X ∧ (c.2.2.e = 0 → 4 * i + s9.p ≤ c.2.2.p)) ?_ ?_
      · rw [hρ]
        refine ⟨_, 0, cnt, ([], [(a : Int) + t0], s9), rfl, by omega, fun _ => rfl, Nat.le_refl _, rfl, rfl, ?_, hX, fun _ => by simp⟩
        have e2 : ({ x2 with keys := [], tgts := [(a : Int) + t0] } : In) = x2 := by cases x2; simp_all
        show DS h h9 g q h.size l { x2 with keys := [], tgts := [(a : Int) + t0] } s9
        rw [e2]; exact D9
      clear D9 hX hρ
      rintro m ρ hc ⟨i, r, ⟨ks, ts, s1⟩, rfl, hir, hki, hkl, htl, rfl, D1, hR, hpp⟩
      simp only at hki hkl htl D1 hR hpp
      have fx1 := D1.cells
      simp only [ha2] at fx1
      have hend : X = (ks, ts, s1) → Fr (fun k => k = g ∨ k = q) h hc ∧ Rdr hc g l Y.2 ∧ XR hc h.size q Y.1 := by
        intro hX
        rw [← hY2, hX]
        exact ⟨D1.fr, D1.rd, D1.xr⟩
      cases m with
      | zero =>
        have hlt : ¬ (i : Int) < cnt := by omega
        have he := hend hR.symm
        simp only [C.dec_choice_gos, T.tv, seval, hlt]
        exact he
      | succ r =>
        have hlt : (i : Int) < cnt := by omega
        simp only [C.dec_choice_gos, T.tv, seval, hlt, fx1]
        refine eff_callF rfl ((bad_any D1.rd).mono ?_)
        intro v3 h3 hp3
        have e3 := hp3.1
        subst e3
        have hv3 := hp3.2
        clear hp3
        by_cases hbad : s1.e ≠ 0
        · rw [rowsD_bad (by simpa using hbad)] at hR
          have he := hend hR.symm
          rw [decide_eq_true hbad] at hv3
          simp only [T.tv, hv3, seval]
          exact he
        have he0 : s1.e = 0 := by omega
        rw [decide_eq_false hbad] at hv3
        rw [rowsD, if_neg (by simpa using hbad)] at hR
        simp only at hR
        have hib : i ≤ 1073741824 := by
          have h1 := hpp he0
          have h2 := D1.rd.2
          omega
        rcases hf2 with rfl | rfl
        case' inl =>
          have hkd : keyD 10 l a ks s1 = (ks, s1) := rfl
          rw [hkd] at hR
          simp only at hR
          have hkl2 : ks.length ≤ i + 1 := by omega
          have hki2 : 10 = 11 → ks.length = i + 1 := by omega
          have hpp2 : s1.e = 0 → 4 * i + s9.p ≤ s1.p := hpp
          rw [show ((10 : Nat) : Int) = 10 from rfl]
          have D5 := D1
          obtain ⟨vk5, vt5, q5, own5k, own5t, dj5⟩ := id D5.xr
          have c7 := cellAt_of (j := 7) q5
          simp only [InV, List.getElem?_toArray, List.getElem?_cons_zero, List.getElem?_cons_succ] at c7
          have fx5 := D5.cells
          simp only [ha2] at fx5
          simp only [C.dec_choice_gos, T.tv, seval, hv3, fx5, c7, Int.reduceEq]
          obtain ⟨ks2, hks2⟩ : ∃ y, y = ks := ⟨_, rfl⟩
          rw [← hks2] at hR hkl2 hki2 D5 own5k q5
          obtain ⟨s2, hs2⟩ : ∃ y, y = s1 := ⟨_, rfl⟩
          rw [← hs2] at hR hpp2 D5
          clear hs2 hks2 D1
        case' inr =>
          rw [show ((11 : Nat) : Int) = 11 from rfl]
          have hki' := hki rfl
          simp only [C.dec_choice_gos, T.tv, seval, hv3, fx1]
          refine eff_callF rfl ((dsgn_any 4 (by omega) hl D1.rd).mono ?_)
          intro v4 h4 hp4
          have D4 := D1.step hp4.1 hp4.2.1
          have hv4 := hp4.2.2
          clear hp4
          have hs4 := sgn4_p (l := l) (s := s1)
          have hkd : keyD 11 l a ks s1 = (ks ++ [(sgnD l 4 s1).1], if ks ≠ [] ∧ (sgnD l 4 s1).1 ≤ ks.getD (ks.length - 1) 0 then failS 15 a (sgnD l 4 s1).2 else (sgnD l 4 s1).2) := rfl
          rw [hkd] at hR
          generalize sgnD l 4 s1 = T at *
          obtain ⟨kv, s4⟩ := T
          simp only at hR hv4 D4 hs4
          have fx4 := D4.cells
          simp only [ha2] at fx4
          by_cases hi0 : i = 0
          case' pos =>
            have hks : ks = [] := List.eq_nil_of_length_eq_zero (by omega)
            have hi0' : ¬ (0 : Int) < (i : Int) := by omega
            rw [if_neg (by simp [hks])] at hR
            obtain ⟨s2, hs2⟩ : ∃ y, y = s4 := ⟨_, rfl⟩
            have hpp3 : s2.e = 0 → 4 * i + s9.p ≤ s2.p := by
              rw [hs2]; intro h0
              have := hs4 h0
              have := hpp he0
              omega
            have D5 := D4
            rw [← hs2] at D5 hR
            obtain ⟨vk5, vt5, q5, own5k, own5t, dj5⟩ := id D5.xr
            have c6 := cellAt_of (j := 6) q5
            simp only [InV, List.getElem?_toArray, List.getElem?_cons_zero, List.getElem?_cons_succ] at c6
            simp only [C.dec_choice_gos, T.tv, seval, hv4, c6, hi0']
          case' neg =>
            have hi0' : (0 : Int) < (i : Int) := by omega
            have hks : ks ≠ [] := by intro hh; rw [hh] at hki'; simp at hki'; omega
            have e1 : (i : Int) - 1 = ((i - 1 : Nat) : Int) := by omega
            obtain ⟨vk4, vt4, q4, own4k, own4t, dj4⟩ := id D4.xr
            have c64 := cellAt_of (j := 6) q4
            simp only [InV, List.getElem?_toArray, List.getElem?_cons_zero, List.getElem?_cons_succ] at c64
            simp only at own4k
            obtain ⟨kb, ko, kc, hes, hrk, _⟩ := own4k.slN.at (i := i - 1) (by omega)
            subst hes
            have k0 : cellAt h4 ⟨kb, ko + (i - 1), none⟩ = some (.int .i64 (ks.getD (i - 1) 0)) := by
              have := hrk 0 (.int .i64 (ks.getD (i - 1) 0)) (by simp [intsV, show i - 1 < ks.length by omega])
              simpa using this
            have hib1 : ((i - 1 : Nat) : Int) < (ks.length : Int) := by omega
            rw [show ks.length - 1 = i - 1 by omega] at hR
            by_cases hle : kv ≤ ks.getD (i - 1) 0
            case' pos =>
              rw [if_pos ⟨hks, hle⟩] at hR
              simp (disch := omega) only [C.dec_choice_gos, T.tv, seval, hv4, fx4, c64, hi0', e1, k0, hle]
              refine eff_callF rfl ((fail_any 15 a D4.rd).mono ?_)
              intro v5 h5 hp5
              have D5 := D4.step hp5.1 hp5.2
              clear hp5
              obtain ⟨s2, hs2⟩ : ∃ y, y = failS 15 a s4 := ⟨_, rfl⟩
              have hpp3 : s2.e = 0 → 4 * i + s9.p ≤ s2.p := by
                rw [hs2]; unfold failS; intro h0
                split at h0
                · cases h0
                · contradiction
              rw [← hs2] at D5 hR
              obtain ⟨vk5, vt5, q5, own5k, own5t, dj5⟩ := id D5.xr
              have c6 := cellAt_of (j := 6) q5
              simp only [InV, List.getElem?_toArray, List.getElem?_cons_zero, List.getElem?_cons_succ] at c6
              simp only [C.dec_choice_gos, T.tv, seval, c6]
            case' neg =>
              rw [if_neg (fun hh => hle hh.2)] at hR
              obtain ⟨s2, hs2⟩ : ∃ y, y = s4 := ⟨_, rfl⟩
              have hpp3 : s2.e = 0 → 4 * i + s9.p ≤ s2.p := by
                rw [hs2]; intro h0
                have := hs4 h0
                have := hpp he0
                omega
              have D5 := D4
              rw [← hs2] at D5 hR
              have q5 := q4
              have own5k := own4k
              have own5t := own4t
              have dj5 := dj4
              simp (disch := omega) only [C.dec_choice_gos, T.tv, seval, hv4, c64, hi0', e1, k0, hle]
          all_goals
            refine eff_lits T.slT_96 rfl rfl (by decide) ?_
            simp only [T.tv, seval]
            refine eff_append_ownF (m := 1) T.slT_96 rfl rfl (own5k.push _) rfl (Rd_new (vs := [.int .i64 kv])) (by simp [oneCell]) (by show ks.length + 1 ≤ _; omega) (by show (ks.length + 1) * _ ≤ _; omega) (by have := D5.size; simp; omega) ?_
            intro v6 h6 own6 fr6 _ fresh6
            obtain ⟨a6, c6', rfl, _⟩ := own6.slN.2
            have D5p := D5.push (.cells #[.int .i64 kv] 3)
            have q5p := push_blk (o' := .cells #[.int .i64 kv] 3) q5
            have q6 := Fr_blk fr6 q5p (Own_ne (own5k.push _) q5p (by decide))
            simp only [T.tv, seval]
            refine eff_store1_z T.zr_96 rfl rfl rfl rfl rfl (by rw [cellAt_of q6]; rfl) (by simp [frozenAt, q6]) ?_
            have D7 := D5p.addK q5p (own5k.push _) (own5t.push _) dj5 own6 fr6 fresh6
            generalize setAt h6 ⟨q, 6, none⟩ _ = h7 at *
            have D5 : DS h h7 g q h.size l { x2 with keys := ks ++ [kv], tgts := ts } s2 := D7
            have hkl2 : (ks ++ [kv]).length ≤ i + 1 := by simp; omega
            have hki2 : 11 = 11 → (ks ++ [kv]).length = i + 1 := fun _ => by simp; omega
            have hpp2 := hpp3
            clear D7 D5p q5p q6 own6 fr6 fresh6 q5 own5k own5t dj5
            obtain ⟨ks2, hks2⟩ : ∃ y, y = ks ++ [kv] := ⟨_, rfl⟩
            rw [← hks2] at hR hkl2 hki2 D5
            obtain ⟨vk5, vt5, q5, own5k, own5t, dj5⟩ := id D5.xr
            have c7 := cellAt_of (j := 7) q5
            simp only [InV, List.getElem?_toArray, List.getElem?_cons_zero, List.getElem?_cons_succ] at c7
            have fx5 := D5.cells
            simp only [ha2] at fx5
            simp only [C.dec_choice_gos, T.tv, seval, fx5, c7]
        all_goals
          refine eff_callF rfl ((dsgn_any 4 (by omega) hl D5.rd).mono ?_)
          intro v8 h8 hp8
          have D8 := D5.step hp8.1 hp8.2.1
          have hv8 := hp8.2.2
          have f8 := hp8.1
          clear hp8
          have q8 := Fr_blk f8 q5 D5.gq.1
          have own8k := own5k.fr f8 (fun k hk hS => by subst hS; exact Own_ne own5k D5.rd.1 (by decide) hk)
          have own8t := own5t.fr f8 (fun k hk hS => by subst hS; exact Own_ne own5t D5.rd.1 (by decide) hk)
          have b8 := sgnD_fit l 4 s2 (by omega)
          have hs8 := sgn4_p (l := l) (s := s2)
          generalize sgnD l 4 s2 = T8 at *
          obtain ⟨tv, s8⟩ := T8
          simp only at hR hv8 D8 hs8 b8 own8k own8t
          have c78 := cellAt_of (j := 7) q8
          simp only [InV, List.getElem?_toArray, List.getElem?_cons_zero, List.getElem?_cons_succ] at c78
          have fx8 := D8.cells
          simp only [ha2] at fx8
          simp (disch := omega) only [T.tv, hv8, seval, fx8, c78]
          refine eff_lits T.slT_96 rfl rfl (by decide) ?_
          simp only [T.tv, seval]
          refine ⟨by rw [cellAt_of (push_blk q8)]; rfl, ?_⟩
          refine eff_append_ownF (m := 1) T.slT_96 rfl rfl (own8t.push _) rfl (Rd_new (vs := [.int .i64 ((a : Int) + tv)])) (by simp [oneCell]) (by omega) (by omega) (by have := D8.size; simp; omega) ?_
          intro v9 h9' own9 fr9 _ fresh9
          obtain ⟨a9, c9, rfl, _⟩ := own9.slN.2
          have D8p := D8.push (.cells #[.int .i64 ((a : Int) + tv)] 3)
          have q8p := push_blk (o' := .cells #[.int .i64 ((a : Int) + tv)] 3) q8
          have q9 := Fr_blk fr9 q8p (Own_ne (own8t.push _) q8p (by decide))
          simp only [T.tv, seval]
          refine eff_store1_z T.zr_96 rfl rfl rfl rfl rfl (by rw [cellAt_of q9]; rfl) (by simp [frozenAt, q9]) ?_
          have D9 := D8p.addT q8p (own8k.push _) (own8t.push _) dj5 own9 fr9 fresh9
          generalize setAt h9' ⟨q, 7, none⟩ _ = h10 at *
          simp (disch := omega) only [C.dec_choice_gos, T.tv, seval]
          have hfin : s8.e = 0 → 4 * (i + 1) + s9.p ≤ s8.p := by
            intro h0
            have h8 := hs8 h0
            have h9 := hpp2 h8.1
            omega
          have D10 : DS h h10 g q h.size l { x2 with keys := ks2, tgts := ts ++ [(a : Int) + tv] } s8 := D9
          first
            | exact ⟨_, Nat.lt_succ_self _, i + 1, r, (ks2, ts ++ [(a : Int) + tv], s8), rfl, by omega, hki2 rfl, hkl2, by simp [htl], by simp, D10, hR, hfin⟩
            | exact ⟨_, Nat.lt_succ_self _, i + 1, r, (ks2, ts ++ [(a : Int) + tv], s8), rfl, by omega, hkl2, by simp [htl], by simp, D10, hR, hfin⟩
    rcases hf with rfl | rfl
    · rw [if_pos rfl] at hY
      rw [show ((10 : Nat) : Int) = 10 from rfl] at *
      simp only [C.dec_choice_gos, T.tv, seval, hv7]
      refine eff_store1_z T.zr_3 rfl rfl rfl rfl rfl fx7.2.2.2.2.2.1 (D7.notfz 5) ?_
      have D8 := D7.set 5 (.int .i64 n) { x with tgts := [(a : Int) + t0], low := n } rfl rfl (fun _ _ => rfl)
      generalize setAt h7 ⟨q, 5, none⟩ (.int .i64 n) = h8 at *
      have fx8 := D8.cells
      rw [ha] at fx8
      simp only [C.dec_choice_gos, T.tv, seval, fx8]
      refine eff_callF rfl ((dsgn_any 4 (by omega) hl D8.rd).mono ?_)
      intro v9 h9 hp9
      have D9 := D8.step hp9.1 hp9.2.1
      have hv9 := hp9.2.2
      clear hp9
      have b9 := sgnD_fit l 4 s7 (by omega)
      generalize hT9 : sgnD l 4 s7 = T9 at *
      obtain ⟨hi, s9⟩ := T9
      simp only at hv9 hY b9 D9
      have fx9 := D9.cells
      rw [ha] at fx9
      by_cases hlow : hi < n
      · rw [if_pos hlow] at hY
        subst hY
        simp only [C.dec_choice_gos, T.tv, seval, hv9, fx9, hlow]
        refine eff_callF rfl ((fail_any 15 a D9.rd).mono ?_)
        intro v10 h10 hp10
        have D10 := D9.step hp10.1 hp10.2
        clear hp10
        simp only [T.tv]
        exact ⟨D10.fr, D10.rd, D10.xr⟩
      · rw [if_neg hlow] at hY
        obtain ⟨cnt, hcnt⟩ : ∃ cnt : Nat, hi - n + 1 = (cnt : Int) := ⟨(hi - n + 1).toNat, by omega⟩
        rw [hcnt, Int.toNat_natCast] at hY
        have hneg : ¬ (cnt : Int) < 0 := by omega
        simp (disch := omega) only [C.dec_choice_gos, T.tv, seval, hv9, fx9, hlow, hcnt, hneg]
        refine rows { x with tgts := [(a : Int) + t0], low := n } cnt s9 h9 ha hk rfl (by omega) D9 hY _ ?_
        simp only [vs, ↓reduceIte, Nat.reduceEqDiff]
    · rw [if_neg (by decide)] at hY
      rw [show ((11 : Nat) : Int) = 11 from rfl] at *
      by_cases hneg : n < 0
      · rw [if_pos hneg] at hY
        subst hY
        simp only [C.dec_choice_gos, T.tv, seval, hv7, fx7, hneg, Int.reduceEq]
        refine eff_callF rfl ((fail_any 15 a D7.rd).mono ?_)
        intro v10 h10 hp10
        have D10 := D7.step hp10.1 hp10.2
        clear hp10
        simp only [T.tv]
        exact ⟨D10.fr, D10.rd, D10.xr⟩
      · rw [if_neg hneg] at hY
        obtain ⟨cnt, rfl⟩ : ∃ cnt : Nat, n = (cnt : Int) := ⟨n.toNat, by omega⟩
        rw [Int.toNat_natCast] at hY
        simp only [C.dec_choice_gos, T.tv, seval, hv7, hneg, Int.reduceEq]
        refine rows { x with tgts := [(a : Int) + t0] } cnt s7 h7 ha hk rfl (by omega) D7 hY _ ?_
        simp only [vs, ↓reduceIte, Nat.reduceEqDiff]
end
end Go.Proofs.YtflocjbhcjhenaaGreatDoor
namespace Go.Proofs.YtflocjbhcjhenaaGreatDoor
open Go.Vc
set_option maxRecDepth 100000
theorem XR.mono {h : Heap} {base base' q : Nat} {x : In} (H : XR h base q x) (hb : base' ≤ base) : XR h base' q x := by
  obtain ⟨vk, vt, h1, h2, h3, h4⟩ := H
  exact ⟨vk, vt, h1, h2.mono hb, h3.mono hb, h4⟩
section
variable {h : Heap} {g q : Nat} {l : List UInt8} {s : RS}
theorem DS.start {x : In} (hk : x.keys = []) (ht : x.tgts = []) (H : Rdr h g l s) (hq : h[q]? = some (.cells (InV x (.slice none 0 0) (.slice none 0 0)).toArray 98 (0, 0))) :
    DS h (h.push (.cells #[.pointer (some ⟨g, 0, none⟩)] 110)) g q h.size l x s :=
  ⟨Fr.mono (Ext.push h _) (fun _ _ h => h.elim), H.fr (Ext.push h _) id, ⟨_, _, push_blk hq, by rw [hk]; exact Own.nil, by rw [ht]; exact Own.nil, by intro k hk; simp [Value.ownBlock] at hk⟩, by simp⟩
set_option maxHeartbeats 8000000 in
theorem dmore_any (x : In) (a f : Nat) (hf : f = 0 ∨ f = 10 ∨ f = 11 ∨ f = 12 ∨ f = 13 ∨ f = 14) (hl : l.length ≤ 1073741824) (ha : x.at' = (a : Int)) (hal : a ≤ l.length) (hk : x.keys = []) (ht : x.tgts = [])
    (H : Rdr h g l s) (hq : h[q]? = some (.cells (InV x (.slice none 0 0) (.slice none 0 0)).toArray 98 (0, 0))) :
    HCalls Tryz.prog 90 #[.agg #[.pointer (some ⟨g, 0, none⟩)], .pointer (some ⟨q, 0, none⟩), .int .i64 f] h fun _ h' =>
      Fr (fun k => k = g ∨ k = q) h h' ∧ Rdr h' g l (opsD x a f l s).2 ∧ XR h' h.size q (opsD x a f l s).1 := by
  refine C.dec_more_calls (args := [.agg #[.pointer (some ⟨g, 0, none⟩)], .pointer (some ⟨q, 0, none⟩), .int .i64 f]) rfl ?_
  generalize hY : opsD x a f l s = Y
  unfold opsD at hY
  simp only [C.dec_more_gos, T.tv]
  refine eff_box ?_
  have D0 := DS.start hk ht H hq
  have q0 := push_blk (o' := .cells #[.pointer (some ⟨g, 0, none⟩)] 110) hq
  have hs0 : h.size ≤ (h.push (.cells #[.pointer (some ⟨g, 0, none⟩)] 110)).size := by simp
  simp only [C.dec_more_gos, T.tv, seval]
  generalize h.push (.cells #[.pointer (some ⟨g, 0, none⟩)] 110) = h1 at *
  have fx0 := D0.cells
  rw [ha] at fx0
  rcases hf with rfl | rfl | rfl | rfl | rfl | rfl
  · simp only [Nat.reduceEqDiff, if_false, or_false] at hY
    subst hY
    rw [show ((0 : Nat) : Int) = 0 from rfl]
    simp only [C.dec_more_gos, T.tv, seval, Int.reduceEq]
    exact ⟨D0.fr, D0.rd, D0.xr⟩
  · simp only [Nat.reduceEqDiff, if_false, if_true, true_or] at hY
    rw [show ((10 : Nat) : Int) = 10 from rfl]
    simp only [C.dec_more_gos, T.tv, seval, fx0]
    refine eff_callF rfl ((dcho_any x a 10 (Or.inl rfl) hl ha hal hk ht D0.rd q0).mono ?_)
    intro v2 h2 hp2
    rw [hY] at hp2
    simp only [T.tv]
    exact ⟨Fr.trans D0.fr hp2.1 (fun _ _ h => h) (fun _ _ h => h), hp2.2.1, hp2.2.2.mono hs0⟩
  · simp only [Nat.reduceEqDiff, if_false, if_true, or_true] at hY
    rw [show ((11 : Nat) : Int) = 11 from rfl]
    simp only [C.dec_more_gos, T.tv, seval, fx0, Int.reduceEq]
    refine eff_callF rfl ((dcho_any x a 11 (Or.inr rfl) hl ha hal hk ht D0.rd q0).mono ?_)
    intro v2 h2 hp2
    rw [hY] at hp2
    simp only [T.tv]
    exact ⟨Fr.trans D0.fr hp2.1 (fun _ _ h => h) (fun _ _ h => h), hp2.2.1, hp2.2.2.mono hs0⟩
  · simp only [Nat.reduceEqDiff, if_false, if_true, or_false] at hY
    rw [show ((12 : Nat) : Int) = 12 from rfl]
    simp only [C.dec_more_gos, T.tv, seval, fx0, Int.reduceEq]
    refine eff_callF rfl ((num_any 2 hl (by omega) D0.rd).mono ?_)
    intro v2 h2 hp2
    have D2 := D0.step hp2.1 hp2.2.1
    have hv2 := hp2.2.2
    clear hp2
    have fx2 := D2.cells
    rw [ha] at fx2
    simp only [T.tv, fx2, seval, hv2]
    refine eff_callF rfl ((num_any 1 hl (by omega) D2.rd).mono ?_)
    intro v3 h3 hp3
    have D3 := D2.step hp3.1 hp3.2.1
    have hv3 := hp3.2.2
    clear hp3
    have fx3 := D3.cells
    rw [ha] at fx3
    have bn : (numS l 1 (numS l 2 s).2).1 < 256 := numS_lt
    generalize numS l 2 s = A at *
    obtain ⟨av, s2⟩ := A
    simp only at *
    generalize numS l 1 s2 = B at *
    obtain ⟨bv, s3⟩ := B
    simp only at *
    simp only [T.tv, hv3, seval]
    refine eff_store1_z T.zr_3 rfl rfl rfl rfl rfl fx3.2.2.2.1 (D3.notfz 3) ?_
    have D4 := D3.set 3 (.int .i64 av) { x with A := av } rfl rfl (fun _ _ => rfl)
    generalize setAt h3 ⟨q, 3, none⟩ _ = h4 at *
    have fx4 := D4.cells
    rw [ha] at fx4
    simp only [T.tv, seval]
    refine eff_store1_z T.zr_3 rfl rfl rfl rfl rfl fx4.2.2.2.2.1 (D4.notfz 4) ?_
    have D5 := D4.set 4 (.int .i64 bv) { x with A := av, B := bv } rfl rfl (fun _ _ => rfl)
    generalize setAt h4 ⟨q, 4, none⟩ _ = h5 at *
    have fx5 := D5.cells
    rw [ha] at fx5
    simp only [C.dec_more_gos, T.tv, seval, fx5]
    refine eff_callF rfl ((num_any 1 hl (by omega) D5.rd).mono ?_)
    intro v6 h6 hp6
    have D6 := D5.step hp6.1 hp6.2.1
    have hv6 := hp6.2.2
    clear hp6
    have fx6 := D6.cells
    rw [ha] at fx6
    generalize numS l 1 s3 = Cc at *
    obtain ⟨cv, s6⟩ := Cc
    simp only at *
    by_cases hc0 : cv = 0
    · have hc0' : (cv : Int) = 0 := by omega
      by_cases hb0 : bv = 0
      · have hb0' : (bv : Int) = 0 := by omega
        rw [if_pos (Or.inr hb0)] at hY
        subst hY
        simp only [C.dec_more_gos, T.tv, seval, hv6, fx6, eq_true hc0', eq_true hb0']
        refine eff_callF rfl ((fail_any 15 a D6.rd).mono ?_)
        intro v7 h7 hp7
        have D7 := D6.step hp7.1 hp7.2
        clear hp7
        simp only [T.tv]
        exact ⟨D7.fr, D7.rd, D7.xr⟩
      · have hb0' : ¬ (bv : Int) = 0 := by omega
        rw [if_neg (by simp [hc0, hb0])] at hY
        subst hY
        simp only [T.tv, hv6, seval, fx6, eq_true hc0', eq_false hb0']
        exact ⟨D6.fr, D6.rd, D6.xr⟩
    · have hc0' : ¬ (cv : Int) = 0 := by omega
      rw [if_pos (Or.inl hc0)] at hY
      subst hY
      simp only [C.dec_more_gos, T.tv, seval, hv6, fx6, eq_false hc0']
      refine eff_callF rfl ((fail_any 15 a D6.rd).mono ?_)
      intro v7 h7 hp7
      have D7 := D6.step hp7.1 hp7.2
      clear hp7
      simp only [T.tv]
      exact ⟨D7.fr, D7.rd, D7.xr⟩
  · simp only [Nat.reduceEqDiff, if_false, if_true, or_false] at hY
    rw [show ((13 : Nat) : Int) = 13 from rfl]
    simp only [C.dec_more_gos, T.tv, seval, fx0, Int.reduceEq]
    refine eff_callF rfl ((num_any 1 hl (by omega) D0.rd).mono ?_)
    intro v2 h2 hp2
    have D2 := D0.step hp2.1 hp2.2.1
    have hv2 := hp2.2.2
    clear hp2
    have fx2 := D2.cells
    rw [ha] at fx2
    generalize numS l 1 s = A at *
    obtain ⟨av, s2⟩ := A
    simp only at *
    simp only [T.tv, hv2, seval]
    refine eff_store1_z T.zr_3 rfl rfl rfl rfl rfl fx2.2.2.2.1 (D2.notfz 3) ?_
    have D4 := D2.set 3 (.int .i64 av) { x with A := av } rfl rfl (fun _ _ => rfl)
    generalize setAt h2 ⟨q, 3, none⟩ _ = h4 at *
    have fx4 := D4.cells
    rw [ha] at fx4
    by_cases g1 : av < 4
    · have g1' : (av : Int) < 4 := by omega
      rw [if_pos (Or.inl g1)] at hY
      subst hY
      simp only [C.dec_more_gos, T.tv, seval, fx4, g1']
      refine eff_callF rfl ((fail_any 15 a D4.rd).mono ?_)
      intro v7 h7 hp7
      have D7 := D4.step hp7.1 hp7.2
      clear hp7
      simp only [T.tv]
      exact ⟨D7.fr, D7.rd, D7.xr⟩
    · have g1' : ¬ (av : Int) < 4 := by omega
      by_cases g2 : 11 < av
      · have g2' : (11 : Int) < (av : Int) := by omega
        rw [if_pos (Or.inr g2)] at hY
        subst hY
        simp only [C.dec_more_gos, T.tv, seval, fx4, g1', g2']
        refine eff_callF rfl ((fail_any 15 a D4.rd).mono ?_)
        intro v7 h7 hp7
        have D7 := D4.step hp7.1 hp7.2
        clear hp7
        simp only [T.tv]
        exact ⟨D7.fr, D7.rd, D7.xr⟩
      · have g2' : ¬ (11 : Int) < (av : Int) := by omega
        rw [if_neg (by omega)] at hY
        subst hY
        simp only [C.dec_more_gos, T.tv, seval, fx4, g1', g2']
        exact ⟨D4.fr, D4.rd, D4.xr⟩
  · simp only [Nat.reduceEqDiff, if_false, if_true, or_false] at hY
    rw [show ((14 : Nat) : Int) = 14 from rfl]
    simp only [C.dec_more_gos, T.tv, seval, fx0, Int.reduceEq]
    refine eff_callF rfl ((num_any 2 hl (by omega) D0.rd).mono ?_)
    intro v2 h2 hp2
    have D2 := D0.step hp2.1 hp2.2.1
    have hv2 := hp2.2.2
    clear hp2
    have fx2 := D2.cells
    rw [ha] at fx2
    simp only [T.tv, fx2, seval, hv2]
    refine eff_callF rfl ((num_any 1 hl (by omega) D2.rd).mono ?_)
    intro v3 h3 hp3
    have D3 := D2.step hp3.1 hp3.2.1
    have hv3 := hp3.2.2
    clear hp3
    have fx3 := D3.cells
    rw [ha] at fx3
    generalize numS l 2 s = A at *
    obtain ⟨av, s2⟩ := A
    simp only at *
    generalize numS l 1 s2 = B at *
    obtain ⟨bv, s3⟩ := B
    simp only at *
    simp only [T.tv, hv3, seval]
    refine eff_store1_z T.zr_3 rfl rfl rfl rfl rfl fx3.2.2.2.1 (D3.notfz 3) ?_
    have D4 := D3.set 3 (.int .i64 av) { x with A := av } rfl rfl (fun _ _ => rfl)
    generalize setAt h3 ⟨q, 3, none⟩ _ = h4 at *
    have fx4 := D4.cells
    rw [ha] at fx4
    simp only [T.tv, seval]
    refine eff_store1_z T.zr_3 rfl rfl rfl rfl rfl fx4.2.2.2.2.1 (D4.notfz 4) ?_
    have D5 := D4.set 4 (.int .i64 bv) { x with A := av, B := bv } rfl rfl (fun _ _ => rfl)
    generalize setAt h4 ⟨q, 4, none⟩ _ = h5 at *
    have fx5 := D5.cells
    rw [ha] at fx5
    by_cases hb0 : bv = 0
    · have hb0' : (bv : Int) = 0 := by omega
      rw [if_pos hb0] at hY
      subst hY
      simp only [C.dec_more_gos, T.tv, seval, fx5, eq_true hb0']
      refine eff_callF rfl ((fail_any 15 a D5.rd).mono ?_)
      intro v7 h7 hp7
      have D7 := D5.step hp7.1 hp7.2
      clear hp7
      simp only [T.tv]
      exact ⟨D7.fr, D7.rd, D7.xr⟩
    · have hb0' : ¬ (bv : Int) = 0 := by omega
      rw [if_neg hb0] at hY
      subst hY
      simp only [C.dec_more_gos, T.tv, seval, fx5, eq_false hb0']
      exact ⟨D5.fr, D5.rd, D5.xr⟩
end
end Go.Proofs.YtflocjbhcjhenaaGreatDoor
