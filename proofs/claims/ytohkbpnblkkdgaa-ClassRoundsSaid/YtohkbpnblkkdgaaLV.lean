/- Classes out of bytes: the program's pool and the reference's come to the same class (plain). -/
import Derived.Test.YtohkbpnblkkdgaaLQ
import Derived.Test.YtohkbpnblkkdgaaR5
namespace Go.Proofs.Ytohkbpnblkkdgaa
open Go.Vc
set_option maxRecDepth 100000
set_option linter.unusedSimpArgs false
set_option linter.unusedVariables false

/-- A reader of the bytes behind k, seen from the beginning. -/
def shS (E k : Nat) (s : RS) : RS := ⟨s.p + k, s.e, if s.e = 0 then E else s.es + k⟩
section
variable {l : List UInt8} {E k : Nat}
theorem sh_take (hk : k ≤ l.length) (n : Nat) (s : RS) : takeS l n (shS E k s) = ((takeS (l.drop k) n s).1, shS E k (takeS (l.drop k) n s).2) := by
  obtain ⟨p, e, es⟩ := s
  by_cases he : e = 0
  · subst he
    have hsh : shS E k ⟨p, 0, es⟩ = ⟨p + k, 0, E⟩ := rfl
    rw [hsh]
    by_cases h : l.length < p + k + n
    · rw [takeS_end h, takeS_end (by simp; omega)]
      simp [shS]; omega
    · rw [takeS_ok (by omega), takeS_ok (by simp; omega)]
      simp [shS, Nat.add_comm, Nat.add_left_comm]
  · have hsh : shS E k ⟨p, e, es⟩ = ⟨p + k, e, es + k⟩ := by simp [shS, he]
    rw [hsh, takeS_bad he, takeS_bad he]
    simp [shS, he]
theorem sh_num (hk : k ≤ l.length) (n : Nat) (s : RS) : numS l n (shS E k s) = ((numS (l.drop k) n s).1, shS E k (numS (l.drop k) n s).2) := by
  unfold numS; rw [sh_take hk]
theorem sh_fail (e q : Nat) (he : e ≠ 0) (s : RS) : failS e (q + k) (shS E k s) = shS E k (failS e q s) := by
  unfold failS shS
  by_cases h : s.e = 0
  · simp [h, he]
  · simp [h]
theorem sh_one (hk : k ≤ l.length) (s : RS) : oneR l (shS E k s) = ((oneR (l.drop k) s).1, shS E k (oneR (l.drop k) s).2) := by
  have hp : (shS E k s).p = s.p + k := rfl
  unfold oneR
  simp only [sh_num hk, sh_take hk, hp, sh_fail (k := k) (E := E) 5 _ (by decide), sh_fail (k := k) (E := E) 6 _ (by decide)]
  generalize numS (l.drop k) 1 s = a
  repeat' split
  all_goals first | rfl | (simp_all; done)
theorem sh_loop (hk : k ≤ l.length) (n : Nat) : ∀ (j : Nat) (cs : List Cst) (s : RS), loopR l n j cs (shS E k s) = ((loopR (l.drop k) n j cs s).1, shS E k (loopR (l.drop k) n j cs s).2) := by
  intro j
  induction j with
  | zero => intro cs s; rfl
  | succ j ih =>
    intro cs s
    have hp : (shS E k s).p = s.p + k := rfl
    have he : (shS E k s).e = s.e := rfl
    rw [loopR, loopR]
    simp only [sh_one hk, hp, he, sh_fail (k := k) (E := E) 12 _ (by decide), ← apply_ite (shS E k), ih]
    repeat' split
    all_goals rfl
theorem sh_pool (hk : k ≤ l.length) (s : RS) : poolR l (shS E k s) = ((poolR (l.drop k) s).1, shS E k (poolR (l.drop k) s).2) := by
  have hp : (shS E k s).p = s.p + k := rfl
  unfold poolR
  simp only [sh_num hk, hp, sh_fail (k := k) (E := E) 12 _ (by decide), ← apply_ite (shS E k)]
  exact sh_loop hk _ _ _ _
end
/-- Magic and version. -/
def preR (l : List UInt8) : Nat × Nat × RS :=
  let m := numS l 4 ⟨0, 0, 0⟩
  let a := numS l 2 (if m.1 = 3405691582 then m.2 else failS 3 0 m.2)
  let b := numS l 2 a.2
  (a.1, b.1, if (b.1 = 50 ∨ b.1 = 51) ∧ a.1 = 0 then b.2 else failS 4 4 b.2)
/-- The class as the program reads it. -/
def readR (l : List UInt8) : Cls × Nat × Nat :=
  let x := preR l
  let P := poolR l x.2.2
  finC (restR P.1 l x.1 x.2.1 P.2)
/-- The pool as the reference reads it. -/
def poolQ (l : List UInt8) (s : RS) : List Cst × RS :=
  if s.e ≠ 0 then ([], s)
  else
    let x := refRead (l.drop s.p)
    let t := if x.2.2.1 = 0 then s else failS x.2.2.1 (s.p + x.2.2.2) s
    (x.1, ⟨t.p + x.2.1, t.e, t.es⟩)
def readQ (l : List UInt8) : Cls × Nat × Nat :=
  let x := preR l
  let P := poolQ l x.2.2
  finC (restR P.1 l x.1 x.2.1 P.2)
theorem finC_bad {p q : List Cst} {l : List UInt8} {mi ma : Nat} {s t : RS} (h : s.e ≠ 0) (h1 : s.e = t.e) (h2 : s.es = t.es) : finC (restR p l mi ma s) = finC (restR q l mi ma t) := by
  have ht : t.e ≠ 0 := h1 ▸ h
  unfold finC
  rw [restR_bad h, restR_bad ht, if_pos h, if_pos ht, h1, h2]
theorem poolR_bad {l : List UInt8} {s : RS} (h : s.e ≠ 0) : (poolR l s).2 = s := by
  unfold poolR
  rw [numS_e h, failS_e h, ite_self, loopR_stop (by simp [h])]
theorem read_RQ {l : List UInt8} (hp : (preR l).2.2.p ≤ l.length) : readQ l = readR l := by
  unfold readQ readR
  simp only
  generalize preR l = x at *
  obtain ⟨mi, ma, p, e, es⟩ := x
  simp only at hp ⊢
  by_cases he : e = 0
  · subst he
    have hs : (⟨p, 0, es⟩ : RS) = shS es p ⟨0, 0, 0⟩ := by simp [shS]
    have hP : poolR l ⟨p, 0, es⟩ = _ := (congrArg (poolR l) hs).trans (sh_pool hp ⟨0, 0, 0⟩)
    rw [hP]
    have hr := read_ref (l.drop p)
    unfold poolQ
    simp only [ne_eq, not_true_eq_false, if_false]
    rw [← hr]
    generalize poolR (l.drop p) ⟨0, 0, 0⟩ = Z
    obtain ⟨cs, zp, ze, zes⟩ := Z
    unfold finR
    by_cases hz : ze = 0
    · subst hz
      simp [shS, Nat.add_comm]
    · simp only [ne_eq, hz, not_false_eq_true, if_true, if_false]
      refine finC_bad ?_ ?_ ?_ <;> simp [failS, shS, hz, Nat.add_comm]
  · have h1 : (poolQ l ⟨p, e, es⟩).2 = ⟨p, e, es⟩ := by unfold poolQ; simp [he]
    have h2 : (poolR l ⟨p, e, es⟩).2 = ⟨p, e, es⟩ := poolR_bad (by simpa using he)
    exact finC_bad (by rw [h1]; simpa using he) (by rw [h1, h2]) (by rw [h1, h2])
theorem loopR_len (l : List UInt8) (n : Nat) : ∀ (k : Nat) (cs : List Cst) (s : RS), (loopR l n k cs s).1.length ≤ max cs.length (n + 1) := by
  intro k
  induction k with
  | zero => intro cs s; show cs.length ≤ _; omega
  | succ k ih =>
    intro cs s
    rw [loopR]; split
    · next h =>
      split
      · refine Nat.le_trans (ih _ _) ?_
        simp only [List.length_append, List.length_singleton]; omega
      · refine Nat.le_trans (ih _ _) ?_
        simp only [List.length_append, List.length_singleton]; omega
    · show cs.length ≤ _; omega
theorem poolR_len (l : List UInt8) (s : RS) : (poolR l s).1.length ≤ 65536 := by
  unfold poolR
  have h := @numS_lt l 2 s
  simp only [Nat.reducePow] at h
  refine Nat.le_trans (loopR_len _ _ _ _ _) ?_
  simp only [List.length_singleton]; omega
end Go.Proofs.Ytohkbpnblkkdgaa
