/- Frames out of bytes: what is read (plain). -/
import Derived.Test.YtohkbpnblkkdgaaR1
import Derived.Test.YtohkbpnblkkdgaaMA
import Derived.Test.YtohkbpnblkkdgaaMV
namespace Go.Proofs.Ytohkbpnblkkdgaa
open Go.Vc
set_option maxRecDepth 100000
set_option linter.unusedSimpArgs false
set_option linter.unusedVariables false

/-- A type of a value. -/
def valD (p : List Cst) (l : List UInt8) (s : RS) : VT × RS :=
  let t := numS l 1 s
  if t.1 = 7 then
    let k := numS l 2 t.2
    if isS p k.1 7 = true then (⟨7, (clsOfS p k.1).1, 0⟩, k.2) else (⟨7, [], 0⟩, failS 7 s.p k.2)
  else if t.1 = 8 then (⟨8, [], ((numS l 2 t.2).1 : Int)⟩, (numS l 2 t.2).2)
  else (⟨t.1, [], 0⟩, if 8 < t.1 then failS 17 s.p t.2 else t.2)
def valsD (p : List Cst) (l : List UInt8) : Nat → List VT → RS → List VT × RS
  | 0, xs, s => (xs, s)
  | n + 1, xs, s => if s.e ≠ 0 then (xs, s) else valsD p l n (xs ++ [(valD p l s).1]) (valD p l s).2
/-- A frame, and how far it lies behind the one ahead. -/
def frmD (p : List Cst) (l : List UInt8) (loc : List VT) (s : RS) : Frm × Nat × RS :=
  let t := numS l 1 s
  if t.1 < 64 then (⟨0, loc, []⟩, t.1, t.2)
  else if t.1 < 128 then (⟨0, loc, (valsD p l 1 [] t.2).1⟩, t.1 - 64, (valsD p l 1 [] t.2).2)
  else if t.1 < 247 then (⟨0, loc, []⟩, 0, failS 17 s.p t.2)
  else
    let d := numS l 2 t.2
    if t.1 = 247 then (⟨0, loc, (valsD p l 1 [] d.2).1⟩, d.1, (valsD p l 1 [] d.2).2)
    else if t.1 < 251 then
      if loc.length + t.1 < 251 then (⟨0, [], []⟩, d.1, failS 17 s.p d.2)
      else (⟨0, loc.take (loc.length + t.1 - 251), []⟩, d.1, d.2)
    else if t.1 < 255 then (⟨0, loc ++ (valsD p l (t.1 - 251) [] d.2).1, []⟩, d.1, (valsD p l (t.1 - 251) [] d.2).2)
    else
      let n := numS l 2 d.2
      let v := valsD p l n.1 [] n.2
      let m := numS l 2 v.2
      let w := valsD p l m.1 [] m.2
      (⟨0, v.1, w.1⟩, d.1, w.2)
def mapD (p : List Cst) (l : List UInt8) : Nat → Int → List VT → List Frm → RS → List Frm × RS
  | 0, _, _, fs, s => (fs, s)
  | n + 1, pl, loc, fs, s => if s.e ≠ 0 then (fs, s) else
    mapD p l n (pl + ((frmD p l loc s).2.1 + 1 : Nat)) (frmD p l loc s).1.L (fs ++ [⟨pl + ((frmD p l loc s).2.1 + 1 : Nat), (frmD p l loc s).1.L, (frmD p l loc s).1.S⟩]) (frmD p l loc s).2.2
def mapE (l : List UInt8) (r : List Frm × RS) : List Frm × Nat × Nat :=
  let s := if r.2.p < l.length then failS 2 r.2.p r.2 else r.2
  if s.e ≠ 0 then ([], s.e, s.es) else (r.1, 0, 0)
def mapA (p : List Cst) (l : List UInt8) (first : List VT) : List Frm × Nat × Nat :=
  mapE l (mapD p l (numS l 2 ⟨0, 0, 0⟩).1 (-1) first [] (numS l 2 ⟨0, 0, 0⟩).2)

theorem failS_e {e q : Nat} {s : RS} (h : s.e ≠ 0) : failS e q s = s := by unfold failS; rw [if_neg h]
theorem failS_ne {e q : Nat} {s : RS} (he : e ≠ 0) : (failS e q s).e ≠ 0 := by
  unfold failS; split
  · exact he
  · assumption
theorem mapD_bad {p : List Cst} {l : List UInt8} {n : Nat} {pl : Int} {loc : List VT} {fs : List Frm} {s : RS} (h : s.e ≠ 0) : mapD p l n pl loc fs s = (fs, s) := by
  cases n with
  | zero => rfl
  | succ n => rw [mapD, if_pos h]
theorem mapE_bad {l : List UInt8} {fs : List Frm} {s : RS} (h : s.e ≠ 0) : mapE l (fs, s) = ([], s.e, s.es) := by
  unfold mapE
  simp only [failS_e h, ite_self]
  rw [if_pos h]
theorem valsD_bad {p : List Cst} {l : List UInt8} {n : Nat} {xs : List VT} {s : RS} (h : s.e ≠ 0) : valsD p l n xs s = (xs, s) := by
  cases n with
  | zero => rfl
  | succ n => rw [valsD, if_pos h]
theorem num_e {l : List UInt8} {n : Nat} {s : RS} (h : (numS l n s).2.e = 0) : s.e = 0 := by
  unfold numS takeS at h
  split at h
  · rename_i h1; exact absurd h h1
  · omega
theorem vals_e (p : List Cst) (l : List UInt8) (n : Nat) (xs : List VT) (s : RS) (h : (valsD p l n xs s).2.e = 0) : s.e = 0 := by
  by_cases he : s.e = 0
  · exact he
  · rw [valsD_bad he] at h; exact h
theorem valD_fit (p : List Cst) (l : List UInt8) (s : RS) : (valD p l s).1.Fit := by
  have h1 := numS_lt (l := l) (n := 1) (s := s)
  have h2 := numS_lt (l := l) (n := 2) (s := (numS l 1 s).2)
  simp only [Nat.reducePow] at h1 h2
  unfold valD
  simp only
  split
  · split <;> exact ⟨by simp only; omega, by simp only; omega, by simp only; omega⟩
  · split
    · exact ⟨by simp only; omega, by simp only; omega, by simp only; omega⟩
    · exact ⟨h1, by simp only; omega, by simp only; omega⟩
theorem valsD_fit (p : List Cst) (l : List UInt8) : ∀ (n : Nat) (xs : List VT) (s : RS), (∀ v ∈ xs, v.Fit) → ∀ v ∈ (valsD p l n xs s).1, v.Fit := by
  intro n
  induction n with
  | zero => intro xs s h; exact h
  | succ n ih =>
    intro xs s h
    rw [valsD]
    split
    · exact h
    · refine ih _ _ fun v hv => ?_
      rcases List.mem_append.1 hv with hv | hv
      · exact h v hv
      · rw [List.mem_singleton.1 hv]; exact valD_fit p l s
theorem valsD_len (p : List Cst) (l : List UInt8) : ∀ (n : Nat) (xs : List VT) (s : RS), (valsD p l n xs s).1.length ≤ xs.length + n := by
  intro n
  induction n with
  | zero => intro xs s; exact Nat.le_refl _
  | succ n ih =>
    intro xs s
    rw [valsD]
    split
    · simp only; omega
    · have := ih (xs ++ [(valD p l s).1]) (valD p l s).2
      simp only [List.length_append, List.length_singleton] at this
      omega
theorem frmD_len (p : List Cst) (l : List UInt8) (loc : List VT) (s : RS) : (frmD p l loc s).1.L.length ≤ max (loc.length + 3) 65535 ∧ (frmD p l loc s).1.S.length ≤ 65535 ∧ (frmD p l loc s).2.1 ≤ 65535 := by
  have h1 := numS_lt (l := l) (n := 1) (s := s)
  have h2 := numS_lt (l := l) (n := 2) (s := (numS l 1 s).2)
  have h3 := numS_lt (l := l) (n := 2) (s := (numS l 2 (numS l 1 s).2).2)
  simp only [Nat.reducePow] at h1 h2 h3
  have v1 := fun t => valsD_len p l 1 [] t
  simp only [List.length_nil] at v1
  unfold frmD
  simp only
  split
  · exact ⟨by simp only; omega, by simp, by simp only; omega⟩
  · split
    · have := v1 (numS l 1 s).2
      exact ⟨by simp only; omega, by simp only; omega, by simp only; omega⟩
    · split
      · exact ⟨by simp only; omega, by simp, by simp⟩
      · split
        · have := v1 (numS l 2 (numS l 1 s).2).2
          exact ⟨by simp only; omega, by simp only; omega, by simp only; omega⟩
        · split
          · split
            · exact ⟨by simp, by simp, by simp only; omega⟩
            · exact ⟨by simp only [List.length_take]; omega, by simp, by simp only; omega⟩
          · split
            · have := valsD_len p l ((numS l 1 s).1 - 251) [] (numS l 2 (numS l 1 s).2).2
              simp only [List.length_nil] at this
              exact ⟨by simp only [List.length_append]; omega, by simp, by simp only; omega⟩
            · have a1 := valsD_len p l (numS l 2 (numS l 2 (numS l 1 s).2).2).1 [] (numS l 2 (numS l 2 (numS l 1 s).2).2).2
              generalize valsD p l (numS l 2 (numS l 2 (numS l 1 s).2).2).1 [] (numS l 2 (numS l 2 (numS l 1 s).2).2).2 = v at *
              have h4 := numS_lt (l := l) (n := 2) (s := v.2)
              simp only [Nat.reducePow] at h4
              have a2 := valsD_len p l (numS l 2 v.2).1 [] (numS l 2 v.2).2
              simp only [List.length_nil] at a1 a2
              exact ⟨by simp only; omega, by simp only; omega, by simp only; omega⟩
end Go.Proofs.Ytohkbpnblkkdgaa
