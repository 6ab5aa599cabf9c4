/- Types and frames, as rows of cells. -/
import Derived.Test.YtohkbpnblkkdgaaB0
namespace Go.Proofs.Ytohkbpnblkkdgaa
open Go.Vc
set_option maxRecDepth 100000
set_option linter.unusedSimpArgs false
set_option linter.unusedVariables false

structure VT where
  tag : Nat
  name : List UInt8
  at' : Int
  deriving DecidableEq
structure VT.Fit (v : VT) : Prop where
  tag : v.tag < 256
  lo : -9223372036854775808 ≤ v.at'
  hi : v.at' < 9223372036854775808
def VT.zero : VT := ⟨0, [], 0⟩
def VT.cells (v : VT) : List Value := [.int .u8 (v.tag : Int), str v.name, .int .i64 v.at']
def flatV (l : List VT) : List Value := l.flatMap VT.cells
theorem flatV_len (l : List VT) : (flatV l).length = l.length * 3 := by
  induction l with
  | nil => rfl
  | cons c l ih => simp only [flatV, List.flatMap_cons, List.length_append, List.length_cons] at ih ⊢; rw [ih]; simp [VT.cells]; omega
theorem flatV_drop (l : List VT) : ∀ k, (flatV l).drop (k * 3) = flatV (l.drop k) := by
  induction l with
  | nil => intro k; simp [flatV]
  | cons c l ih =>
    intro k
    cases k with
    | zero => simp
    | succ k =>
      rw [show (k + 1) * 3 = 3 + k * 3 by omega, ← List.drop_drop]
      exact ih k
theorem flatV_take (l : List VT) : ∀ k, (flatV l).take (k * 3) = flatV (l.take k) := by
  induction l with
  | nil => intro k; simp [flatV]
  | cons c l ih =>
    intro k
    cases k with
    | zero => simp [flatV]
    | succ k =>
      have h : (flatV (c :: l)).take ((k + 1) * 3) = c.cells ++ (flatV l).take (k * 3) := by
        rw [show (k + 1) * 3 = 3 + k * 3 by omega]
        show (c.cells ++ flatV l).take (3 + k * 3) = _
        have hc : c.cells.length = 3 := rfl
        rw [List.take_append, hc, Nat.add_sub_cancel_left, List.take_of_length_le (by rw [hc]; omega)]
      rw [h, ih k]; rfl
theorem flatV_at {l : List VT} {i : Nat} (hi : i < l.length) : ((flatV l).drop (i * 3)).take 3 = (l.getD i VT.zero).cells := by
  have h1 := flatV_drop l i
  have h2 : l.drop i = l.getD i VT.zero :: l.drop (i + 1) := by rw [List.drop_eq_getElem_cons hi]; simp [hi]
  rw [h1, h2]
  show ((l.getD i VT.zero).cells ++ flatV (l.drop (i + 1))).take 3 = _
  exact List.take_left' rfl
theorem take_snoc {l : List VT} {i : Nat} (hi : i < l.length) : l.take (i + 1) = l.take i ++ [l.getD i VT.zero] := by
  rw [List.take_succ_eq_append_getElem hi]; simp [hi]
theorem eqCell_str (a b : List UInt8) : eqCell (str a) (str b) = decide (a = b) := by
  show ((⟨a.toArray⟩ : ByteArray) == ⟨b.toArray⟩) = _
  by_cases h : a = b
  · subst h
    simp only [decide_true]
    show (a.toArray == a.toArray) = true
    exact beq_self_eq_true _
  · simp only [h, decide_false]
    show (a.toArray == b.toArray) = false
    simpa using h
theorem vt_eqa (v : VT) : eqaC Try.prog 25 v.cells = true := by
  unfold eqaC
  rw [Try.underlying25]
  kernel_rfl
theorem vt_eqb (v u : VT) : eqbC Try.prog 25 v.cells u.cells = true := by
  unfold eqbC
  rw [Try.underlying25]
  kernel_rfl
theorem vt_row (v u : VT) : eqRow Try.prog 25 v.cells u.cells = decide (v = u) := by
  unfold eqRow
  rw [Try.underlying25]
  obtain ⟨t1, n1, a1⟩ := v
  obtain ⟨t2, n2, a2⟩ := u
  have h1 : eqCell (.int .u8 (t1 : Int)) (.int .u8 (t2 : Int)) = decide (t1 = t2) := by
    show (decide (IntKind.u8 = IntKind.u8) && ((t1 : Int) == (t2 : Int))) = _
    by_cases h : t1 = t2
    · subst h; simp
    · have : ¬ (t1 : Int) = t2 := by omega
      simp [h]; omega
  have h3 : eqCell (.int .i64 a1) (.int .i64 a2) = decide (a1 = a2) := by
    show (decide (IntKind.i64 = IntKind.i64) && (a1 == a2)) = _
    by_cases h : a1 = a2 <;> simp [h]
  show (((_ || eqCell (.int .u8 (t1 : Int)) (.int .u8 (t2 : Int))) && ((_ || eqCell (str n1) (str n2)) && ((_ || eqCell (.int .i64 a1) (.int .i64 a2)) && true)))) = _
  rw [h1, eqCell_str, h3]
  by_cases e1 : t1 = t2 <;> by_cases e2 : n1 = n2 <;> by_cases e3 : a1 = a2 <;> simp [e1, e2, e3]
structure Frm where
  at' : Int
  L : List VT
  S : List VT
def FrC (h : Heap) (f : Frm) (r : List Value) : Prop := ∃ vL vS, r = [.int .i64 f.at', vL, vS] ∧ SlN h 3 vL f.L.length (flatV f.L) ∧ capOk vL ∧ SlN h 3 vS f.S.length (flatV f.S) ∧ capOk vS
def FrsC (h : Heap) (v : Value) (fs : List Frm) : Prop := ∃ rows : List (List Value), rows.length = fs.length ∧ SlN h 3 v fs.length rows.flatten ∧ ∀ i, i < fs.length → FrC h (fs.getD i ⟨0, [], []⟩) (rows.getD i [])
structure Frm.Fit (f : Frm) : Prop where
  lo : -9223372036854775808 ≤ f.at'
  hi : f.at' < 9223372036854775808
  L : ∀ v ∈ f.L, v.Fit
  S : ∀ v ∈ f.S, v.Fit
theorem FrC.ext {h h' : Heap} {f : Frm} {r : List Value} (H : FrC h f r) (hx : Ext h h') : FrC h' f r := by
  obtain ⟨vL, vS, h1, h2, h3, h4, h5⟩ := H
  exact ⟨vL, vS, h1, h2.ext (by decide) hx, h3, h4.ext (by decide) hx, h5⟩
theorem FrC.len {h : Heap} {f : Frm} {r : List Value} (H : FrC h f r) : r.length = 3 := by
  obtain ⟨vL, vS, h1, _⟩ := H
  rw [h1]; rfl
theorem FrsC.ext {h h' : Heap} {v : Value} {fs : List Frm} (H : FrsC h v fs) (hx : Ext h h') : FrsC h' v fs := by
  obtain ⟨rows, h1, h2, h3⟩ := H
  exact ⟨rows, h1, h2.ext (by decide) hx, fun i hi => (h3 i hi).ext hx⟩
theorem flatten_at : ∀ (rows : List (List Value)) (i : Nat), (∀ r ∈ rows, r.length = 3) → i < rows.length → (rows.flatten.drop (i * 3)).take 3 = rows.getD i [] := by
  intro rows
  induction rows with
  | nil => intro i _ hi; simp at hi
  | cons r rows ih =>
    intro i hr hi
    have hrl : r.length = 3 := hr r (by simp)
    cases i with
    | zero =>
      rw [Nat.zero_mul, List.drop_zero, List.flatten_cons, List.take_left' hrl]; simp
    | succ i =>
      rw [show (i + 1) * 3 = 3 + i * 3 by omega, ← List.drop_drop, List.flatten_cons, List.drop_left' hrl, ih i (fun r h => hr r (by simp [h])) (by simpa using hi)]
      simp
theorem FrsC.at {h : Heap} {v : Value} {fs : List Frm} (H : FrsC h v fs) {i : Nat} (hi : i < fs.length) : ∃ b o c vL vS, v = .slice (some ⟨b, o, none⟩) fs.length c ∧ Rd h b (o + i * 3) [.int .i64 (fs.getD i ⟨0, [], []⟩).at', vL, vS] ∧
    SlN h 3 vL (fs.getD i ⟨0, [], []⟩).L.length (flatV (fs.getD i ⟨0, [], []⟩).L) ∧ capOk vL ∧ SlN h 3 vS (fs.getD i ⟨0, [], []⟩).S.length (flatV (fs.getD i ⟨0, [], []⟩).S) ∧ capOk vS := by
  obtain ⟨rows, h1, h2, h3⟩ := H
  obtain ⟨b, o, c, he, hr, _⟩ := h2.at hi
  have hlen : ∀ r ∈ rows, r.length = 3 := by
    intro r hr
    obtain ⟨j, hj, rfl⟩ := List.getElem_of_mem hr
    have := (h3 j (by omega)).len
    simpa [hj] using this
  rw [flatten_at rows i hlen (by omega)] at hr
  obtain ⟨vL, vS, g1, g2, g3, g4, g5⟩ := h3 i hi
  rw [g1] at hr
  exact ⟨b, o, c, vL, vS, he, hr, g2, g3, g4, g5⟩
theorem flatV_one (l : List VT) : ∀ u ∈ flatV l, oneCell u = true := by
  intro u hu
  simp only [flatV, List.mem_flatMap] at hu
  obtain ⟨v, _, hv⟩ := hu
  simp only [VT.cells, List.mem_cons, List.not_mem_nil, or_false] at hv
  rcases hv with rfl | rfl | rfl <;> rfl
end Go.Proofs.Ytohkbpnblkkdgaa
