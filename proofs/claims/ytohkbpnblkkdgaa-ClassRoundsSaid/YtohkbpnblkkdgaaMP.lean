/- Constants and class names of a pool, by index. Types and frames, as rows of cells. Frames out of bytes: what is read (plain). -/
import Derived.Test.YtohkbpnblkkdgaaB0
import Derived.Test.YtohkbpnblkkdgaaCp
import Derived.Test.YtohkbpnblkkdgaaR1
namespace Go.Proofs.Ytohkbpnblkkdgaa
open Go.Vc
set_option maxRecDepth 100000
set_option linter.unusedSimpArgs false
set_option linter.unusedVariables false

def isS (p : List Cst) (k tag : Nat) : Bool := decide (k < p.length) && (decide (0 < k) && decide ((p.getD k Cst.zero).tag = tag))
section
variable {h : Heap} {p : List Cst} {vp : Value}
theorem is_any (k tag : Nat) (hk : k < 65536) (hs : SlN h 5 vp p.length (flatS p)) :
    HCalls Try.prog 83 #[vp, .int .u16 k, .int .u8 tag] h fun v h' => h' = h ∧ v = .bool (isS p k tag) := by
  refine C.pool_Is_calls (args := [vp, .int .u16 k, .int .u8 tag]) rfl ?_
  have hs' := hs
  obtain ⟨_, a, c, rfl, _⟩ := hs'
  have hw : IntKind.i64.wrap (k : Int) = (k : Int) := wrap_i64 (by omega) (by omega)
  unfold isS
  by_cases h1 : k < p.length
  · have h1' : (k : Int) < p.length := by omega
    by_cases h2 : 0 < k
    · have h2' : (0 : Int) < k := by omega
      obtain ⟨b, o, c', heq, hrd, _⟩ := hs.at h1
      cases heq
      rw [flatS_at h1] at hrd
      generalize p.getD k Cst.zero = x at *
      have c0 : cellAt h ⟨b, o + k * 5, none⟩ = some (.int .u8 (x.tag : Int)) := hrd 0 _ rfl
      have e : decide ((x.tag : Int) = (tag : Int)) = decide (x.tag = tag) := decide_eq_decide.2 (by omega)
      simp (disch := first | omega | assumption) only [C.pool_Is_gos, T.tv, ↓reduceIte, Nat.reduceEqDiff, reduceCtorEq, Nat.reduceLeDiff, Nat.reducePow, Int.reducePow, Int.reduceToNat, Nat.reduceAdd, hw, h1', h2', c0, e]
      simp [h1, h2]
    · have h2' : ¬ (0 : Int) < k := by omega
      simp (disch := first | omega | assumption) only [C.pool_Is_gos, T.tv, ↓reduceIte, Nat.reduceEqDiff, reduceCtorEq, Nat.reduceLeDiff, Nat.reducePow, Int.reducePow, Int.reduceToNat, Nat.reduceAdd, hw, h1', h2']
      simp [h1, h2]
  · have h1' : ¬ (k : Int) < p.length := by omega
    simp (disch := first | omega | assumption) only [C.pool_Is_gos, T.tv, ↓reduceIte, Nat.reduceEqDiff, reduceCtorEq, Nat.reduceLeDiff, Nat.reducePow, Int.reducePow, Int.reduceToNat, Nat.reduceAdd, hw, h1']
    simp [h1]
theorem string_any (k : Nat) (hk : k < 65536) (hs : SlN h 5 vp p.length (flatS p)) :
    HCalls Try.prog 84 #[vp, .int .u16 k] h fun v h' => h' = h ∧ v = str (if isS p k 1 = true then (p.getD k Cst.zero).text else []) := by
  refine C.pool_String_calls (args := [vp, .int .u16 k]) rfl ?_
  simp (disch := first | omega | assumption) only [C.pool_String_gos, T.tv, ↓reduceIte, Nat.reduceEqDiff, reduceCtorEq, Nat.reduceLeDiff, Nat.reducePow, Int.reducePow, Int.reduceToNat, Nat.reduceAdd]
  refine eff_callF rfl ((is_any k 1 hk hs).mono ?_)
  rintro v1 h1 ⟨rfl, rfl⟩
  by_cases hi : isS p k 1 = true
  · have h1 : k < p.length := by
      unfold isS at hi
      simp at hi
      exact hi.1
    have h1' : (k : Int) < p.length := by omega
    obtain ⟨b, o, c', rfl, hrd, _⟩ := hs.at h1
    rw [flatS_at h1] at hrd
    rw [if_pos hi, hi]
    generalize p.getD k Cst.zero = x at *
    have c1 : cellAt _ ⟨b, o + k * 5 + 1, none⟩ = some (str x.text) := hrd 1 _ rfl
    simp (disch := first | omega | assumption) only [C.pool_String_gos, T.tv, ↓reduceIte, Nat.reduceEqDiff, reduceCtorEq, Nat.reduceLeDiff, Nat.reducePow, Int.reducePow, Int.reduceToNat, Nat.reduceAdd, h1', c1]
  · have hi' : isS p k 1 = false := by simpa using hi
    rw [if_neg hi, hi']
    simp (disch := first | omega | assumption) only [C.pool_String_gos, T.tv, ↓reduceIte, Nat.reduceEqDiff, reduceCtorEq, Nat.reduceLeDiff, Nat.reducePow, Int.reducePow, Int.reduceToNat, Nat.reduceAdd]
theorem ris_any (k tag : Nat) (hs : SlN h 5 vp p.length (flatS p)) :
    HCalls Try.prog 68 #[vp, .int .i64 k, .int .u8 tag] h fun v h' => h' = h ∧ v = .bool (isS p k tag) := by
  refine C.ref1_Is_calls (args := [vp, .int .i64 k, .int .u8 tag]) rfl ?_
  have hs' := hs
  obtain ⟨_, a, c, rfl, _⟩ := hs'
  unfold isS
  by_cases h2 : 0 < k
  · have h2' : (0 : Int) < k := by omega
    by_cases h1 : k < p.length
    · have h1' : (k : Int) < p.length := by omega
      obtain ⟨b, o, c', heq, hrd, _⟩ := hs.at h1
      cases heq
      rw [flatS_at h1] at hrd
      generalize p.getD k Cst.zero = x at *
      have c0 : cellAt h ⟨b, o + k * 5, none⟩ = some (.int .u8 (x.tag : Int)) := hrd 0 _ rfl
      have e : decide ((x.tag : Int) = (tag : Int)) = decide (x.tag = tag) := decide_eq_decide.2 (by omega)
      simp (disch := first | omega | assumption) only [C.ref1_Is_gos, T.tv, ↓reduceIte, Nat.reduceEqDiff, reduceCtorEq, Nat.reduceLeDiff, Nat.reducePow, Int.reducePow, Int.reduceToNat, Nat.reduceAdd, h1', h2', c0, e]
      simp [h1, h2]
    · have h1' : ¬ (k : Int) < p.length := by omega
      simp (disch := first | omega | assumption) only [C.ref1_Is_gos, T.tv, ↓reduceIte, Nat.reduceEqDiff, reduceCtorEq, Nat.reduceLeDiff, Nat.reducePow, Int.reducePow, Int.reduceToNat, Nat.reduceAdd, h1', h2']
      simp [h1]
  · have h2' : ¬ (0 : Int) < k := by omega
    simp (disch := first | omega | assumption) only [C.ref1_Is_gos, T.tv, ↓reduceIte, Nat.reduceEqDiff, reduceCtorEq, Nat.reduceLeDiff, Nat.reducePow, Int.reducePow, Int.reduceToNat, Nat.reduceAdd, h2']
    simp [h2]
theorem rstring_any (k : Nat) (hs : SlN h 5 vp p.length (flatS p)) :
    HCalls Try.prog 86 #[vp, .int .i64 k] h fun v h' => h' = h ∧ v = .tuple #[str (if isS p k 1 = true then (p.getD k Cst.zero).text else []), .bool (isS p k 1)] := by
  refine C.ref1_String_calls (args := [vp, .int .i64 k]) rfl ?_
  simp (disch := first | omega | assumption) only [C.ref1_String_gos, T.tv, ↓reduceIte, Nat.reduceEqDiff, reduceCtorEq, Nat.reduceLeDiff, Nat.reducePow, Int.reducePow, Int.reduceToNat, Nat.reduceAdd]
  refine eff_callF rfl ((ris_any k 1 hs).mono ?_)
  rintro v1 h1 ⟨rfl, rfl⟩
  by_cases hi : isS p k 1 = true
  · have h1 : k < p.length := by
      unfold isS at hi
      simp at hi
      exact hi.1
    have h1' : (k : Int) < p.length := by omega
    obtain ⟨b, o, c', rfl, hrd, _⟩ := hs.at h1
    rw [flatS_at h1] at hrd
    rw [if_pos hi, hi]
    generalize p.getD k Cst.zero = x at *
    have c1 : cellAt _ ⟨b, o + k * 5 + 1, none⟩ = some (str x.text) := hrd 1 _ rfl
    simp (disch := first | omega | assumption) only [C.ref1_String_gos, T.tv, ↓reduceIte, Nat.reduceEqDiff, reduceCtorEq, Nat.reduceLeDiff, Nat.reducePow, Int.reducePow, Int.reduceToNat, Nat.reduceAdd, h1', c1]
  · have hi' : isS p k 1 = false := by simpa using hi
    rw [if_neg hi, hi']
    simp (disch := first | omega | assumption) only [C.ref1_String_gos, T.tv, ↓reduceIte, Nat.reduceEqDiff, reduceCtorEq, Nat.reduceLeDiff, Nat.reducePow, Int.reducePow, Int.reduceToNat, Nat.reduceAdd]
def clsOfS (p : List Cst) (k : Nat) : List UInt8 × Bool :=
  if isS p k 7 = true then (if isS p (p.getD k Cst.zero).a 1 = true then (p.getD (p.getD k Cst.zero).a Cst.zero).text else [], isS p (p.getD k Cst.zero).a 1) else ([], false)
theorem classOf_any (k : Nat) (hf : ∀ c ∈ p, c.Fit) (hs : SlN h 5 vp p.length (flatS p)) :
    HCalls Try.prog 69 #[vp, .int .i64 k] h fun v h' => h' = h ∧ v = .tuple #[str (clsOfS p k).1, .bool (clsOfS p k).2] := by
  refine C.ref1_ClassOf_calls (args := [vp, .int .i64 k]) rfl ?_
  simp (disch := first | omega | assumption) only [C.ref1_ClassOf_gos, T.tv, ↓reduceIte, Nat.reduceEqDiff, reduceCtorEq, Nat.reduceLeDiff, Nat.reducePow, Int.reducePow, Int.reduceToNat, Nat.reduceAdd]
  refine eff_callF rfl ((ris_any k 7 hs).mono ?_)
  rintro v1 h1 ⟨rfl, rfl⟩
  unfold clsOfS
  by_cases hi : isS p k 7 = true
  · have h1 : k < p.length := by
      unfold isS at hi
      simp at hi
      exact hi.1
    have h1' : (k : Int) < p.length := by omega
    have hs' := hs
    obtain ⟨b, o, c', rfl, hrd, _⟩ := hs'.at h1
    rw [flatS_at h1] at hrd
    have hfa : (p.getD k Cst.zero).a < 65536 := (hf _ (by simp [h1])).a
    rw [if_pos hi, hi]
    generalize p.getD k Cst.zero = x at *
    have c3 : cellAt _ ⟨b, o + k * 5 + 3, none⟩ = some (.int .u16 (x.a : Int)) := hrd 3 _ rfl
    have hw : IntKind.i64.wrap (x.a : Int) = (x.a : Int) := wrap_i64 (by omega) (by omega)
    simp (disch := first | omega | assumption) only [C.ref1_ClassOf_gos, T.tv, ↓reduceIte, Nat.reduceEqDiff, reduceCtorEq, Nat.reduceLeDiff, Nat.reducePow, Int.reducePow, Int.reduceToNat, Nat.reduceAdd, h1', c3, hw]
    refine eff_callF rfl ((rstring_any x.a hs).mono ?_)
    rintro v2 h2 ⟨rfl, rfl⟩
    simp (disch := first | omega | assumption) only [C.ref1_ClassOf_gos, T.tv, ↓reduceIte, Nat.reduceEqDiff, reduceCtorEq, Nat.reduceLeDiff, Nat.reducePow, Int.reducePow, Int.reduceToNat, Nat.reduceAdd]
  · have hi' : isS p k 7 = false := by simpa using hi
    rw [if_neg hi, hi']
    simp (disch := first | omega | assumption) only [C.ref1_ClassOf_gos, T.tv, ↓reduceIte, Nat.reduceEqDiff, reduceCtorEq, Nat.reduceLeDiff, Nat.reducePow, Int.reducePow, Int.reduceToNat, Nat.reduceAdd]
end
theorem flatS_drop (l : List Cst) : ∀ k, (flatS l).drop (k * 5) = flatS (l.drop k) := by
  induction l with
  | nil => intro k; simp [flatS]
  | cons c l ih =>
    intro k
    cases k with
    | zero => simp
    | succ k =>
      rw [show (k + 1) * 5 = 5 + k * 5 by omega, ← List.drop_drop]
      exact ih k
end Go.Proofs.Ytohkbpnblkkdgaa
namespace Go.Proofs.Ytohkbpnblkkdgaa
open Go.Vc
set_option maxRecDepth 100000
set_option linter.unusedSimpArgs false
set_option linter.unusedVariables false

structure VT where
  tag : Nat
  name : List UInt8
  at' : Int
  deriving DecidableEq
structure VT.Fit (v : VT) : Prop where
  tag : v.tag < 256
  lo : -9223372036854775808 ≤ v.at'
  hi : v.at' < 9223372036854775808
def VT.zero : VT := ⟨0, [], 0⟩
def VT.cells (v : VT) : List Value := [.int .u8 (v.tag : Int), str v.name, .int .i64 v.at']
def flatV (l : List VT) : List Value := l.flatMap VT.cells
theorem flatV_len (l : List VT) : (flatV l).length = l.length * 3 := by
  induction l with
  | nil => rfl
  | cons c l ih => simp only [flatV, List.flatMap_cons, List.length_append, List.length_cons] at ih ⊢; rw [ih]; simp [VT.cells]; omega
theorem flatV_drop (l : List VT) : ∀ k, (flatV l).drop (k * 3) = flatV (l.drop k) := by
  induction l with
  | nil => intro k; simp [flatV]
  | cons c l ih =>
    intro k
    cases k with
    | zero => simp
    | succ k =>
      rw [show (k + 1) * 3 = 3 + k * 3 by omega, ← List.drop_drop]
      exact ih k
theorem flatV_take (l : List VT) : ∀ k, (flatV l).take (k * 3) = flatV (l.take k) := by
  induction l with
  | nil => intro k; simp [flatV]
  | cons c l ih =>
    intro k
    cases k with
    | zero => simp [flatV]
    | succ k =>
      have h : (flatV (c :: l)).take ((k + 1) * 3) = c.cells ++ (flatV l).take (k * 3) := by
        rw [show (k + 1) * 3 = 3 + k * 3 by omega]
        show (c.cells ++ flatV l).take (3 + k * 3) = _
        have hc : c.cells.length = 3 := rfl
        rw [List.take_append, hc, Nat.add_sub_cancel_left, List.take_of_length_le (by rw [hc]; omega)]
      rw [h, ih k]; rfl
theorem flatV_at {l : List VT} {i : Nat} (hi : i < l.length) : ((flatV l).drop (i * 3)).take 3 = (l.getD i VT.zero).cells := by
  have h1 := flatV_drop l i
  have h2 : l.drop i = l.getD i VT.zero :: l.drop (i + 1) := by rw [List.drop_eq_getElem_cons hi]; simp [hi]
  rw [h1, h2]
  show ((l.getD i VT.zero).cells ++ flatV (l.drop (i + 1))).take 3 = _
  exact List.take_left' rfl
theorem take_snoc {l : List VT} {i : Nat} (hi : i < l.length) : l.take (i + 1) = l.take i ++ [l.getD i VT.zero] := by
  rw [List.take_succ_eq_append_getElem hi]; simp [hi]
theorem eqCell_str (a b : List UInt8) : eqCell (str a) (str b) = decide (a = b) := by
  show ((⟨a.toArray⟩ : ByteArray) == ⟨b.toArray⟩) = _
  by_cases h : a = b
  · subst h
    simp only [decide_true]
    show (a.toArray == a.toArray) = true
    exact beq_self_eq_true _
  · simp only [h, decide_false]
    show (a.toArray == b.toArray) = false
    simpa using h
theorem vt_eqa (v : VT) : eqaC Try.prog 25 v.cells = true := by
  unfold eqaC
  rw [Try.underlying25]
  kernel_rfl
theorem vt_eqb (v u : VT) : eqbC Try.prog 25 v.cells u.cells = true := by
  unfold eqbC
  rw [Try.underlying25]
  kernel_rfl
theorem vt_row (v u : VT) : eqRow Try.prog 25 v.cells u.cells = decide (v = u) := by
  unfold eqRow
  rw [Try.underlying25]
  obtain ⟨t1, n1, a1⟩ := v
  obtain ⟨t2, n2, a2⟩ := u
  have h1 : eqCell (.int .u8 (t1 : Int)) (.int .u8 (t2 : Int)) = decide (t1 = t2) := by
    show (decide (IntKind.u8 = IntKind.u8) && ((t1 : Int) == (t2 : Int))) = _
    by_cases h : t1 = t2
    · subst h; simp
    · have : ¬ (t1 : Int) = t2 := by omega
      simp [h]; omega
  have h3 : eqCell (.int .i64 a1) (.int .i64 a2) = decide (a1 = a2) := by
    show (decide (IntKind.i64 = IntKind.i64) && (a1 == a2)) = _
    by_cases h : a1 = a2 <;> simp [h]
  show (((_ || eqCell (.int .u8 (t1 : Int)) (.int .u8 (t2 : Int))) && ((_ || eqCell (str n1) (str n2)) && ((_ || eqCell (.int .i64 a1) (.int .i64 a2)) && true)))) = _
  rw [h1, eqCell_str, h3]
  by_cases e1 : t1 = t2 <;> by_cases e2 : n1 = n2 <;> by_cases e3 : a1 = a2 <;> simp [e1, e2, e3]
structure Frm where
  at' : Int
  L : List VT
  S : List VT
def FrC (h : Heap) (f : Frm) (r : List Value) : Prop := ∃ vL vS, r = [.int .i64 f.at', vL, vS] ∧ SlN h 3 vL f.L.length (flatV f.L) ∧ capOk vL ∧ SlN h 3 vS f.S.length (flatV f.S) ∧ capOk vS
def FrsC (h : Heap) (v : Value) (fs : List Frm) : Prop := ∃ rows : List (List Value), rows.length = fs.length ∧ SlN h 3 v fs.length rows.flatten ∧ ∀ i, i < fs.length → FrC h (fs.getD i ⟨0, [], []⟩) (rows.getD i [])
structure Frm.Fit (f : Frm) : Prop where
  lo : -9223372036854775808 ≤ f.at'
  hi : f.at' < 9223372036854775808
  L : ∀ v ∈ f.L, v.Fit
  S : ∀ v ∈ f.S, v.Fit
theorem FrC.ext {h h' : Heap} {f : Frm} {r : List Value} (H : FrC h f r) (hx : Ext h h') : FrC h' f r := by
  obtain ⟨vL, vS, h1, h2, h3, h4, h5⟩ := H
  exact ⟨vL, vS, h1, h2.ext (by decide) hx, h3, h4.ext (by decide) hx, h5⟩
theorem FrC.len {h : Heap} {f : Frm} {r : List Value} (H : FrC h f r) : r.length = 3 := by
  obtain ⟨vL, vS, h1, _⟩ := H
  rw [h1]; rfl
theorem FrsC.ext {h h' : Heap} {v : Value} {fs : List Frm} (H : FrsC h v fs) (hx : Ext h h') : FrsC h' v fs := by
  obtain ⟨rows, h1, h2, h3⟩ := H
  exact ⟨rows, h1, h2.ext (by decide) hx, fun i hi => (h3 i hi).ext hx⟩
theorem flatten_at : ∀ (rows : List (List Value)) (i : Nat), (∀ r ∈ rows, r.length = 3) → i < rows.length → (rows.flatten.drop (i * 3)).take 3 = rows.getD i [] := by
  intro rows
  induction rows with
  | nil => intro i _ hi; simp at hi
  | cons r rows ih =>
    intro i hr hi
    have hrl : r.length = 3 := hr r (by simp)
    cases i with
    | zero =>
      rw [Nat.zero_mul, List.drop_zero, List.flatten_cons, List.take_left' hrl]; simp
    | succ i =>
      rw [show (i + 1) * 3 = 3 + i * 3 by omega, ← List.drop_drop, List.flatten_cons, List.drop_left' hrl, ih i (fun r h => hr r (by simp [h])) (by simpa using hi)]
      simp
theorem FrsC.at {h : Heap} {v : Value} {fs : List Frm} (H : FrsC h v fs) {i : Nat} (hi : i < fs.length) : ∃ b o c vL vS, v = .slice (some ⟨b, o, none⟩) fs.length c ∧ Rd h b (o + i * 3) [.int .i64 (fs.getD i ⟨0, [], []⟩).at', vL, vS] ∧
    SlN h 3 vL (fs.getD i ⟨0, [], []⟩).L.length (flatV (fs.getD i ⟨0, [], []⟩).L) ∧ capOk vL ∧ SlN h 3 vS (fs.getD i ⟨0, [], []⟩).S.length (flatV (fs.getD i ⟨0, [], []⟩).S) ∧ capOk vS := by
  obtain ⟨rows, h1, h2, h3⟩ := H
  obtain ⟨b, o, c, he, hr, _⟩ := h2.at hi
  have hlen : ∀ r ∈ rows, r.length = 3 := by
    intro r hr
    obtain ⟨j, hj, rfl⟩ := List.getElem_of_mem hr
    have := (h3 j (by omega)).len
    simpa [hj] using this
  rw [flatten_at rows i hlen (by omega)] at hr
  obtain ⟨vL, vS, g1, g2, g3, g4, g5⟩ := h3 i hi
  rw [g1] at hr
  exact ⟨b, o, c, vL, vS, he, hr, g2, g3, g4, g5⟩
theorem flatV_one (l : List VT) : ∀ u ∈ flatV l, oneCell u = true := by
  intro u hu
  simp only [flatV, List.mem_flatMap] at hu
  obtain ⟨v, _, hv⟩ := hu
  simp only [VT.cells, List.mem_cons, List.not_mem_nil, or_false] at hv
  rcases hv with rfl | rfl | rfl <;> rfl
end Go.Proofs.Ytohkbpnblkkdgaa
namespace Go.Proofs.Ytohkbpnblkkdgaa
open Go.Vc
set_option maxRecDepth 100000
set_option linter.unusedSimpArgs false
set_option linter.unusedVariables false

/-- A type of a value. -/
def valD (p : List Cst) (l : List UInt8) (s : RS) : VT × RS :=
  let t := numS l 1 s
  if t.1 = 7 then
    let k := numS l 2 t.2
    if isS p k.1 7 = true then (⟨7, (clsOfS p k.1).1, 0⟩, k.2) else (⟨7, [], 0⟩, failS 7 s.p k.2)
  else if t.1 = 8 then (⟨8, [], ((numS l 2 t.2).1 : Int)⟩, (numS l 2 t.2).2)
  else (⟨t.1, [], 0⟩, if 8 < t.1 then failS 17 s.p t.2 else t.2)
def valsD (p : List Cst) (l : List UInt8) : Nat → List VT → RS → List VT × RS
  | 0, xs, s => (xs, s)
  | n + 1, xs, s => if s.e ≠ 0 then (xs, s) else valsD p l n (xs ++ [(valD p l s).1]) (valD p l s).2
/-- A frame, and how far it lies behind the one ahead. -/
def frmD (p : List Cst) (l : List UInt8) (loc : List VT) (s : RS) : Frm × Nat × RS :=
  let t := numS l 1 s
  if t.1 < 64 then (⟨0, loc, []⟩, t.1, t.2)
  else if t.1 < 128 then (⟨0, loc, (valsD p l 1 [] t.2).1⟩, t.1 - 64, (valsD p l 1 [] t.2).2)
  else if t.1 < 247 then (⟨0, loc, []⟩, 0, failS 17 s.p t.2)
  else
    let d := numS l 2 t.2
    if t.1 = 247 then (⟨0, loc, (valsD p l 1 [] d.2).1⟩, d.1, (valsD p l 1 [] d.2).2)
    else if t.1 < 251 then
      if loc.length + t.1 < 251 then (⟨0, [], []⟩, d.1, failS 17 s.p d.2)
      else (⟨0, loc.take (loc.length + t.1 - 251), []⟩, d.1, d.2)
    else if t.1 < 255 then (⟨0, loc ++ (valsD p l (t.1 - 251) [] d.2).1, []⟩, d.1, (valsD p l (t.1 - 251) [] d.2).2)
    else
      let n := numS l 2 d.2
      let v := valsD p l n.1 [] n.2
      let m := numS l 2 v.2
      let w := valsD p l m.1 [] m.2
      (⟨0, v.1, w.1⟩, d.1, w.2)
def mapD (p : List Cst) (l : List UInt8) : Nat → Int → List VT → List Frm → RS → List Frm × RS
  | 0, _, _, fs, s => (fs, s)
  | n + 1, pl, loc, fs, s => if s.e ≠ 0 then (fs, s) else
    mapD p l n (pl + ((frmD p l loc s).2.1 + 1 : Nat)) (frmD p l loc s).1.L (fs ++ [⟨pl + ((frmD p l loc s).2.1 + 1 : Nat), (frmD p l loc s).1.L, (frmD p l loc s).1.S⟩]) (frmD p l loc s).2.2
def mapE (l : List UInt8) (r : List Frm × RS) : List Frm × Nat × Nat :=
  let s := if r.2.p < l.length then failS 2 r.2.p r.2 else r.2
  if s.e ≠ 0 then ([], s.e, s.es) else (r.1, 0, 0)
def mapA (p : List Cst) (l : List UInt8) (first : List VT) : List Frm × Nat × Nat :=
  mapE l (mapD p l (numS l 2 ⟨0, 0, 0⟩).1 (-1) first [] (numS l 2 ⟨0, 0, 0⟩).2)

theorem failS_e {e q : Nat} {s : RS} (h : s.e ≠ 0) : failS e q s = s := by unfold failS; rw [if_neg h]
theorem failS_ne {e q : Nat} {s : RS} (he : e ≠ 0) : (failS e q s).e ≠ 0 := by
  unfold failS; split
  · exact he
  · assumption
theorem mapD_bad {p : List Cst} {l : List UInt8} {n : Nat} {pl : Int} {loc : List VT} {fs : List Frm} {s : RS} (h : s.e ≠ 0) : mapD p l n pl loc fs s = (fs, s) := by
  cases n with
  | zero => rfl
  | succ n => rw [mapD, if_pos h]
theorem mapE_bad {l : List UInt8} {fs : List Frm} {s : RS} (h : s.e ≠ 0) : mapE l (fs, s) = ([], s.e, s.es) := by
  unfold mapE
  simp only [failS_e h, ite_self]
  rw [if_pos h]
theorem valsD_bad {p : List Cst} {l : List UInt8} {n : Nat} {xs : List VT} {s : RS} (h : s.e ≠ 0) : valsD p l n xs s = (xs, s) := by
  cases n with
  | zero => rfl
  | succ n => rw [valsD, if_pos h]
theorem num_e {l : List UInt8} {n : Nat} {s : RS} (h : (numS l n s).2.e = 0) : s.e = 0 := by
  unfold numS takeS at h
  split at h
  · rename_i h1; exact absurd h h1
  · omega
theorem vals_e (p : List Cst) (l : List UInt8) (n : Nat) (xs : List VT) (s : RS) (h : (valsD p l n xs s).2.e = 0) : s.e = 0 := by
  by_cases he : s.e = 0
  · exact he
  · rw [valsD_bad he] at h; exact h
theorem valD_fit (p : List Cst) (l : List UInt8) (s : RS) : (valD p l s).1.Fit := by
  have h1 := numS_lt (l := l) (n := 1) (s := s)
  have h2 := numS_lt (l := l) (n := 2) (s := (numS l 1 s).2)
  simp only [Nat.reducePow] at h1 h2
  unfold valD
  simp only
  split
  · split <;> exact ⟨by simp only; omega, by simp only; omega, by simp only; omega⟩
  · split
    · exact ⟨by simp only; omega, by simp only; omega, by simp only; omega⟩
    · exact ⟨h1, by simp only; omega, by simp only; omega⟩
theorem valsD_fit (p : List Cst) (l : List UInt8) : ∀ (n : Nat) (xs : List VT) (s : RS), (∀ v ∈ xs, v.Fit) → ∀ v ∈ (valsD p l n xs s).1, v.Fit := by
  intro n
  induction n with
  | zero => intro xs s h; exact h
  | succ n ih =>
    intro xs s h
    rw [valsD]
    split
    · exact h
    · refine ih _ _ fun v hv => ?_
      rcases List.mem_append.1 hv with hv | hv
      · exact h v hv
      · rw [List.mem_singleton.1 hv]; exact valD_fit p l s
theorem valsD_len (p : List Cst) (l : List UInt8) : ∀ (n : Nat) (xs : List VT) (s : RS), (valsD p l n xs s).1.length ≤ xs.length + n := by
  intro n
  induction n with
  | zero => intro xs s; exact Nat.le_refl _
  | succ n ih =>
    intro xs s
    rw [valsD]
    split
    · simp only; omega
    · have := ih (xs ++ [(valD p l s).1]) (valD p l s).2
      simp only [List.length_append, List.length_singleton] at this
      omega
theorem frmD_len (p : List Cst) (l : List UInt8) (loc : List VT) (s : RS) : (frmD p l loc s).1.L.length ≤ max (loc.length + 3) 65535 ∧ (frmD p l loc s).1.S.length ≤ 65535 ∧ (frmD p l loc s).2.1 ≤ 65535 := by
  have h1 := numS_lt (l := l) (n := 1) (s := s)
  have h2 := numS_lt (l := l) (n := 2) (s := (numS l 1 s).2)
  have h3 := numS_lt (l := l) (n := 2) (s := (numS l 2 (numS l 1 s).2).2)
  simp only [Nat.reducePow] at h1 h2 h3
  have v1 := fun t => valsD_len p l 1 [] t
  simp only [List.length_nil] at v1
  unfold frmD
  simp only
  split
  · exact ⟨by simp only; omega, by simp, by simp only; omega⟩
  · split
    · have := v1 (numS l 1 s).2
      exact ⟨by simp only; omega, by simp only; omega, by simp only; omega⟩
    · split
      · exact ⟨by simp only; omega, by simp, by simp⟩
      · split
        · have := v1 (numS l 2 (numS l 1 s).2).2
          exact ⟨by simp only; omega, by simp only; omega, by simp only; omega⟩
        · split
          · split
            · exact ⟨by simp, by simp, by simp only; omega⟩
            · exact ⟨by simp only [List.length_take]; omega, by simp, by simp only; omega⟩
          · split
            · have := valsD_len p l ((numS l 1 s).1 - 251) [] (numS l 2 (numS l 1 s).2).2
              simp only [List.length_nil] at this
              exact ⟨by simp only [List.length_append]; omega, by simp, by simp only; omega⟩
            · have a1 := valsD_len p l (numS l 2 (numS l 2 (numS l 1 s).2).2).1 [] (numS l 2 (numS l 2 (numS l 1 s).2).2).2
              generalize valsD p l (numS l 2 (numS l 2 (numS l 1 s).2).2).1 [] (numS l 2 (numS l 2 (numS l 1 s).2).2).2 = v at *
              have h4 := numS_lt (l := l) (n := 2) (s := v.2)
              simp only [Nat.reducePow] at h4
              have a2 := valsD_len p l (numS l 2 v.2).1 [] (numS l 2 v.2).2
              simp only [List.length_nil] at a1 a2
              exact ⟨by simp only; omega, by simp only; omega, by simp only; omega⟩
end Go.Proofs.Ytohkbpnblkkdgaa
