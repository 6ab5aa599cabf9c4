/- Instructions: what stands in memory. -/
import Derived.Test.YtgdmoimclelfhaaDoorB0
import Derived.Test.YtgdmoimclelfhaaDoorT
namespace Go.Proofs.YtgdmoimclelfhaaDoor
open Go.Vc
set_option maxRecDepth 100000
set_option linter.unusedSimpArgs false
set_option linter.unusedVariables false

structure In where
  at' : Int
  op : Nat
  wide : Bool
  A : Int
  B : Int
  low : Int
  keys : List Int
  tgts : List Int
structure In.Fit (x : In) : Prop where
  op : x.op < 256
  at1 : -9223372036854775808 ≤ x.at'
  at2 : x.at' < 9223372036854775808
def intsV (l : List Int) : List Value := l.map fun n => .int .i64 n
theorem intsV_len (l : List Int) : (intsV l).length = l.length := by simp [intsV]
def InV (x : In) (vk vt : Value) : List Value := [.int .i64 x.at', .int .u8 (x.op : Int), .bool x.wide, .int .i64 x.A, .int .i64 x.B, .int .i64 x.low, vk, vt]
def InC (h : Heap) (x : In) (r : List Value) : Prop := ∃ vk vt, r = InV x vk vt ∧ SlN h 1 vk x.keys.length (intsV x.keys) ∧ capOk vk ∧ SlN h 1 vt x.tgts.length (intsV x.tgts) ∧ capOk vt
def in0 : In := ⟨0, 0, false, 0, 0, 0, [], []⟩
/-- A slice of instructions. -/
def InsC (h : Heap) (v : Value) (l : List In) : Prop := ∃ rows : List (List Value), rows.length = l.length ∧ SlN h 8 v l.length rows.flatten ∧ ∀ i, i < l.length → InC h (l.getD i in0) (rows.getD i [])
theorem InC.ext {h h' : Heap} {x : In} {r : List Value} (H : InC h x r) (hx : Ext h h') : InC h' x r := by
  obtain ⟨vk, vt, h1, h2, h3, h4, h5⟩ := H
  exact ⟨vk, vt, h1, h2.ext (by decide) hx, h3, h4.ext (by decide) hx, h5⟩
theorem InC.len {h : Heap} {x : In} {r : List Value} (H : InC h x r) : r.length = 8 := by
  obtain ⟨vk, vt, rfl, _⟩ := H; rfl
theorem InsC.ext {h h' : Heap} {v : Value} {l : List In} (H : InsC h v l) (hx : Ext h h') : InsC h' v l := by
  obtain ⟨rows, h1, h2, h3⟩ := H
  exact ⟨rows, h1, h2.ext (by decide) hx, fun i hi => (h3 i hi).ext hx⟩
theorem flatten_atW (w : Nat) : ∀ (rows : List (List Value)) (i : Nat), (∀ r ∈ rows, r.length = w) → i < rows.length → (rows.flatten.drop (i * w)).take w = rows.getD i [] := by
  intro rows
  induction rows with
  | nil => intro i _ hi; simp at hi
  | cons r rows ih =>
    intro i hr hi
    have h3 := hr r List.mem_cons_self
    cases i with
    | zero => simp [h3]
    | succ i =>
      rw [List.flatten_cons, List.drop_append, List.drop_of_length_le (by rw [h3, Nat.add_mul]; omega), List.nil_append, h3, show (i + 1) * w - w = i * w by rw [Nat.add_mul]; omega, ih i (fun q hq => hr q (List.mem_cons_of_mem _ hq)) (by simpa using hi)]
      simp
theorem getD_mem {α : Type} {l : List α} {i : Nat} {d : α} (hi : i < l.length) : l.getD i d ∈ l := by simp [hi]
theorem InsC.at {h : Heap} {v : Value} {l : List In} (H : InsC h v l) {i : Nat} (hi : i < l.length) : ∃ b o c vk vt, v = .slice (some ⟨b, o, none⟩) l.length c ∧ Rd h b (o + i * 8) (InV (l.getD i in0) vk vt) ∧
    SlN h 1 vk (l.getD i in0).keys.length (intsV (l.getD i in0).keys) ∧ capOk vk ∧ SlN h 1 vt (l.getD i in0).tgts.length (intsV (l.getD i in0).tgts) ∧ capOk vt := by
  obtain ⟨rows, h1, h2, h3⟩ := H
  obtain ⟨b, o, c, e1, e2, e3⟩ := h2.at hi
  have hall : ∀ r ∈ rows, r.length = 8 := by
    intro r hr
    obtain ⟨j, hj, rfl⟩ := List.mem_iff_getElem.1 hr
    have := (h3 j (by omega)).len
    simpa [hj] using this
  rw [flatten_atW 8 rows i hall (by omega)] at e2
  obtain ⟨vk, vt, q1, q2, q3, q4, q5⟩ := h3 i hi
  rw [q1] at e2
  exact ⟨b, o, c, vk, vt, e1, e2, q2, q3, q4, q5⟩

theorem drop_getD {α : Type} {l : List α} {i : Nat} {d : α} (hi : i < l.length) : l.drop i = l.getD i d :: l.drop (i + 1) := by rw [List.drop_eq_getElem_cons hi]; simp [hi]
theorem take_getD {α : Type} {l : List α} {i : Nat} {d : α} (hi : i < l.length) : l.take (i + 1) = l.take i ++ [l.getD i d] := by rw [List.take_succ_eq_append_getElem hi]; simp [hi]

theorem intsV_one (l : List Int) : ∀ u ∈ intsV l, oneCell u = true := by
  intro u hu
  obtain ⟨c, _, rfl⟩ := List.mem_map.1 hu
  rfl
theorem Own_two {h : Heap} {b1 b2 : Nat} {e1 e2 : TypeId} {s1 s2 n1 n2 : Nat} {v u : Value} {xs ys : List Value} (H : Own h b1 e1 s1 v n1 xs) (K : Own h b2 e2 s2 u n2 ys) (hne : e1 ≠ e2) : ∀ k, v.ownBlock = some k → ¬ u.ownBlock = some k := by
  intro k hk
  rcases H.2 with ⟨rfl, _⟩ | ⟨g, cap, cur, fz, rfl, _, hg, _⟩
  · simp [Value.ownBlock] at hk
  · simp [Value.ownBlock] at hk
    subst hk
    exact Own_ne K hg (Ne.symm hne)

def InO (h : Heap) (base : Nat) (x : In) (r : List Value) : Prop := ∃ vk vt, r = InV x vk vt ∧ Own h base 3 1 vk x.keys.length (intsV x.keys) ∧ Own h base 3 1 vt x.tgts.length (intsV x.tgts)
theorem InO.inc {h : Heap} {base : Nat} {x : In} {r : List Value} (H : InO h base x r) : InC h x r := by
  obtain ⟨vk, vt, h1, h2, h3⟩ := H
  exact ⟨vk, vt, h1, h2.slN, h2.capOk, h3.slN, h3.capOk⟩

def begV (n : Nat) (ats : List Int) : List Value := (List.range n).map fun j => .bool (ats.contains ((j : Nat) : Int))
theorem begV_len (n : Nat) (ats : List Int) : (begV n ats).length = n := by simp [begV]
theorem begV_zero (n : Nat) : madeCells #[.bool false] n = (begV n []).toArray := by
  apply Array.ext
  · simp [madeCells, begV]
  · intro i h1 h2
    simp [madeCells, begV, Nat.mod_one]
theorem begV_at {n j : Nat} (hj : j < n) (ats : List Int) : (begV n ats)[j]? = some (.bool (ats.contains ((j : Nat) : Int))) := by simp [begV, hj]
theorem begV_set {n : Nat} (ats : List Int) (a : Nat) : (begV n ats).toArray.setIfInBounds a (.bool true) = (begV n (ats ++ [(a : Int)])).toArray := by
  apply Array.ext
  · simp [begV]
  · intro i h1 h2
    simp only [Array.size_setIfInBounds, List.size_toArray, begV_len] at h1
    rw [Array.getElem_setIfInBounds (by simpa [begV_len] using h1)]
    simp only [List.getElem_toArray]
    by_cases he : a = i
    · subst he; simp [begV]
    · simp [begV, he]; omega
end Go.Proofs.YtgdmoimclelfhaaDoor
