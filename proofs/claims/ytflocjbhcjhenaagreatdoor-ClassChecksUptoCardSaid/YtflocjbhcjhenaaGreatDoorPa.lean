/- Plain laws: bits of bytes; units of a text in modified UTF-8, by two readers. Numbers as bytes, plainly. Pools of constants: what writing one gives, in plain Lean. Helpers on heaps. Instructions: what stands in memory. No condition. -/
import Derived.Test.YtflocjbhcjhenaaGreatDoorVcS
import Derived.Test.YtflocjbhcjhenaaGreatDoorT
set_option linter.unusedSimpArgs false
set_option linter.unusedVariables false
namespace Go.Vc
theorem or_add (k a x : Nat) (hx : x < 2 ^ k) : a * 2 ^ k ||| x = a * 2 ^ k + x := by
  rw [← Nat.shiftLeft_eq]; exact (Nat.shiftLeft_add_eq_or_of_lt hx a).symm
def enc (u : Nat) : List UInt8 :=
  if 0 < u ∧ u < 128 then [UInt8.ofNat u]
  else if u < 2048 then [UInt8.ofNat (192 + u / 64), UInt8.ofNat (128 + u % 64)]
  else [UInt8.ofNat (224 + u / 4096), UInt8.ofNat (128 + u / 64 % 64), UInt8.ofNat (128 + u % 64)]
end Go.Vc
namespace Go.Proofs.YtflocjbhcjhenaaGreatDoor
open Go.Vc
set_option maxRecDepth 100000
theorem Rd_block {h : Heap} {b : Nat} {vs : List Value} {e : TypeId} {fz : Nat × Nat} (hb : h[b]? = some (.cells vs.toArray e fz)) : Rd h b 0 vs := by
  intro j v hv
  rw [Nat.zero_add, cellAt_of hb]; simpa using hv
end Go.Proofs.YtflocjbhcjhenaaGreatDoor
namespace Go.Proofs.YtflocjbhcjhenaaGreatDoor
open Go.Vc
set_option maxRecDepth 100000
structure Cst where
  tag : Nat
  text : List UInt8
  bits : Nat
  a : Nat
  b : Nat
structure Cst.Fit (c : Cst) : Prop where
  tag : c.tag < 256
  bits : c.bits < 18446744073709551616
  a : c.a < 65536
  b : c.b < 65536
def Cst.zero : Cst := ⟨0, [], 0, 0, 0⟩
def Cst.cells (c : Cst) : List Value := [.int .u8 (c.tag : Int), str c.text, .int .u64 (c.bits : Int), .int .u16 (c.a : Int), .int .u16 (c.b : Int)]
def flatS (l : List Cst) : List Value := l.flatMap Cst.cells
theorem flatS_at {l : List Cst} {i : Nat} (hi : i < l.length) : ((flatS l).drop (i * 5)).take 5 = (l.getD i Cst.zero).cells := by
  induction l generalizing i with
  | nil => simp at hi
  | cons c l ih =>
    cases i with
    | zero => simp [flatS, Cst.cells]
    | succ i =>
      have h : (flatS (c :: l)).drop ((i + 1) * 5) = (flatS l).drop (i * 5) := by
        rw [show (i + 1) * 5 = 5 + i * 5 by omega, ← List.drop_drop]
        rfl
      rw [h, ih (by simpa using hi)]
      simp
end Go.Proofs.YtflocjbhcjhenaaGreatDoor
namespace Go.Proofs.YtflocjbhcjhenaaGreatDoor
open Go.Vc
set_option maxRecDepth 100000
theorem Own_ne {h : Heap} {base : Nat} {e e' : TypeId} {size n b : Nat} {v : Value} {xs : List Value} {cs : Array Value} {fz : Nat × Nat} (H : Own h base e size v n xs) (hb : h[b]? = some (.cells cs e' fz)) (hne : e ≠ e') : ¬ v.ownBlock = some b := by
  intro hk
  rcases H.2 with ⟨rfl, _⟩ | ⟨g, cap, cur, fz', rfl, _, hg, _⟩
  · simp [Value.ownBlock] at hk
  · simp [Value.ownBlock] at hk
    subst hk
    rw [hg] at hb
    cases hb
    exact hne rfl
theorem Fr_blk {S : Nat → Prop} {h h' : Heap} (H : Fr S h h') {b : Nat} {o : Obj} (hb : h[b]? = some o) (hS : ¬ S b) : h'[b]? = some o := by
  rw [H.same b (Array.getElem?_eq_some_iff.1 hb).1 hS, hb]
theorem Own_cast {h : Heap} {base : Nat} {e : TypeId} {size n n' : Nat} {v : Value} {xs xs' : List Value} (H : Own h base e size v n xs) (hn : n = n') (hx : xs = xs') : Own h base e size v n' xs' := hn ▸ hx ▸ H
theorem push_blk {h : Heap} {b : Nat} {o o' : Obj} (hb : h[b]? = some o) : (h.push o')[b]? = some o := Fr_blk (Ext.push h o') hb id
end Go.Proofs.YtflocjbhcjhenaaGreatDoor
namespace Go.Proofs.YtflocjbhcjhenaaGreatDoor
open Go.Vc
set_option maxRecDepth 100000
structure In where
  at' : Int
  op : Nat
  wide : Bool
  A : Int
  B : Int
  low : Int
  keys : List Int
  tgts : List Int
structure In.Fit (x : In) : Prop where
  op : x.op < 256
  at1 : -9223372036854775808 ≤ x.at'
  at2 : x.at' < 9223372036854775808
def intsV (l : List Int) : List Value := l.map fun n => .int .i64 n
def InV (x : In) (vk vt : Value) : List Value := [.int .i64 x.at', .int .u8 (x.op : Int), .bool x.wide, .int .i64 x.A, .int .i64 x.B, .int .i64 x.low, vk, vt]
def InC (h : Heap) (x : In) (r : List Value) : Prop := ∃ vk vt, r = InV x vk vt ∧ SlN h 1 vk x.keys.length (intsV x.keys) ∧ capOk vk ∧ SlN h 1 vt x.tgts.length (intsV x.tgts) ∧ capOk vt
def in0 : In := ⟨0, 0, false, 0, 0, 0, [], []⟩
def InsC (h : Heap) (v : Value) (l : List In) : Prop := ∃ rows : List (List Value), rows.length = l.length ∧ SlN h 8 v l.length rows.flatten ∧ ∀ i, i < l.length → InC h (l.getD i in0) (rows.getD i [])
theorem InC.ext {h h' : Heap} {x : In} {r : List Value} (H : InC h x r) (hx : Ext h h') : InC h' x r := by
  obtain ⟨vk, vt, h1, h2, h3, h4, h5⟩ := H
  exact ⟨vk, vt, h1, h2.ext (by decide) hx, h3, h4.ext (by decide) hx, h5⟩
theorem InC.len {h : Heap} {x : In} {r : List Value} (H : InC h x r) : r.length = 8 := by
  obtain ⟨vk, vt, rfl, _⟩ := H; rfl
theorem InsC.ext {h h' : Heap} {v : Value} {l : List In} (H : InsC h v l) (hx : Ext h h') : InsC h' v l := by
  obtain ⟨rows, h1, h2, h3⟩ := H
  exact ⟨rows, h1, h2.ext (by decide) hx, fun i hi => (h3 i hi).ext hx⟩
theorem flatten_atW (w : Nat) : ∀ (rows : List (List Value)) (i : Nat), (∀ r ∈ rows, r.length = w) → i < rows.length → (rows.flatten.drop (i * w)).take w = rows.getD i [] := by
  intro rows
  induction rows with
  | nil => intro i _ hi; simp at hi
  | cons r rows ih =>
    intro i hr hi
    have h3 := hr r List.mem_cons_self
    cases i with
    | zero => simp [h3]
    | succ i =>
      rw [List.flatten_cons, List.drop_append, List.drop_of_length_le (by rw [h3, Nat.add_mul]; omega), List.nil_append, h3, show (i + 1) * w - w = i * w by rw [Nat.add_mul]; omega, ih i (fun q hq => hr q (List.mem_cons_of_mem _ hq)) (by simpa using hi)]
      simp
theorem getD_mem {α : Type} {l : List α} {i : Nat} {d : α} (hi : i < l.length) : l.getD i d ∈ l := by simp [hi]
theorem InsC.at {h : Heap} {v : Value} {l : List In} (H : InsC h v l) {i : Nat} (hi : i < l.length) : ∃ b o c vk vt, v = .slice (some ⟨b, o, none⟩) l.length c ∧ Rd h b (o + i * 8) (InV (l.getD i in0) vk vt) ∧
    SlN h 1 vk (l.getD i in0).keys.length (intsV (l.getD i in0).keys) ∧ capOk vk ∧ SlN h 1 vt (l.getD i in0).tgts.length (intsV (l.getD i in0).tgts) ∧ capOk vt := by
  obtain ⟨rows, h1, h2, h3⟩ := H
  obtain ⟨b, o, c, e1, e2, e3⟩ := h2.at hi
  have hall : ∀ r ∈ rows, r.length = 8 := by
    intro r hr
    obtain ⟨j, hj, rfl⟩ := List.mem_iff_getElem.1 hr
    have := (h3 j (by omega)).len
    simpa [hj] using this
  rw [flatten_atW 8 rows i hall (by omega)] at e2
  obtain ⟨vk, vt, q1, q2, q3, q4, q5⟩ := h3 i hi
  rw [q1] at e2
  exact ⟨b, o, c, vk, vt, e1, e2, q2, q3, q4, q5⟩
theorem drop_getD {α : Type} {l : List α} {i : Nat} {d : α} (hi : i < l.length) : l.drop i = l.getD i d :: l.drop (i + 1) := by rw [List.drop_eq_getElem_cons hi]; simp [hi]
theorem take_getD {α : Type} {l : List α} {i : Nat} {d : α} (hi : i < l.length) : l.take (i + 1) = l.take i ++ [l.getD i d] := by rw [List.take_succ_eq_append_getElem hi]; simp [hi]
def InO (h : Heap) (base : Nat) (x : In) (r : List Value) : Prop := ∃ vk vt, r = InV x vk vt ∧ Own h base 3 1 vk x.keys.length (intsV x.keys) ∧ Own h base 3 1 vt x.tgts.length (intsV x.tgts)
theorem InO.inc {h : Heap} {base : Nat} {x : In} {r : List Value} (H : InO h base x r) : InC h x r := by
  obtain ⟨vk, vt, h1, h2, h3⟩ := H
  exact ⟨vk, vt, h1, h2.slN, h2.capOk, h3.slN, h3.capOk⟩
def begV (n : Nat) (ats : List Int) : List Value := (List.range n).map fun j => .bool (ats.contains ((j : Nat) : Int))
theorem begV_len (n : Nat) (ats : List Int) : (begV n ats).length = n := by simp [begV]
theorem begV_zero (n : Nat) : madeCells #[.bool false] n = (begV n []).toArray := by
  apply Array.ext
  · simp [madeCells, begV]
  · intro i h1 h2
    simp [madeCells, begV, Nat.mod_one]
theorem begV_at {n j : Nat} (hj : j < n) (ats : List Int) : (begV n ats)[j]? = some (.bool (ats.contains ((j : Nat) : Int))) := by simp [begV, hj]
theorem begV_set {n : Nat} (ats : List Int) (a : Nat) : (begV n ats).toArray.setIfInBounds a (.bool true) = (begV n (ats ++ [(a : Int)])).toArray := by
  apply Array.ext
  · simp [begV]
  · intro i h1 h2
    simp only [Array.size_setIfInBounds, List.size_toArray, begV_len] at h1
    rw [Array.getElem_setIfInBounds (by simpa [begV_len] using h1)]
    simp only [List.getElem_toArray]
    by_cases he : a = i
    · subst he; simp [begV]
    · simp [begV, he]; omega
end Go.Proofs.YtflocjbhcjhenaaGreatDoor
