/- Frames of types: what writing a map gives, in plain Lean. -/
import Derived.Test.YthhfbnkmhgadaaaM2
namespace Go.Proofs.Ythhfbnkmhgadaaa
open Go.Vc
set_option maxRecDepth 100000
set_option linter.unusedSimpArgs false
set_option linter.unusedVariables false

structure VT where
  tag : Nat
  name : List UInt8
  at' : Int
  deriving DecidableEq
structure VT.Fit (v : VT) : Prop where
  tag : v.tag < 256
  lo : -9223372036854775808 ≤ v.at'
  hi : v.at' < 9223372036854775808
def VT.zero : VT := ⟨0, [], 0⟩
def VT.cells (v : VT) : List Value := [.int .u8 (v.tag : Int), str v.name, .int .i64 v.at']
def flatV (l : List VT) : List Value := l.flatMap VT.cells
theorem flatV_len (l : List VT) : (flatV l).length = l.length * 3 := by
  induction l with
  | nil => rfl
  | cons c l ih => simp only [flatV, List.flatMap_cons, List.length_append, List.length_cons] at ih ⊢; rw [ih]; simp [VT.cells]; omega
theorem flatV_drop (l : List VT) : ∀ k, (flatV l).drop (k * 3) = flatV (l.drop k) := by
  induction l with
  | nil => intro k; simp [flatV]
  | cons c l ih =>
    intro k
    cases k with
    | zero => simp
    | succ k =>
      rw [show (k + 1) * 3 = 3 + k * 3 by omega, ← List.drop_drop]
      exact ih k
theorem flatV_take (l : List VT) : ∀ k, (flatV l).take (k * 3) = flatV (l.take k) := by
  induction l with
  | nil => intro k; simp [flatV]
  | cons c l ih =>
    intro k
    cases k with
    | zero => simp [flatV]
    | succ k =>
      have h : (flatV (c :: l)).take ((k + 1) * 3) = c.cells ++ (flatV l).take (k * 3) := by
        rw [show (k + 1) * 3 = 3 + k * 3 by omega]
        show (c.cells ++ flatV l).take (3 + k * 3) = _
        have hc : c.cells.length = 3 := rfl
        rw [List.take_append, hc, Nat.add_sub_cancel_left, List.take_of_length_le (by rw [hc]; omega)]
      rw [h, ih k]; rfl
theorem flatV_at {l : List VT} {i : Nat} (hi : i < l.length) : ((flatV l).drop (i * 3)).take 3 = (l.getD i VT.zero).cells := by
  have h1 := flatV_drop l i
  have h2 : l.drop i = l.getD i VT.zero :: l.drop (i + 1) := by rw [List.drop_eq_getElem_cons hi]; simp [hi]
  rw [h1, h2]
  show ((l.getD i VT.zero).cells ++ flatV (l.drop (i + 1))).take 3 = _
  exact List.take_left' rfl
theorem flatS_drop (l : List Cst) : ∀ k, (flatS l).drop (k * 5) = flatS (l.drop k) := by
  induction l with
  | nil => intro k; simp [flatS]
  | cons c l ih =>
    intro k
    cases k with
    | zero => simp
    | succ k =>
      rw [show (k + 1) * 5 = 5 + k * 5 by omega, ← List.drop_drop]
      exact ih k

def thenE (e q : Nat) : Nat := if e = 0 then q else e
def valS (p : List Cst) (v : VT) : List UInt8 × Nat :=
  if v.tag = 7 then (UInt8.ofNat 7 :: bigS (clsS p v.name) 2, if clsS p v.name = 0 then 7 else 0)
  else if v.tag = 8 then (UInt8.ofNat 8 :: bigS (atU v.at') 2, if v.at' < 0 ∨ 65535 < v.at' then 17 else 0)
  else ([UInt8.ofNat v.tag], if 8 < v.tag then 17 else 0)
def valsS (p : List Cst) : List VT → List UInt8 × Nat
  | [] => ([], 0)
  | v :: r => ((valS p v).1 ++ (valsS p r).1, thenE (valS p v).2 (valsS p r).2)
theorem thenE_zero (e : Nat) : thenE e 0 = e := by unfold thenE; split <;> omega
theorem thenE_assoc (a b c : Nat) : thenE (thenE a b) c = thenE a (thenE b c) := by unfold thenE; split <;> simp_all
theorem valsS_snoc (p : List Cst) (l : List VT) (v : VT) : valsS p (l ++ [v]) = ((valsS p l).1 ++ (valS p v).1, thenE (valsS p l).2 (valS p v).2) := by
  induction l with
  | nil => simp only [List.nil_append, valsS, List.append_nil, thenE, if_true]; split <;> simp_all
  | cons x l ih => simp only [List.cons_append, valsS, ih, List.append_assoc, thenE_assoc]
theorem valS_len (p : List Cst) (v : VT) : (valS p v).1.length ≤ 3 := by
  unfold valS
  split
  · simp [bigS_len]
  · split
    · simp [bigS_len]
    · simp
theorem valsS_len (p : List Cst) (l : List VT) : (valsS p l).1.length ≤ 3 * l.length := by
  induction l with
  | nil => simp [valsS]
  | cons v l ih => have := valS_len p v; simp only [valsS, List.length_append, List.length_cons]; omega
theorem bigS_one (x : Nat) : bigS x 1 = [UInt8.ofNat (x % 256)] := by simp [bigS, List.range_succ]
theorem take_snoc {l : List VT} {i : Nat} (hi : i < l.length) : l.take (i + 1) = l.take i ++ [l.getD i VT.zero] := by
  rw [List.take_succ_eq_append_getElem hi]; simp [hi]
theorem idx_cls (p : List Cst) (name : List UInt8) : 1 + idxS (hitS p name) (p.drop 1) = ((clsS p name : Nat) : Int) := by
  unfold idxS clsS
  cases (p.drop 1).findIdx? (hitS p name) with
  | none => rfl
  | some i => simp only []; omega
theorem clsS_le (p : List Cst) (name : List UInt8) : clsS p name ≤ p.length := by
  unfold clsS
  cases h : (p.drop 1).findIdx? (hitS p name) with
  | none => exact Nat.zero_le _
  | some i =>
    have := (List.findIdx?_eq_some_iff_getElem.1 h).1
    simp only [List.length_drop] at this ⊢
    omega
end Go.Proofs.Ythhfbnkmhgadaaa
