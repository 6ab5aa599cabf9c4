/- Frames of types: what writing a map gives, in plain Lean. -/
import Derived.Test.YtohkbpnblkkdgaaM2
import Derived.Test.YtohkbpnblkkdgaaMV
namespace Go.Proofs.Ytohkbpnblkkdgaa
open Go.Vc
set_option maxRecDepth 100000
set_option linter.unusedSimpArgs false
set_option linter.unusedVariables false


def thenE (e q : Nat) : Nat := if e = 0 then q else e
def valS (p : List Cst) (v : VT) : List UInt8 × Nat :=
  if v.tag = 7 then (UInt8.ofNat 7 :: bigS (clsS p v.name) 2, if clsS p v.name = 0 then 7 else 0)
  else if v.tag = 8 then (UInt8.ofNat 8 :: bigS (atU v.at') 2, if v.at' < 0 ∨ 65535 < v.at' then 17 else 0)
  else ([UInt8.ofNat v.tag], if 8 < v.tag then 17 else 0)
def valsS (p : List Cst) : List VT → List UInt8 × Nat
  | [] => ([], 0)
  | v :: r => ((valS p v).1 ++ (valsS p r).1, thenE (valS p v).2 (valsS p r).2)
theorem thenE_zero (e : Nat) : thenE e 0 = e := by unfold thenE; split <;> omega
theorem thenE_assoc (a b c : Nat) : thenE (thenE a b) c = thenE a (thenE b c) := by unfold thenE; split <;> simp_all
theorem valsS_snoc (p : List Cst) (l : List VT) (v : VT) : valsS p (l ++ [v]) = ((valsS p l).1 ++ (valS p v).1, thenE (valsS p l).2 (valS p v).2) := by
  induction l with
  | nil => simp only [List.nil_append, valsS, List.append_nil, thenE, if_true]; split <;> simp_all
  | cons x l ih => simp only [List.cons_append, valsS, ih, List.append_assoc, thenE_assoc]
theorem valS_len (p : List Cst) (v : VT) : (valS p v).1.length ≤ 3 := by
  unfold valS
  split
  · simp [bigS_len]
  · split
    · simp [bigS_len]
    · simp
theorem valsS_len (p : List Cst) (l : List VT) : (valsS p l).1.length ≤ 3 * l.length := by
  induction l with
  | nil => simp [valsS]
  | cons v l ih => have := valS_len p v; simp only [valsS, List.length_append, List.length_cons]; omega
theorem bigS_one (x : Nat) : bigS x 1 = [UInt8.ofNat (x % 256)] := by simp [bigS, List.range_succ]
theorem idx_cls (p : List Cst) (name : List UInt8) : 1 + idxS (hitS p name) (p.drop 1) = ((clsS p name : Nat) : Int) := by
  unfold idxS clsS
  cases (p.drop 1).findIdx? (hitS p name) with
  | none => rfl
  | some i => simp only []; omega
theorem clsS_le (p : List Cst) (name : List UInt8) : clsS p name ≤ p.length := by
  unfold clsS
  cases h : (p.drop 1).findIdx? (hitS p name) with
  | none => exact Nat.zero_le _
  | some i =>
    have := (List.findIdx?_eq_some_iff_getElem.1 h).1
    simp only [List.length_drop] at this ⊢
    omega
end Go.Proofs.Ytohkbpnblkkdgaa
