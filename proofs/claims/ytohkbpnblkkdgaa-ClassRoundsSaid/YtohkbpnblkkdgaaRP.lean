/- What the reference reads of a pool (plain). -/
import Derived.Test.YtohkbpnblkkdgaaR4
import Derived.Test.YtohkbpnblkkdgaaB5
namespace Go.Proofs.Ytohkbpnblkkdgaa
open Go.Vc
set_option maxRecDepth 100000
set_option linter.unusedSimpArgs false
set_option linter.unusedVariables false

def refOne (l : List UInt8) (p : Nat) : (Nat × Nat) ⊕ (Cst × Nat) :=
  let t := (l.getD p 0).toNat
  let z := (sizeS t).toNat
  let b := (l.take (p + 1 + z)).drop (p + 1)
  if l.length ≤ p then .inl (1, l.length)
  else if sizeS t < 0 then .inl (5, p)
  else if l.length < p + 1 + z then .inl (1, l.length)
  else if t = 1 then
    (if l.length < p + 1 + z + numB b then .inl (1, l.length)
     else if unitsS ((l.take (p + 1 + z + numB b)).drop (p + 1 + z)) = none then .inl (6, p)
     else .inr (⟨1, (l.take (p + 1 + z + numB b)).drop (p + 1 + z), 0, 0, 0⟩, p + 1 + z + numB b))
  else if t = 3 ∨ t = 4 ∨ t = 5 ∨ t = 6 then .inr (⟨t, [], numB b, 0, 0⟩, p + 1 + z)
  else if t = 7 ∨ t = 8 then .inr (⟨t, [], 0, numB b, 0⟩, p + 1 + z)
  else .inr (⟨t, [], 0, numB (b.take 2), numB (b.drop 2)⟩, p + 1 + z)
abbrev RR := List Cst × Nat × Nat × Nat
def refLoop (l : List UInt8) (n : Nat) : Nat → List Cst → Nat → RR
  | 0, cs, p => (cs, p, 0, 0)
  | k + 1, cs, p => if cs.length < n then
      (match refOne l p with
       | .inl e => ([], 0, e.1, e.2)
       | .inr (c, p') => if bigTwo c.tag then (if n < cs.length + 2 then ([], 0, 12, p) else refLoop l n k (cs ++ [c] ++ [Cst.zero]) p') else refLoop l n k (cs ++ [c]) p')
    else (cs, p, 0, 0)
def refRead (l : List UInt8) : RR :=
  if l.length < 2 then ([], 0, 1, l.length)
  else if numB (l.take 2) = 0 then ([], 0, 12, 0)
  else refLoop l (numB (l.take 2)) (numB (l.take 2)) [Cst.zero] 2
end Go.Proofs.Ytohkbpnblkkdgaa
