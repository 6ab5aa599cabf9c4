/- Pools of constants: what writing one gives, in plain Lean. -/
import Derived.Test.YtgdmoimclelfhaaDoorBP
namespace Go.Proofs.YtgdmoimclelfhaaDoor
open Go.Vc
set_option maxRecDepth 100000
set_option linter.unusedSimpArgs false
set_option linter.unusedVariables false

structure Cst where
  tag : Nat
  text : List UInt8
  bits : Nat
  a : Nat
  b : Nat
structure Cst.Fit (c : Cst) : Prop where
  tag : c.tag < 256
  bits : c.bits < 18446744073709551616
  a : c.a < 65536
  b : c.b < 65536
def Cst.zero : Cst := ⟨0, [], 0, 0, 0⟩
def Cst.cells (c : Cst) : List Value := [.int .u8 (c.tag : Int), str c.text, .int .u64 (c.bits : Int), .int .u16 (c.a : Int), .int .u16 (c.b : Int)]
def flatS (l : List Cst) : List Value := l.flatMap Cst.cells
theorem flatS_len (l : List Cst) : (flatS l).length = l.length * 5 := by
  induction l with
  | nil => rfl
  | cons c l ih => simp only [flatS, List.flatMap_cons, List.length_append, List.length_cons] at ih ⊢; rw [ih]; simp [Cst.cells]; omega
theorem flatS_at {l : List Cst} {i : Nat} (hi : i < l.length) : ((flatS l).drop (i * 5)).take 5 = (l.getD i Cst.zero).cells := by
  induction l generalizing i with
  | nil => simp at hi
  | cons c l ih =>
    cases i with
    | zero => simp [flatS, Cst.cells]
    | succ i =>
      have h : (flatS (c :: l)).drop ((i + 1) * 5) = (flatS l).drop (i * 5) := by
        rw [show (i + 1) * 5 = 5 + i * 5 by omega, ← List.drop_drop]
        rfl
      rw [h, ih (by simpa using hi)]
      simp
theorem flatS_append (a b : List Cst) : flatS (a ++ b) = flatS a ++ flatS b := by simp [flatS]

def bigTwo (t : Nat) : Bool := decide (t = 5) || decide (t = 6)
/-- The error of a constant that may not stand there (0: it may). -/
def errS (empty : Bool) (c : Cst) : Nat :=
  if (decide (c.tag = 0)) ≠ empty then 5
  else if c.tag = 0 then 0
  else if c.tag = 1 then (if unitsS c.text = none then 6 else if 65535 < c.text.length then 12 else 0)
  else if c.tag = 3 ∨ c.tag = 4 then (if 4294967296 ≤ c.bits then 12 else 0)
  else if c.tag = 2 ∨ 12 < c.tag then 5 else 0
def bodyS (c : Cst) : List UInt8 :=
  if c.tag = 1 then bigS c.text.length 2 ++ c.text
  else if c.tag = 3 ∨ c.tag = 4 then bigS c.bits 4
  else if c.tag = 5 ∨ c.tag = 6 then bigS c.bits 8
  else if c.tag = 7 ∨ c.tag = 8 then bigS c.a 2
  else bigS c.a 2 ++ bigS c.b 2
def oneS (c : Cst) : List UInt8 := if c.tag = 0 then [] else UInt8.ofNat c.tag :: bodyS c
/-- Bytes, error, place. -/
def wrS : List Cst → Bool → Nat → List UInt8 → List UInt8 × Nat × Nat
  | [], empty, k, s => if empty then ([], 5, k) else (s, 0, 0)
  | c :: r, empty, k, s => if errS empty c ≠ 0 then ([], errS empty c, k) else wrS r (bigTwo c.tag) (k + 1) (s ++ oneS c)
def writeS (l : List Cst) : List UInt8 × Nat × Nat :=
  if l.length = 0 ∨ 65535 < l.length then ([], 12, 0) else wrS l true 0 (bigS l.length 2)
def wV (r : List UInt8 × Nat × Nat) : Value := .tuple #[str r.1, .int .i64 (r.2.1 : Int), .int .i64 (r.2.2 : Int)]

theorem bigS_pair {a b : Nat} (ha : a < 65536) (hb : b < 65536) : bigS (a * 65536 + b) 4 = bigS a 2 ++ bigS b 2 := by
  have h : ∀ x, bigS x 2 = [UInt8.ofNat (x / 256 % 256), UInt8.ofNat (x % 256)] := fun x => by simp [bigS, List.range_succ]
  have h4 : ∀ x, bigS x 4 = [UInt8.ofNat (x / 16777216 % 256), UInt8.ofNat (x / 65536 % 256), UInt8.ofNat (x / 256 % 256), UInt8.ofNat (x % 256)] := fun x => by simp [bigS, List.range_succ]
  rw [h, h, h4]
  have e1 : (a * 65536 + b) / 16777216 % 256 = a / 256 % 256 := by omega
  have e2 : (a * 65536 + b) / 65536 % 256 = a % 256 := by omega
  have e3 : (a * 65536 + b) / 256 % 256 = b / 256 % 256 := by omega
  have e4 : (a * 65536 + b) % 256 = b % 256 := by omega
  rw [e1, e2, e3, e4]; rfl
end Go.Proofs.YtgdmoimclelfhaaDoor
