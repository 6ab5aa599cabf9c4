/- Locals of instructions, by the program and by the reference. No condition. -/
import Derived.Test.YtgdmoimclelfhaaDoorN4
import Derived.Test.YtgdmoimclelfhaaDoorMP
import Derived.Test.YtgdmoimclelfhaaDoorDH
import Derived.Test.YtgdmoimclelfhaaDoorCv
namespace Go.Proofs.YtgdmoimclelfhaaDoor
open Go.Vc
set_option maxRecDepth 100000
set_option linter.unusedSimpArgs false
set_option linter.unusedVariables false

def twoP (op : Nat) : Bool := decide (op = 22 ∨ op = 24 ∨ op = 55 ∨ op = 57 ∨ (30 ≤ op ∧ op ≤ 33) ∨ (38 ≤ op ∧ op ≤ 41) ∨ (63 ≤ op ∧ op ≤ 66) ∨ (71 ≤ op ∧ op ≤ 74))
def lclP (op : Nat) (A : Int) : Int := if (21 ≤ op ∧ op ≤ 25) ∨ (54 ≤ op ∧ op ≤ 58) ∨ op = 132 then A else if 26 ≤ op ∧ op ≤ 45 then (((op - 26) % 4 : Nat) : Int) else if 59 ≤ op ∧ op ≤ 78 then (((op - 59) % 4 : Nat) : Int) else -1
def hasP (op : Nat) : Bool := decide ((21 ≤ op ∧ op ≤ 45) ∨ (54 ≤ op ∧ op ≤ 78) ∨ op = 132)
def roomP (op : Nat) (A L : Int) : Bool := !hasP op || (decide (0 ≤ lclP op A) && decide (lclP op A < L) && (!twoP op || decide (lclP op A + 1 < L)))
theorem formS_loc : ∀ op, op < 256 → (formS op = 6 ↔ (21 ≤ op ∧ op ≤ 25) ∨ (54 ≤ op ∧ op ≤ 58)) ∧ (formS op = 7 ↔ op = 132) := by decide +kernel
theorem frm_loc : ∀ op, op < 256 → (frmL op = [108] ↔ (21 ≤ op ∧ op ≤ 25) ∨ (54 ≤ op ∧ op ≤ 58)) ∧ (frmL op = [110] ↔ op = 132) := by decide +kernel

set_option maxHeartbeats 4000000 in
theorem wideLocal_any (op : Nat) (hop : op < 256) (h : Heap) : HCalls Tryd.prog 16 #[.int .u8 op] h fun v h' => h' = h ∧ v = .bool (twoP op) := by
  refine C.code_wideLocal_calls (args := [.int .u8 op]) rfl ?_
  by_cases p0 : op ≤ 21
  case pos =>
    have e22 : ¬ (op : Int) = 22 := by omega
    have e24 : ¬ (op : Int) = 24 := by omega
    have e55 : ¬ (op : Int) = 55 := by omega
    have e57 : ¬ (op : Int) = 57 := by omega
    have c0 : ¬ (30 : Int) ≤ (op : Int) := by omega
    have c1 : (op : Int) ≤ 33 := by omega
    have c2 : ¬ (38 : Int) ≤ (op : Int) := by omega
    have c3 : (op : Int) ≤ 41 := by omega
    have c4 : ¬ (63 : Int) ≤ (op : Int) := by omega
    have c5 : (op : Int) ≤ 66 := by omega
    have c6 : ¬ (71 : Int) ≤ (op : Int) := by omega
    have c7 : (op : Int) ≤ 74 := by omega
    have hr : twoP op = false := decide_eq_false (by omega)
    rw [hr]
    simp (disch := first | omega | assumption) only [C.code_wideLocal_gos, T.tv, ↓reduceIte, Nat.reduceEqDiff, reduceCtorEq, Nat.reduceLeDiff, Nat.reducePow, Int.reducePow, Int.reduceToNat, Nat.reduceAdd, eq_false e22, eq_false e24, eq_false e55, eq_false e57, c0, c1, c2, c3, c4, c5, c6, c7, decide_true, decide_false]
    try rfl
  by_cases p1 : op ≤ 22
  case pos =>
    have e22 : (op : Int) = 22 := by omega
    have e24 : ¬ (op : Int) = 24 := by omega
    have e55 : ¬ (op : Int) = 55 := by omega
    have e57 : ¬ (op : Int) = 57 := by omega
    have c0 : ¬ (30 : Int) ≤ (op : Int) := by omega
    have c1 : (op : Int) ≤ 33 := by omega
    have c2 : ¬ (38 : Int) ≤ (op : Int) := by omega
    have c3 : (op : Int) ≤ 41 := by omega
    have c4 : ¬ (63 : Int) ≤ (op : Int) := by omega
    have c5 : (op : Int) ≤ 66 := by omega
    have c6 : ¬ (71 : Int) ≤ (op : Int) := by omega
    have c7 : (op : Int) ≤ 74 := by omega
    have hr : twoP op = true := decide_eq_true (by omega)
    rw [hr]
    simp (disch := first | omega | assumption) only [C.code_wideLocal_gos, T.tv, ↓reduceIte, Nat.reduceEqDiff, reduceCtorEq, Nat.reduceLeDiff, Nat.reducePow, Int.reducePow, Int.reduceToNat, Nat.reduceAdd, eq_true e22, eq_false e24, eq_false e55, eq_false e57, c0, c1, c2, c3, c4, c5, c6, c7, decide_true, decide_false]
    try rfl
  by_cases p2 : op ≤ 23
  case pos =>
    have e22 : ¬ (op : Int) = 22 := by omega
    have e24 : ¬ (op : Int) = 24 := by omega
    have e55 : ¬ (op : Int) = 55 := by omega
    have e57 : ¬ (op : Int) = 57 := by omega
    have c0 : ¬ (30 : Int) ≤ (op : Int) := by omega
    have c1 : (op : Int) ≤ 33 := by omega
    have c2 : ¬ (38 : Int) ≤ (op : Int) := by omega
    have c3 : (op : Int) ≤ 41 := by omega
    have c4 : ¬ (63 : Int) ≤ (op : Int) := by omega
    have c5 : (op : Int) ≤ 66 := by omega
    have c6 : ¬ (71 : Int) ≤ (op : Int) := by omega
    have c7 : (op : Int) ≤ 74 := by omega
    have hr : twoP op = false := decide_eq_false (by omega)
    rw [hr]
    simp (disch := first | omega | assumption) only [C.code_wideLocal_gos, T.tv, ↓reduceIte, Nat.reduceEqDiff, reduceCtorEq, Nat.reduceLeDiff, Nat.reducePow, Int.reducePow, Int.reduceToNat, Nat.reduceAdd, eq_false e22, eq_false e24, eq_false e55, eq_false e57, c0, c1, c2, c3, c4, c5, c6, c7, decide_true, decide_false]
    try rfl
  by_cases p3 : op ≤ 24
  case pos =>
    have e22 : ¬ (op : Int) = 22 := by omega
    have e24 : (op : Int) = 24 := by omega
    have e55 : ¬ (op : Int) = 55 := by omega
    have e57 : ¬ (op : Int) = 57 := by omega
    have c0 : ¬ (30 : Int) ≤ (op : Int) := by omega
    have c1 : (op : Int) ≤ 33 := by omega
    have c2 : ¬ (38 : Int) ≤ (op : Int) := by omega
    have c3 : (op : Int) ≤ 41 := by omega
    have c4 : ¬ (63 : Int) ≤ (op : Int) := by omega
    have c5 : (op : Int) ≤ 66 := by omega
    have c6 : ¬ (71 : Int) ≤ (op : Int) := by omega
    have c7 : (op : Int) ≤ 74 := by omega
    have hr : twoP op = true := decide_eq_true (by omega)
    rw [hr]
    simp (disch := first | omega | assumption) only [C.code_wideLocal_gos, T.tv, ↓reduceIte, Nat.reduceEqDiff, reduceCtorEq, Nat.reduceLeDiff, Nat.reducePow, Int.reducePow, Int.reduceToNat, Nat.reduceAdd, eq_false e22, eq_true e24, eq_false e55, eq_false e57, c0, c1, c2, c3, c4, c5, c6, c7, decide_true, decide_false]
    try rfl
  by_cases p4 : op ≤ 29
  case pos =>
    have e22 : ¬ (op : Int) = 22 := by omega
    have e24 : ¬ (op : Int) = 24 := by omega
    have e55 : ¬ (op : Int) = 55 := by omega
    have e57 : ¬ (op : Int) = 57 := by omega
    have c0 : ¬ (30 : Int) ≤ (op : Int) := by omega
    have c1 : (op : Int) ≤ 33 := by omega
    have c2 : ¬ (38 : Int) ≤ (op : Int) := by omega
    have c3 : (op : Int) ≤ 41 := by omega
    have c4 : ¬ (63 : Int) ≤ (op : Int) := by omega
    have c5 : (op : Int) ≤ 66 := by omega
    have c6 : ¬ (71 : Int) ≤ (op : Int) := by omega
    have c7 : (op : Int) ≤ 74 := by omega
    have hr : twoP op = false := decide_eq_false (by omega)
    rw [hr]
    simp (disch := first | omega | assumption) only [C.code_wideLocal_gos, T.tv, ↓reduceIte, Nat.reduceEqDiff, reduceCtorEq, Nat.reduceLeDiff, Nat.reducePow, Int.reducePow, Int.reduceToNat, Nat.reduceAdd, eq_false e22, eq_false e24, eq_false e55, eq_false e57, c0, c1, c2, c3, c4, c5, c6, c7, decide_true, decide_false]
    try rfl
  by_cases p5 : op ≤ 33
  case pos =>
    have e22 : ¬ (op : Int) = 22 := by omega
    have e24 : ¬ (op : Int) = 24 := by omega
    have e55 : ¬ (op : Int) = 55 := by omega
    have e57 : ¬ (op : Int) = 57 := by omega
    have c0 : (30 : Int) ≤ (op : Int) := by omega
    have c1 : (op : Int) ≤ 33 := by omega
    have c2 : ¬ (38 : Int) ≤ (op : Int) := by omega
    have c3 : (op : Int) ≤ 41 := by omega
    have c4 : ¬ (63 : Int) ≤ (op : Int) := by omega
    have c5 : (op : Int) ≤ 66 := by omega
    have c6 : ¬ (71 : Int) ≤ (op : Int) := by omega
    have c7 : (op : Int) ≤ 74 := by omega
    have hr : twoP op = true := decide_eq_true (by omega)
    rw [hr]
    simp (disch := first | omega | assumption) only [C.code_wideLocal_gos, T.tv, ↓reduceIte, Nat.reduceEqDiff, reduceCtorEq, Nat.reduceLeDiff, Nat.reducePow, Int.reducePow, Int.reduceToNat, Nat.reduceAdd, eq_false e22, eq_false e24, eq_false e55, eq_false e57, c0, c1, c2, c3, c4, c5, c6, c7, decide_true, decide_false]
    try rfl
  by_cases p6 : op ≤ 37
  case pos =>
    have e22 : ¬ (op : Int) = 22 := by omega
    have e24 : ¬ (op : Int) = 24 := by omega
    have e55 : ¬ (op : Int) = 55 := by omega
    have e57 : ¬ (op : Int) = 57 := by omega
    have c0 : (30 : Int) ≤ (op : Int) := by omega
    have c1 : ¬ (op : Int) ≤ 33 := by omega
    have c2 : ¬ (38 : Int) ≤ (op : Int) := by omega
    have c3 : (op : Int) ≤ 41 := by omega
    have c4 : ¬ (63 : Int) ≤ (op : Int) := by omega
    have c5 : (op : Int) ≤ 66 := by omega
    have c6 : ¬ (71 : Int) ≤ (op : Int) := by omega
    have c7 : (op : Int) ≤ 74 := by omega
    have hr : twoP op = false := decide_eq_false (by omega)
    rw [hr]
    simp (disch := first | omega | assumption) only [C.code_wideLocal_gos, T.tv, ↓reduceIte, Nat.reduceEqDiff, reduceCtorEq, Nat.reduceLeDiff, Nat.reducePow, Int.reducePow, Int.reduceToNat, Nat.reduceAdd, eq_false e22, eq_false e24, eq_false e55, eq_false e57, c0, c1, c2, c3, c4, c5, c6, c7, decide_true, decide_false]
    try rfl
  by_cases p7 : op ≤ 41
  case pos =>
    have e22 : ¬ (op : Int) = 22 := by omega
    have e24 : ¬ (op : Int) = 24 := by omega
    have e55 : ¬ (op : Int) = 55 := by omega
    have e57 : ¬ (op : Int) = 57 := by omega
    have c0 : (30 : Int) ≤ (op : Int) := by omega
    have c1 : ¬ (op : Int) ≤ 33 := by omega
    have c2 : (38 : Int) ≤ (op : Int) := by omega
    have c3 : (op : Int) ≤ 41 := by omega
    have c4 : ¬ (63 : Int) ≤ (op : Int) := by omega
    have c5 : (op : Int) ≤ 66 := by omega
    have c6 : ¬ (71 : Int) ≤ (op : Int) := by omega
    have c7 : (op : Int) ≤ 74 := by omega
    have hr : twoP op = true := decide_eq_true (by omega)
    rw [hr]
    simp (disch := first | omega | assumption) only [C.code_wideLocal_gos, T.tv, ↓reduceIte, Nat.reduceEqDiff, reduceCtorEq, Nat.reduceLeDiff, Nat.reducePow, Int.reducePow, Int.reduceToNat, Nat.reduceAdd, eq_false e22, eq_false e24, eq_false e55, eq_false e57, c0, c1, c2, c3, c4, c5, c6, c7, decide_true, decide_false]
    try rfl
  by_cases p8 : op ≤ 54
  case pos =>
    have e22 : ¬ (op : Int) = 22 := by omega
    have e24 : ¬ (op : Int) = 24 := by omega
    have e55 : ¬ (op : Int) = 55 := by omega
    have e57 : ¬ (op : Int) = 57 := by omega
    have c0 : (30 : Int) ≤ (op : Int) := by omega
    have c1 : ¬ (op : Int) ≤ 33 := by omega
    have c2 : (38 : Int) ≤ (op : Int) := by omega
    have c3 : ¬ (op : Int) ≤ 41 := by omega
    have c4 : ¬ (63 : Int) ≤ (op : Int) := by omega
    have c5 : (op : Int) ≤ 66 := by omega
    have c6 : ¬ (71 : Int) ≤ (op : Int) := by omega
    have c7 : (op : Int) ≤ 74 := by omega
    have hr : twoP op = false := decide_eq_false (by omega)
    rw [hr]
    simp (disch := first | omega | assumption) only [C.code_wideLocal_gos, T.tv, ↓reduceIte, Nat.reduceEqDiff, reduceCtorEq, Nat.reduceLeDiff, Nat.reducePow, Int.reducePow, Int.reduceToNat, Nat.reduceAdd, eq_false e22, eq_false e24, eq_false e55, eq_false e57, c0, c1, c2, c3, c4, c5, c6, c7, decide_true, decide_false]
    try rfl
  by_cases p9 : op ≤ 55
  case pos =>
    have e22 : ¬ (op : Int) = 22 := by omega
    have e24 : ¬ (op : Int) = 24 := by omega
    have e55 : (op : Int) = 55 := by omega
    have e57 : ¬ (op : Int) = 57 := by omega
    have c0 : (30 : Int) ≤ (op : Int) := by omega
    have c1 : ¬ (op : Int) ≤ 33 := by omega
    have c2 : (38 : Int) ≤ (op : Int) := by omega
    have c3 : ¬ (op : Int) ≤ 41 := by omega
    have c4 : ¬ (63 : Int) ≤ (op : Int) := by omega
    have c5 : (op : Int) ≤ 66 := by omega
    have c6 : ¬ (71 : Int) ≤ (op : Int) := by omega
    have c7 : (op : Int) ≤ 74 := by omega
    have hr : twoP op = true := decide_eq_true (by omega)
    rw [hr]
    simp (disch := first | omega | assumption) only [C.code_wideLocal_gos, T.tv, ↓reduceIte, Nat.reduceEqDiff, reduceCtorEq, Nat.reduceLeDiff, Nat.reducePow, Int.reducePow, Int.reduceToNat, Nat.reduceAdd, eq_false e22, eq_false e24, eq_true e55, eq_false e57, c0, c1, c2, c3, c4, c5, c6, c7, decide_true, decide_false]
    try rfl
  by_cases p10 : op ≤ 56
  case pos =>
    have e22 : ¬ (op : Int) = 22 := by omega
    have e24 : ¬ (op : Int) = 24 := by omega
    have e55 : ¬ (op : Int) = 55 := by omega
    have e57 : ¬ (op : Int) = 57 := by omega
    have c0 : (30 : Int) ≤ (op : Int) := by omega
    have c1 : ¬ (op : Int) ≤ 33 := by omega
    have c2 : (38 : Int) ≤ (op : Int) := by omega
    have c3 : ¬ (op : Int) ≤ 41 := by omega
    have c4 : ¬ (63 : Int) ≤ (op : Int) := by omega
    have c5 : (op : Int) ≤ 66 := by omega
    have c6 : ¬ (71 : Int) ≤ (op : Int) := by omega
    have c7 : (op : Int) ≤ 74 := by omega
    have hr : twoP op = false := decide_eq_false (by omega)
    rw [hr]
    simp (disch := first | omega | assumption) only [C.code_wideLocal_gos, T.tv, ↓reduceIte, Nat.reduceEqDiff, reduceCtorEq, Nat.reduceLeDiff, Nat.reducePow, Int.reducePow, Int.reduceToNat, Nat.reduceAdd, eq_false e22, eq_false e24, eq_false e55, eq_false e57, c0, c1, c2, c3, c4, c5, c6, c7, decide_true, decide_false]
    try rfl
  by_cases p11 : op ≤ 57
  case pos =>
    have e22 : ¬ (op : Int) = 22 := by omega
    have e24 : ¬ (op : Int) = 24 := by omega
    have e55 : ¬ (op : Int) = 55 := by omega
    have e57 : (op : Int) = 57 := by omega
    have c0 : (30 : Int) ≤ (op : Int) := by omega
    have c1 : ¬ (op : Int) ≤ 33 := by omega
    have c2 : (38 : Int) ≤ (op : Int) := by omega
    have c3 : ¬ (op : Int) ≤ 41 := by omega
    have c4 : ¬ (63 : Int) ≤ (op : Int) := by omega
    have c5 : (op : Int) ≤ 66 := by omega
    have c6 : ¬ (71 : Int) ≤ (op : Int) := by omega
    have c7 : (op : Int) ≤ 74 := by omega
    have hr : twoP op = true := decide_eq_true (by omega)
    rw [hr]
    simp (disch := first | omega | assumption) only [C.code_wideLocal_gos, T.tv, ↓reduceIte, Nat.reduceEqDiff, reduceCtorEq, Nat.reduceLeDiff, Nat.reducePow, Int.reducePow, Int.reduceToNat, Nat.reduceAdd, eq_false e22, eq_false e24, eq_false e55, eq_true e57, c0, c1, c2, c3, c4, c5, c6, c7, decide_true, decide_false]
    try rfl
  by_cases p12 : op ≤ 62
  case pos =>
    have e22 : ¬ (op : Int) = 22 := by omega
    have e24 : ¬ (op : Int) = 24 := by omega
    have e55 : ¬ (op : Int) = 55 := by omega
    have e57 : ¬ (op : Int) = 57 := by omega
    have c0 : (30 : Int) ≤ (op : Int) := by omega
    have c1 : ¬ (op : Int) ≤ 33 := by omega
    have c2 : (38 : Int) ≤ (op : Int) := by omega
    have c3 : ¬ (op : Int) ≤ 41 := by omega
    have c4 : ¬ (63 : Int) ≤ (op : Int) := by omega
    have c5 : (op : Int) ≤ 66 := by omega
    have c6 : ¬ (71 : Int) ≤ (op : Int) := by omega
    have c7 : (op : Int) ≤ 74 := by omega
    have hr : twoP op = false := decide_eq_false (by omega)
    rw [hr]
    simp (disch := first | omega | assumption) only [C.code_wideLocal_gos, T.tv, ↓reduceIte, Nat.reduceEqDiff, reduceCtorEq, Nat.reduceLeDiff, Nat.reducePow, Int.reducePow, Int.reduceToNat, Nat.reduceAdd, eq_false e22, eq_false e24, eq_false e55, eq_false e57, c0, c1, c2, c3, c4, c5, c6, c7, decide_true, decide_false]
    try rfl
  by_cases p13 : op ≤ 66
  case pos =>
    have e22 : ¬ (op : Int) = 22 := by omega
    have e24 : ¬ (op : Int) = 24 := by omega
    have e55 : ¬ (op : Int) = 55 := by omega
    have e57 : ¬ (op : Int) = 57 := by omega
    have c0 : (30 : Int) ≤ (op : Int) := by omega
    have c1 : ¬ (op : Int) ≤ 33 := by omega
    have c2 : (38 : Int) ≤ (op : Int) := by omega
    have c3 : ¬ (op : Int) ≤ 41 := by omega
    have c4 : (63 : Int) ≤ (op : Int) := by omega
    have c5 : (op : Int) ≤ 66 := by omega
    have c6 : ¬ (71 : Int) ≤ (op : Int) := by omega
    have c7 : (op : Int) ≤ 74 := by omega
    have hr : twoP op = true := decide_eq_true (by omega)
    rw [hr]
    simp (disch := first | omega | assumption) only [C.code_wideLocal_gos, T.tv, ↓reduceIte, Nat.reduceEqDiff, reduceCtorEq, Nat.reduceLeDiff, Nat.reducePow, Int.reducePow, Int.reduceToNat, Nat.reduceAdd, eq_false e22, eq_false e24, eq_false e55, eq_false e57, c0, c1, c2, c3, c4, c5, c6, c7, decide_true, decide_false]
    try rfl
  by_cases p14 : op ≤ 70
  case pos =>
    have e22 : ¬ (op : Int) = 22 := by omega
    have e24 : ¬ (op : Int) = 24 := by omega
    have e55 : ¬ (op : Int) = 55 := by omega
    have e57 : ¬ (op : Int) = 57 := by omega
    have c0 : (30 : Int) ≤ (op : Int) := by omega
    have c1 : ¬ (op : Int) ≤ 33 := by omega
    have c2 : (38 : Int) ≤ (op : Int) := by omega
    have c3 : ¬ (op : Int) ≤ 41 := by omega
    have c4 : (63 : Int) ≤ (op : Int) := by omega
    have c5 : ¬ (op : Int) ≤ 66 := by omega
    have c6 : ¬ (71 : Int) ≤ (op : Int) := by omega
    have c7 : (op : Int) ≤ 74 := by omega
    have hr : twoP op = false := decide_eq_false (by omega)
    rw [hr]
    simp (disch := first | omega | assumption) only [C.code_wideLocal_gos, T.tv, ↓reduceIte, Nat.reduceEqDiff, reduceCtorEq, Nat.reduceLeDiff, Nat.reducePow, Int.reducePow, Int.reduceToNat, Nat.reduceAdd, eq_false e22, eq_false e24, eq_false e55, eq_false e57, c0, c1, c2, c3, c4, c5, c6, c7, decide_true, decide_false]
    try rfl
  by_cases p15 : op ≤ 74
  case pos =>
    have e22 : ¬ (op : Int) = 22 := by omega
    have e24 : ¬ (op : Int) = 24 := by omega
    have e55 : ¬ (op : Int) = 55 := by omega
    have e57 : ¬ (op : Int) = 57 := by omega
    have c0 : (30 : Int) ≤ (op : Int) := by omega
    have c1 : ¬ (op : Int) ≤ 33 := by omega
    have c2 : (38 : Int) ≤ (op : Int) := by omega
    have c3 : ¬ (op : Int) ≤ 41 := by omega
    have c4 : (63 : Int) ≤ (op : Int) := by omega
    have c5 : ¬ (op : Int) ≤ 66 := by omega
    have c6 : (71 : Int) ≤ (op : Int) := by omega
    have c7 : (op : Int) ≤ 74 := by omega
    have hr : twoP op = true := decide_eq_true (by omega)
    rw [hr]
    simp (disch := first | omega | assumption) only [C.code_wideLocal_gos, T.tv, ↓reduceIte, Nat.reduceEqDiff, reduceCtorEq, Nat.reduceLeDiff, Nat.reducePow, Int.reducePow, Int.reduceToNat, Nat.reduceAdd, eq_false e22, eq_false e24, eq_false e55, eq_false e57, c0, c1, c2, c3, c4, c5, c6, c7, decide_true, decide_false]
    try rfl
  by_cases p16 : op ≤ 255
  case pos =>
    have e22 : ¬ (op : Int) = 22 := by omega
    have e24 : ¬ (op : Int) = 24 := by omega
    have e55 : ¬ (op : Int) = 55 := by omega
    have e57 : ¬ (op : Int) = 57 := by omega
    have c0 : (30 : Int) ≤ (op : Int) := by omega
    have c1 : ¬ (op : Int) ≤ 33 := by omega
    have c2 : (38 : Int) ≤ (op : Int) := by omega
    have c3 : ¬ (op : Int) ≤ 41 := by omega
    have c4 : (63 : Int) ≤ (op : Int) := by omega
    have c5 : ¬ (op : Int) ≤ 66 := by omega
    have c6 : (71 : Int) ≤ (op : Int) := by omega
    have c7 : ¬ (op : Int) ≤ 74 := by omega
    have hr : twoP op = false := decide_eq_false (by omega)
    rw [hr]
    simp (disch := first | omega | assumption) only [C.code_wideLocal_gos, T.tv, ↓reduceIte, Nat.reduceEqDiff, reduceCtorEq, Nat.reduceLeDiff, Nat.reducePow, Int.reducePow, Int.reduceToNat, Nat.reduceAdd, eq_false e22, eq_false e24, eq_false e55, eq_false e57, c0, c1, c2, c3, c4, c5, c6, c7, decide_true, decide_false]
    try rfl
  omega

/-- An instruction as a value: what its lists are does not matter here. -/
def insV (x : In) (vk vt : Value) : Value := .agg (InV x vk vt).toArray
section
variable {x : In} {ak bk : Option Addr} {nk ck nb cb : Nat}
abbrev rowX (x : In) (ak bk : Option Addr) (nk ck nb cb : Nat) : Obj := .cells #[.int .i64 x.at', .int .u8 (x.op : Int), .bool x.wide, .int .i64 x.A, .int .i64 x.B, .int .i64 x.low, .slice ak nk ck, .slice bk nb cb] 37
abbrev aggX (x : In) (ak bk : Option Addr) (nk ck nb cb : Nat) : Value := .agg #[.int .i64 x.at', .int .u8 (x.op : Int), .bool x.wide, .int .i64 x.A, .int .i64 x.B, .int .i64 x.low, .slice ak nk ck, .slice bk nb cb]
set_option maxHeartbeats 8000000 in
theorem local_any (hop : x.op < 256) (h : Heap) : HCalls Tryd.prog 15 #[aggX x ak bk nk ck nb cb] h fun v h' => Ext h h' ∧ v = .int .i64 (lclP x.op x.A) := by
  refine C.code_Local_calls (args := [aggX x ak bk nk ck nb cb]) rfl ?_
  simp (disch := first | omega | assumption) only [C.code_Local_gos, T.tv, ↓reduceIte, Nat.reduceEqDiff, reduceCtorEq, Nat.reduceLeDiff, Nat.reducePow, Int.reducePow, Int.reduceToNat, Nat.reduceAdd]
  refine eff_box ?_
  have E := Ext.push h (rowX x ak bk nk ck nb cb)
  have q1 : cellAt (h.push (rowX x ak bk nk ck nb cb)) ⟨h.size, 1, none⟩ = some (.int .u8 (x.op : Int)) := by rw [cellAt_push_new]; rfl
  have q3 : cellAt (h.push (rowX x ak bk nk ck nb cb)) ⟨h.size, 3, none⟩ = some (.int .i64 x.A) := by rw [cellAt_push_new]; rfl
  simp (disch := first | omega | assumption) only [C.code_Local_gos, T.tv, ↓reduceIte, Nat.reduceEqDiff, reduceCtorEq, Nat.reduceLeDiff, Nat.reducePow, Int.reducePow, Int.reduceToNat, Nat.reduceAdd, Nat.zero_add]
  generalize h.push (rowX x ak bk nk ck nb cb) = h1 at *
  simp (disch := first | omega | assumption) only [C.code_Local_gos, T.tv, ↓reduceIte, Nat.reduceEqDiff, reduceCtorEq, Nat.reduceLeDiff, Nat.reducePow, Int.reducePow, Int.reduceToNat, Nat.reduceAdd, q1, q3]
  refine eff_callF rfl ((form_any x.op hop h1).mono ?_)
  rintro v2 h2 ⟨rfl, rfl⟩
  obtain ⟨op, hope⟩ : ∃ n, n = x.op := ⟨_, rfl⟩
  rw [← hope] at q1 hop ⊢
  have hf := formS_loc op hop
  by_cases f6 : formS op = 6
  · have f6' : ((formS op : Nat) : Int) = 6 := by omega
    have hr : lclP op x.A = x.A := if_pos (by omega)
    rw [hr]
    simp (disch := first | omega | assumption) only [C.code_Local_gos, T.tv, ↓reduceIte, Nat.reduceEqDiff, reduceCtorEq, Nat.reduceLeDiff, Nat.reducePow, Int.reducePow, Int.reduceToNat, Nat.reduceAdd, q1, q3, eq_true f6', decide_true, decide_false]
    exact E
  by_cases f7 : formS op = 7
  · have f6' : ¬ ((formS op : Nat) : Int) = 6 := by omega
    have f7' : ((formS op : Nat) : Int) = 7 := by omega
    have hr : lclP op x.A = x.A := if_pos (by omega)
    rw [hr]
    simp (disch := first | omega | assumption) only [C.code_Local_gos, T.tv, ↓reduceIte, Nat.reduceEqDiff, reduceCtorEq, Nat.reduceLeDiff, Nat.reducePow, Int.reducePow, Int.reduceToNat, Nat.reduceAdd, q1, q3, eq_false f6', eq_true f7', decide_true, decide_false]
    exact E
  have f6' : ¬ ((formS op : Nat) : Int) = 6 := by omega
  have f7' : ¬ ((formS op : Nat) : Int) = 7 := by omega
  by_cases c26 : 26 ≤ op ∧ op ≤ 45
  · have g1 : (26 : Int) ≤ (op : Int) := by omega
    have g2 : (op : Int) ≤ 45 := by omega
    have w1 : IntKind.u8.wrap ((op : Int) - 26) = (op : Int) - 26 := wrap_u8 (by omega) (by omega)
    have w2 : IntKind.i64.wrap ((op : Int) - 26) = (op : Int) - 26 := wrap_i64 (by omega) (by omega)
    have g3 : 0 ≤ (op : Int) - 26 := by omega
    have hr : lclP op x.A = ((op : Int) - 26) % 4 := by unfold lclP; rw [if_neg (by omega), if_pos c26]; omega
    have w3 : IntKind.i64.wrap (((op : Int) - 26) % 4) = ((op : Int) - 26) % 4 := wrap_i64 (by omega) (by omega)
    rw [hr]
    simp (disch := first | omega | assumption) only [C.code_Local_gos, T.tv, ↓reduceIte, Nat.reduceEqDiff, reduceCtorEq, Nat.reduceLeDiff, Nat.reducePow, Int.reducePow, Int.reduceToNat, Nat.reduceAdd, q1, q3, eq_false f6', eq_false f7', g1, g2, g3, w1, w2, w3, decide_true, decide_false]
    exact E
  by_cases c59 : 59 ≤ op ∧ op ≤ 78
  · have g1 : (26 : Int) ≤ (op : Int) := by omega
    have g2 : ¬ (op : Int) ≤ 45 := by omega
    have g4 : (59 : Int) ≤ (op : Int) := by omega
    have g5 : (op : Int) ≤ 78 := by omega
    have w1 : IntKind.u8.wrap ((op : Int) - 59) = (op : Int) - 59 := wrap_u8 (by omega) (by omega)
    have w2 : IntKind.i64.wrap ((op : Int) - 59) = (op : Int) - 59 := wrap_i64 (by omega) (by omega)
    have g3 : 0 ≤ (op : Int) - 59 := by omega
    have hr : lclP op x.A = ((op : Int) - 59) % 4 := by unfold lclP; rw [if_neg (by omega), if_neg c26, if_pos c59]; omega
    have w3 : IntKind.i64.wrap (((op : Int) - 59) % 4) = ((op : Int) - 59) % 4 := wrap_i64 (by omega) (by omega)
    rw [hr]
    simp (disch := first | omega | assumption) only [C.code_Local_gos, T.tv, ↓reduceIte, Nat.reduceEqDiff, reduceCtorEq, Nat.reduceLeDiff, Nat.reducePow, Int.reducePow, Int.reduceToNat, Nat.reduceAdd, q1, q3, eq_false f6', eq_false f7', g1, g2, g3, g4, g5, w1, w2, w3, decide_true, decide_false]
    exact E
  have hr : lclP op x.A = -1 := by unfold lclP; rw [if_neg (by omega), if_neg c26, if_neg c59]
  rw [hr]
  by_cases d1 : op < 26
  · have g1 : ¬ (26 : Int) ≤ (op : Int) := by omega
    have g2 : ¬ (59 : Int) ≤ (op : Int) := by omega
    simp (disch := first | omega | assumption) only [C.code_Local_gos, T.tv, ↓reduceIte, Nat.reduceEqDiff, reduceCtorEq, Nat.reduceLeDiff, Nat.reducePow, Int.reducePow, Int.reduceToNat, Nat.reduceAdd, q1, q3, eq_false f6', eq_false f7', g1, g2, decide_true, decide_false]
    exact E
  by_cases d2 : op < 59
  · have g1 : (26 : Int) ≤ (op : Int) := by omega
    have g3 : ¬ (op : Int) ≤ 45 := by omega
    have g2 : ¬ (59 : Int) ≤ (op : Int) := by omega
    simp (disch := first | omega | assumption) only [C.code_Local_gos, T.tv, ↓reduceIte, Nat.reduceEqDiff, reduceCtorEq, Nat.reduceLeDiff, Nat.reducePow, Int.reducePow, Int.reduceToNat, Nat.reduceAdd, q1, q3, eq_false f6', eq_false f7', g1, g2, g3, decide_true, decide_false]
    exact E
  · have g1 : (26 : Int) ≤ (op : Int) := by omega
    have g3 : ¬ (op : Int) ≤ 45 := by omega
    have g2 : (59 : Int) ≤ (op : Int) := by omega
    have g4 : ¬ (op : Int) ≤ 78 := by omega
    simp (disch := first | omega | assumption) only [C.code_Local_gos, T.tv, ↓reduceIte, Nat.reduceEqDiff, reduceCtorEq, Nat.reduceLeDiff, Nat.reducePow, Int.reducePow, Int.reduceToNat, Nat.reduceAdd, q1, q3, eq_false f6', eq_false f7', g1, g2, g3, g4, decide_true, decide_false]
    exact E
end
end Go.Proofs.YtgdmoimclelfhaaDoor
