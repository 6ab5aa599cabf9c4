/- The reference's sizes. -/
import Derived.Test.YtohkbpnblkkdgaaT
import Derived.Test.YtohkbpnblkkdgaaCu
namespace Go.Proofs.Ytohkbpnblkkdgaa
open Go.Vc
set_option maxRecDepth 100000
set_option linter.unusedSimpArgs false
set_option linter.unusedVariables false

def sizeS (t : Nat) : Int := if t = 1 ∨ t = 7 ∨ t = 8 then 2 else if t = 3 ∨ t = 4 ∨ t = 9 ∨ t = 10 ∨ t = 11 ∨ t = 12 then 4 else if t = 5 ∨ t = 6 then 8 else -1
set_option maxHeartbeats 1000000 in
theorem sizes_any (t : Nat) (h : Heap) : HCalls Try.prog 76 #[.int .u8 t] h fun v h' => h' = h ∧ v = .int .i64 (sizeS t) := by
  refine C.ref1_sizes_calls (args := [.int .u8 t]) rfl ?_
  by_cases t1 : t = 1
  · subst t1
    rw [show ((1 : Nat) : Int) = 1 from rfl]
    simp (disch := first | omega | assumption) only [C.ref1_sizes_gos, T.tv, ↓reduceIte, Nat.reduceEqDiff, reduceCtorEq, Nat.reduceLeDiff, Nat.reducePow, Int.reducePow, Int.reduceToNat, Nat.reduceAdd, Int.reduceEq]
    rfl
  by_cases t7 : t = 7
  · subst t7
    rw [show ((7 : Nat) : Int) = 7 from rfl]
    simp (disch := first | omega | assumption) only [C.ref1_sizes_gos, T.tv, ↓reduceIte, Nat.reduceEqDiff, reduceCtorEq, Nat.reduceLeDiff, Nat.reducePow, Int.reducePow, Int.reduceToNat, Nat.reduceAdd, Int.reduceEq]
    rfl
  by_cases t8 : t = 8
  · subst t8
    rw [show ((8 : Nat) : Int) = 8 from rfl]
    simp (disch := first | omega | assumption) only [C.ref1_sizes_gos, T.tv, ↓reduceIte, Nat.reduceEqDiff, reduceCtorEq, Nat.reduceLeDiff, Nat.reducePow, Int.reducePow, Int.reduceToNat, Nat.reduceAdd, Int.reduceEq]
    rfl
  by_cases t3 : t = 3
  · subst t3
    rw [show ((3 : Nat) : Int) = 3 from rfl]
    simp (disch := first | omega | assumption) only [C.ref1_sizes_gos, T.tv, ↓reduceIte, Nat.reduceEqDiff, reduceCtorEq, Nat.reduceLeDiff, Nat.reducePow, Int.reducePow, Int.reduceToNat, Nat.reduceAdd, Int.reduceEq]
    rfl
  by_cases t4 : t = 4
  · subst t4
    rw [show ((4 : Nat) : Int) = 4 from rfl]
    simp (disch := first | omega | assumption) only [C.ref1_sizes_gos, T.tv, ↓reduceIte, Nat.reduceEqDiff, reduceCtorEq, Nat.reduceLeDiff, Nat.reducePow, Int.reducePow, Int.reduceToNat, Nat.reduceAdd, Int.reduceEq]
    rfl
  by_cases t9 : t = 9
  · subst t9
    rw [show ((9 : Nat) : Int) = 9 from rfl]
    simp (disch := first | omega | assumption) only [C.ref1_sizes_gos, T.tv, ↓reduceIte, Nat.reduceEqDiff, reduceCtorEq, Nat.reduceLeDiff, Nat.reducePow, Int.reducePow, Int.reduceToNat, Nat.reduceAdd, Int.reduceEq]
    rfl
  by_cases t10 : t = 10
  · subst t10
    rw [show ((10 : Nat) : Int) = 10 from rfl]
    simp (disch := first | omega | assumption) only [C.ref1_sizes_gos, T.tv, ↓reduceIte, Nat.reduceEqDiff, reduceCtorEq, Nat.reduceLeDiff, Nat.reducePow, Int.reducePow, Int.reduceToNat, Nat.reduceAdd, Int.reduceEq]
    rfl
  by_cases t11 : t = 11
  · subst t11
    rw [show ((11 : Nat) : Int) = 11 from rfl]
    simp (disch := first | omega | assumption) only [C.ref1_sizes_gos, T.tv, ↓reduceIte, Nat.reduceEqDiff, reduceCtorEq, Nat.reduceLeDiff, Nat.reducePow, Int.reducePow, Int.reduceToNat, Nat.reduceAdd, Int.reduceEq]
    rfl
  by_cases t12 : t = 12
  · subst t12
    rw [show ((12 : Nat) : Int) = 12 from rfl]
    simp (disch := first | omega | assumption) only [C.ref1_sizes_gos, T.tv, ↓reduceIte, Nat.reduceEqDiff, reduceCtorEq, Nat.reduceLeDiff, Nat.reducePow, Int.reducePow, Int.reduceToNat, Nat.reduceAdd, Int.reduceEq]
    rfl
  by_cases t5 : t = 5
  · subst t5
    rw [show ((5 : Nat) : Int) = 5 from rfl]
    simp (disch := first | omega | assumption) only [C.ref1_sizes_gos, T.tv, ↓reduceIte, Nat.reduceEqDiff, reduceCtorEq, Nat.reduceLeDiff, Nat.reducePow, Int.reducePow, Int.reduceToNat, Nat.reduceAdd, Int.reduceEq]
    rfl
  by_cases t6 : t = 6
  · subst t6
    rw [show ((6 : Nat) : Int) = 6 from rfl]
    simp (disch := first | omega | assumption) only [C.ref1_sizes_gos, T.tv, ↓reduceIte, Nat.reduceEqDiff, reduceCtorEq, Nat.reduceLeDiff, Nat.reducePow, Int.reducePow, Int.reduceToNat, Nat.reduceAdd, Int.reduceEq]
    rfl
  have n1 : ¬ (t : Int) = 1 := by omega
  have n7 : ¬ (t : Int) = 7 := by omega
  have n8 : ¬ (t : Int) = 8 := by omega
  have n3 : ¬ (t : Int) = 3 := by omega
  have n4 : ¬ (t : Int) = 4 := by omega
  have n9 : ¬ (t : Int) = 9 := by omega
  have n10 : ¬ (t : Int) = 10 := by omega
  have n11 : ¬ (t : Int) = 11 := by omega
  have n12 : ¬ (t : Int) = 12 := by omega
  have n5 : ¬ (t : Int) = 5 := by omega
  have n6 : ¬ (t : Int) = 6 := by omega
  simp (disch := first | omega | assumption) only [C.ref1_sizes_gos, T.tv, ↓reduceIte, Nat.reduceEqDiff, reduceCtorEq, Nat.reduceLeDiff, Nat.reducePow, Int.reducePow, Int.reduceToNat, Nat.reduceAdd, eq_false n1, eq_false n7, eq_false n8, eq_false n3, eq_false n4, eq_false n9, eq_false n10, eq_false n11, eq_false n12, eq_false n5, eq_false n6]
  simp [sizeS, t1, t7, t8, t3, t4, t9, t10, t11, t12, t5, t6]
end Go.Proofs.Ytohkbpnblkkdgaa
