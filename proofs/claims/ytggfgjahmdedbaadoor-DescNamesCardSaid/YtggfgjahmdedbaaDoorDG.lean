/- DescNames and DescTypes answer true to every text. No condition. -/
import Derived.Test.YtggfgjahmdedbaaDoorDF
import Derived.Test.YtggfgjahmdedbaaDoorCa
namespace Go.Proofs.YtggfgjahmdedbaaDoor
open Go.Vc
set_option maxRecDepth 100000
set_option linter.unusedSimpArgs false
set_option linter.unusedVariables false

theorem descNames_any {h : Heap} (l : List UInt8) (m : Bool) : HCalls Tryd.prog 3 #[str l, .bool m] h fun v h' => Ext h h' ∧ v = .bool true := by
  refine C.law1_DescNames_calls (args := [str l, .bool m]) rfl ?_
  by_cases hl : 32768 < l.length
  · have hl' : (32768 : Int) < (l.length : Int) := by omega
    simp (disch := first | omega | assumption) only [C.law1_DescNames_gos, T.tv, ↓reduceIte, Nat.reduceEqDiff, reduceCtorEq, Nat.reduceLeDiff, Nat.reducePow, Int.reducePow, Int.reduceToNat, Nat.reduceAdd, hl', decide_true, decide_false]
    exact Ext.refl _
  have hl' : ¬ (32768 : Int) < (l.length : Int) := by omega
  have hb : l.length ≤ 4294967296 := by omega
  simp (disch := first | omega | assumption) only [C.law1_DescNames_gos, T.tv, ↓reduceIte, Nat.reduceEqDiff, reduceCtorEq, Nat.reduceLeDiff, Nat.reducePow, Int.reducePow, Int.reduceToNat, Nat.reduceAdd, hl', decide_true, decide_false]
  refine eff_callF rfl ((member_any l m hb).mono ?_)
  rintro v1 h1 ⟨hx1, rfl⟩
  simp (disch := first | omega | assumption) only [C.law1_DescNames_gos, T.tv, ↓reduceIte, Nat.reduceEqDiff, reduceCtorEq, Nat.reduceLeDiff, Nat.reducePow, Int.reducePow, Int.reduceToNat, Nat.reduceAdd]
  refine eff_callF rfl ((rmember_any l m hb).mono ?_)
  rintro v2 h2 ⟨rfl, rfl⟩
  simp (disch := first | omega | assumption) only [C.law1_DescNames_gos, T.tv, ↓reduceIte, Nat.reduceEqDiff, reduceCtorEq, Nat.reduceLeDiff, Nat.reducePow, Int.reducePow, Int.reduceToNat, Nat.reduceAdd, decide_true]
  refine eff_callF rfl ((class_any l hb).mono ?_)
  rintro v3 h3 ⟨hx3, rfl⟩
  simp (disch := first | omega | assumption) only [C.law1_DescNames_gos, T.tv, ↓reduceIte, Nat.reduceEqDiff, reduceCtorEq, Nat.reduceLeDiff, Nat.reducePow, Int.reducePow, Int.reduceToNat, Nat.reduceAdd]
  refine eff_callF rfl ((rclass_any l hb).mono ?_)
  rintro v4 h4 ⟨rfl, rfl⟩
  simp (disch := first | omega | assumption) only [C.law1_DescNames_gos, T.tv, ↓reduceIte, Nat.reduceEqDiff, reduceCtorEq, Nat.reduceLeDiff, Nat.reducePow, Int.reducePow, Int.reduceToNat, Nat.reduceAdd, decide_true]
  exact hx1.trans hx3
end Go.Proofs.YtggfgjahmdedbaaDoor
