/- The reference's two kinds. No condition. -/
import Derived.Test.YtedleaeohbjfnaaQK
namespace Go.Proofs.Ytedleaeohbjfnaa
open Go.Vc Go.Num
set_option maxRecDepth 100000
set_option linter.unusedSimpArgs false
set_option linter.unusedVariables false

theorem single_any {h : Heap} : HCalls Try.prog 12 #[] h fun v h' => Ext h h' ∧ v = kV 23 8 := by
  refine C.ref6_single_calls (args := []) rfl ?_
  simp (disch := first | omega | assumption) only [C.ref6_single_gos, T.tv, ↓reduceIte, Nat.reduceEqDiff, reduceCtorEq, Nat.reduceLeDiff, Nat.reducePow, Int.reducePow, Int.reduceToNat, Nat.reduceAdd]
  refine eff_alloc_z T.zr_35 ?_
  simp (disch := first | omega | assumption) only [C.ref6_single_gos, T.tv, ↓reduceIte, Nat.reduceEqDiff, reduceCtorEq, Nat.reduceLeDiff, Nat.reducePow, Int.reducePow, Int.reduceToNat, Nat.reduceAdd]
  refine eff_store_new_z T.zr_35 rfl rfl rfl (by intro u hu; simp [Value.cells] at hu; rcases hu with rfl | rfl <;> rfl) rfl ?_
  intro h3 e3 _ _ b3
  have l := (KB.mk (m := 23) (e := 8) b3).ld
  simp (disch := first | omega | assumption) only [C.ref6_single_gos, T.tv, ↓reduceIte, Nat.reduceEqDiff, reduceCtorEq, Nat.reduceLeDiff, Nat.reducePow, Int.reducePow, Int.reduceToNat, Nat.reduceAdd, l]
  first | exact e3 | exact ⟨e3, rfl⟩
theorem double_any {h : Heap} : HCalls Try.prog 14 #[] h fun v h' => Ext h h' ∧ v = kV 52 11 := by
  refine C.ref6_double_calls (args := []) rfl ?_
  simp (disch := first | omega | assumption) only [C.ref6_double_gos, T.tv, ↓reduceIte, Nat.reduceEqDiff, reduceCtorEq, Nat.reduceLeDiff, Nat.reducePow, Int.reducePow, Int.reduceToNat, Nat.reduceAdd]
  refine eff_alloc_z T.zr_35 ?_
  simp (disch := first | omega | assumption) only [C.ref6_double_gos, T.tv, ↓reduceIte, Nat.reduceEqDiff, reduceCtorEq, Nat.reduceLeDiff, Nat.reducePow, Int.reducePow, Int.reduceToNat, Nat.reduceAdd]
  refine eff_store_new_z T.zr_35 rfl rfl rfl (by intro u hu; simp [Value.cells] at hu; rcases hu with rfl | rfl <;> rfl) rfl ?_
  intro h3 e3 _ _ b3
  have l := (KB.mk (m := 52) (e := 11) b3).ld
  simp (disch := first | omega | assumption) only [C.ref6_double_gos, T.tv, ↓reduceIte, Nat.reduceEqDiff, reduceCtorEq, Nat.reduceLeDiff, Nat.reducePow, Int.reducePow, Int.reduceToNat, Nat.reduceAdd, l]
  first | exact e3 | exact ⟨e3, rfl⟩
end Go.Proofs.Ytedleaeohbjfnaa
