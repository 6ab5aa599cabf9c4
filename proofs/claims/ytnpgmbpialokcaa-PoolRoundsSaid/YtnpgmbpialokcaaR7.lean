/- The law PoolReads on heaps. -/
import Derived.Test.YtnpgmbpialokcaaR5
import Derived.Test.YtnpgmbpialokcaaB6
namespace Go.Proofs.Ytnpgmbpialokcaa
open Go.Vc
set_option maxRecDepth 100000
set_option linter.unusedSimpArgs false
set_option linter.unusedVariables false
theorem refLoop_len (l : List UInt8) (n : Nat) : ∀ (k : Nat) (cs : List Cst) (p : Nat), (refLoop l n k cs p).1.length ≤ cs.length + 2 * k := by
  intro k
  induction k with
  | zero => intro cs p; simp [refLoop]
  | succ k ih =>
    intro cs p
    rw [refLoop]
    split
    · split
      · simp
      · split
        · split
          · simp
          · refine Nat.le_trans (ih _ _) ?_
            simp; omega
        · refine Nat.le_trans (ih _ _) ?_
          simp; omega
    · simp
theorem refRead_len (l : List UInt8) : (refRead l).1.length ≤ 131073 := by
  unfold refRead
  split
  · simp
  · split
    · simp
    · refine Nat.le_trans (refLoop_len _ _ _ _ _) ?_
      have := numB_lt (l.take 2)
      have h2 : (l.take 2).length ≤ 2 := by simp; omega
      have := Nat.pow_le_pow_right (n := 256) (by decide) h2
      simp <;> omega
theorem poolReads_any (l : List UInt8) (h : Heap) (hl : l.length ≤ 9223372036854775807) : HCalls Try.prog 7 #[str l] h fun v h' => Ext h h' ∧ v = .bool true := by
  refine C.law1_PoolReads_calls (args := [str l]) rfl ?_
  by_cases hlen : (32768 : Int) < (l.length : Int)
  · simp (disch := first | omega | assumption) only [C.law1_PoolReads_gos, vs, T.ts, and_true, true_and, List.getElem?_toArray, List.getElem?_cons_zero, List.getElem?_cons_succ, ↓reduceIte, Nat.reduceEqDiff, Option.bind_some, Option.map_some, Option.isSome_some, ne_eq, Bool.not_true, Bool.not_false, Bool.true_eq_false, Bool.false_eq_true, Bool.not_eq_true', Bool.not_eq_false', reduceCtorEq, Option.some.injEq, decide_eq_true_eq, decide_eq_false_iff_not, not_true_eq_false, not_false_eq_true, decide_true, decide_false, List.size_toArray, List.length_cons, List.length_nil, List.cons_append, List.nil_append, List.append_nil, List.map_cons, List.map_nil, Array.size_push, Int.toNat_natCast, List.toList_toArray, Nat.min_def, Nat.reduceLeDiff, Nat.reducePow, Int.reducePow, Int.reduceToNat, Int.tdiv_eq_ediv_of_nonneg, Int.tmod_eq_emod_of_nonneg, Int.fdiv_eq_ediv_of_nonneg, Nat.mul_one, Nat.reduceAdd, Nat.zero_add, Nat.add_zero, hlen]
    exact Ext.refl _
  have hl2 : l.length ≤ 1073741824 := by omega
  simp (disch := first | omega | assumption) only [C.law1_PoolReads_gos, vs, T.ts, and_true, true_and, List.getElem?_toArray, List.getElem?_cons_zero, List.getElem?_cons_succ, ↓reduceIte, Nat.reduceEqDiff, Option.bind_some, Option.map_some, Option.isSome_some, ne_eq, Bool.not_true, Bool.not_false, Bool.true_eq_false, Bool.false_eq_true, Bool.not_eq_true', Bool.not_eq_false', reduceCtorEq, Option.some.injEq, decide_eq_true_eq, decide_eq_false_iff_not, not_true_eq_false, not_false_eq_true, decide_true, decide_false, List.size_toArray, List.length_cons, List.length_nil, List.cons_append, List.nil_append, List.append_nil, List.map_cons, List.map_nil, Array.size_push, Int.toNat_natCast, List.toList_toArray, Nat.min_def, Nat.reduceLeDiff, Nat.reducePow, Int.reducePow, Int.reduceToNat, Int.tdiv_eq_ediv_of_nonneg, Int.tmod_eq_emod_of_nonneg, Int.fdiv_eq_ediv_of_nonneg, Nat.mul_one, Nat.reduceAdd, Nat.zero_add, Nat.add_zero, hlen]
  refine eff_call_of ?_
  simp (disch := first | omega | assumption) only [C.law1_PoolReads_gos, vs, T.ts, and_true, true_and, List.getElem?_toArray, List.getElem?_cons_zero, List.getElem?_cons_succ, ↓reduceIte, Nat.reduceEqDiff, Option.bind_some, Option.map_some, Option.isSome_some, ne_eq, Bool.not_true, Bool.not_false, Bool.true_eq_false, Bool.false_eq_true, Bool.not_eq_true', Bool.not_eq_false', reduceCtorEq, Option.some.injEq, decide_eq_true_eq, decide_eq_false_iff_not, not_true_eq_false, not_false_eq_true, decide_true, decide_false, List.size_toArray, List.length_cons, List.length_nil, List.cons_append, List.nil_append, List.append_nil, List.map_cons, List.map_nil, Array.size_push, Int.toNat_natCast, List.toList_toArray, Nat.min_def, Nat.reduceLeDiff, Nat.reducePow, Int.reducePow, Int.reduceToNat, Int.tdiv_eq_ediv_of_nonneg, Int.tmod_eq_emod_of_nonneg, Int.fdiv_eq_ediv_of_nonneg, Nat.mul_one, Nat.reduceAdd, Nat.zero_add, Nat.add_zero]
  refine (pread_any l h hl2).mono ?_
  rintro v1 h1 ⟨x1, s1, rfl, o1⟩
  obtain ⟨a1, c1, rfl, _⟩ := o1.slN.2
  simp (disch := first | omega | assumption) only [C.law1_PoolReads_gos, vs, T.ts, and_true, true_and, List.getElem?_toArray, List.getElem?_cons_zero, List.getElem?_cons_succ, ↓reduceIte, Nat.reduceEqDiff, Option.bind_some, Option.map_some, Option.isSome_some, ne_eq, Bool.not_true, Bool.not_false, Bool.true_eq_false, Bool.false_eq_true, Bool.not_eq_true', Bool.not_eq_false', reduceCtorEq, Option.some.injEq, decide_eq_true_eq, decide_eq_false_iff_not, not_true_eq_false, not_false_eq_true, decide_true, decide_false, List.size_toArray, List.length_cons, List.length_nil, List.cons_append, List.nil_append, List.append_nil, List.map_cons, List.map_nil, Array.size_push, Int.toNat_natCast, List.toList_toArray, Nat.min_def, Nat.reduceLeDiff, Nat.reducePow, Int.reducePow, Int.reduceToNat, Int.tdiv_eq_ediv_of_nonneg, Int.tmod_eq_emod_of_nonneg, Int.fdiv_eq_ediv_of_nonneg, Nat.mul_one, Nat.reduceAdd, Nat.zero_add, Nat.add_zero]
  refine eff_call_of ?_
  simp (disch := first | omega | assumption) only [C.law1_PoolReads_gos, vs, T.ts, and_true, true_and, List.getElem?_toArray, List.getElem?_cons_zero, List.getElem?_cons_succ, ↓reduceIte, Nat.reduceEqDiff, Option.bind_some, Option.map_some, Option.isSome_some, ne_eq, Bool.not_true, Bool.not_false, Bool.true_eq_false, Bool.false_eq_true, Bool.not_eq_true', Bool.not_eq_false', reduceCtorEq, Option.some.injEq, decide_eq_true_eq, decide_eq_false_iff_not, not_true_eq_false, not_false_eq_true, decide_true, decide_false, List.size_toArray, List.length_cons, List.length_nil, List.cons_append, List.nil_append, List.append_nil, List.map_cons, List.map_nil, Array.size_push, Int.toNat_natCast, List.toList_toArray, Nat.min_def, Nat.reduceLeDiff, Nat.reducePow, Int.reducePow, Int.reduceToNat, Int.tdiv_eq_ediv_of_nonneg, Int.tmod_eq_emod_of_nonneg, Int.fdiv_eq_ediv_of_nonneg, Nat.mul_one, Nat.reduceAdd, Nat.zero_add, Nat.add_zero]
  refine (rread_any l h1 hl2).mono ?_
  rintro v2 h2 ⟨x2, s2, rfl, o2⟩
  obtain ⟨a2, c2, rfl, _⟩ := o2.slN.2
  simp (disch := first | omega | assumption) only [C.law1_PoolReads_gos, vs, T.ts, and_true, true_and, List.getElem?_toArray, List.getElem?_cons_zero, List.getElem?_cons_succ, ↓reduceIte, Nat.reduceEqDiff, Option.bind_some, Option.map_some, Option.isSome_some, ne_eq, Bool.not_true, Bool.not_false, Bool.true_eq_false, Bool.false_eq_true, Bool.not_eq_true', Bool.not_eq_false', reduceCtorEq, Option.some.injEq, decide_eq_true_eq, decide_eq_false_iff_not, not_true_eq_false, not_false_eq_true, decide_true, decide_false, List.size_toArray, List.length_cons, List.length_nil, List.cons_append, List.nil_append, List.append_nil, List.map_cons, List.map_nil, Array.size_push, Int.toNat_natCast, List.toList_toArray, Nat.min_def, Nat.reduceLeDiff, Nat.reducePow, Int.reducePow, Int.reduceToNat, Int.tdiv_eq_ediv_of_nonneg, Int.tmod_eq_emod_of_nonneg, Int.fdiv_eq_ediv_of_nonneg, Nat.mul_one, Nat.reduceAdd, Nat.zero_add, Nat.add_zero]
  refine eff_call_of ?_
  simp (disch := first | omega | assumption) only [C.law1_PoolReads_gos, vs, T.ts, and_true, true_and, List.getElem?_toArray, List.getElem?_cons_zero, List.getElem?_cons_succ, ↓reduceIte, Nat.reduceEqDiff, Option.bind_some, Option.map_some, Option.isSome_some, ne_eq, Bool.not_true, Bool.not_false, Bool.true_eq_false, Bool.false_eq_true, Bool.not_eq_true', Bool.not_eq_false', reduceCtorEq, Option.some.injEq, decide_eq_true_eq, decide_eq_false_iff_not, not_true_eq_false, not_false_eq_true, decide_true, decide_false, List.size_toArray, List.length_cons, List.length_nil, List.cons_append, List.nil_append, List.append_nil, List.map_cons, List.map_nil, Array.size_push, Int.toNat_natCast, List.toList_toArray, Nat.min_def, Nat.reduceLeDiff, Nat.reducePow, Int.reducePow, Int.reduceToNat, Int.tdiv_eq_ediv_of_nonneg, Int.tmod_eq_emod_of_nonneg, Int.fdiv_eq_ediv_of_nonneg, Nat.mul_one, Nat.reduceAdd, Nat.zero_add, Nat.add_zero]
  have hlr := refRead_len l
  refine (same_any (refRead l).1 _ _ h2 (o1.ext x2).slN o2.slN (by omega)).mono ?_
  rintro v3 h3 ⟨rfl, rfl⟩
  simp (disch := first | omega | assumption) only [C.law1_PoolReads_gos, vs, T.ts, and_true, true_and, List.getElem?_toArray, List.getElem?_cons_zero, List.getElem?_cons_succ, ↓reduceIte, Nat.reduceEqDiff, Option.bind_some, Option.map_some, Option.isSome_some, ne_eq, Bool.not_true, Bool.not_false, Bool.true_eq_false, Bool.false_eq_true, Bool.not_eq_true', Bool.not_eq_false', reduceCtorEq, Option.some.injEq, decide_eq_true_eq, decide_eq_false_iff_not, not_true_eq_false, not_false_eq_true, decide_true, decide_false, List.size_toArray, List.length_cons, List.length_nil, List.cons_append, List.nil_append, List.append_nil, List.map_cons, List.map_nil, Array.size_push, Int.toNat_natCast, List.toList_toArray, Nat.min_def, Nat.reduceLeDiff, Nat.reducePow, Int.reducePow, Int.reduceToNat, Int.tdiv_eq_ediv_of_nonneg, Int.tmod_eq_emod_of_nonneg, Int.fdiv_eq_ediv_of_nonneg, Nat.mul_one, Nat.reduceAdd, Nat.zero_add, Nat.add_zero]
  exact x1.trans x2
end Go.Proofs.Ytnpgmbpialokcaa
