/- Pools compared. -/
import Derived.Test.YtnpgmbpialokcaaPc
import Derived.Test.YtnpgmbpialokcaaT
import Derived.Test.YtnpgmbpialokcaaVcM
import Derived.Test.YtnpgmbpialokcaaCb
namespace Go.Proofs.Ytnpgmbpialokcaa
open Go.Vc
set_option maxRecDepth 100000
set_option linter.unusedSimpArgs false
set_option linter.unusedVariables false

theorem cst_eqa (c : Cst) : eqaC Try.prog 37 c.cells = true := by
  unfold eqaC
  rw [Try.underlying37]
  kernel_rfl
theorem flatS_one (l : List Cst) : ∀ u ∈ flatS l, oneCell u = true := by
  intro u hu
  obtain ⟨c, _, hc⟩ := List.mem_flatMap.1 hu
  simp only [Cst.cells, List.mem_cons, List.not_mem_nil, or_false] at hc
  rcases hc with rfl | rfl | rfl | rfl | rfl <;> rfl

set_option maxHeartbeats 1000000 in
theorem same_any (cs : List Cst) (v u : Value) (h : Heap) (hs : SlN h 5 v cs.length (flatS cs)) (ht : SlN h 5 u cs.length (flatS cs)) (hlen : cs.length ≤ 9223372036854775807) :
    HCalls Try.prog 15 #[v, u] h fun r h' => h' = h ∧ r = .bool true := by
  refine C.law1_same_calls (args := [v, u]) rfl ?_
  have hs' := hs
  have ht' := ht
  obtain ⟨_, a, c, rfl, _⟩ := hs'
  obtain ⟨_, a2, c2, rfl, _⟩ := ht'
  simp (disch := first | omega | assumption) only [C.law1_same_gos, vs, T.ts, and_true, true_and, List.getElem?_toArray, List.getElem?_cons_zero, List.getElem?_cons_succ, ↓reduceIte, Nat.reduceEqDiff, Option.bind_some, Option.map_some, Option.isSome_some, ne_eq, Bool.not_true, Bool.not_false, Bool.true_eq_false, Bool.false_eq_true, Bool.not_eq_true', Bool.not_eq_false', reduceCtorEq, Option.some.injEq, decide_eq_true_eq, decide_eq_false_iff_not, not_true_eq_false, not_false_eq_true, decide_true, decide_false, List.size_toArray, List.length_cons, List.length_nil, List.cons_append, List.nil_append, List.append_nil, List.map_cons, List.map_nil, Array.size_push, Int.toNat_natCast, List.toList_toArray, Nat.min_def, Nat.reduceLeDiff, Nat.reducePow, Int.reducePow, Int.reduceToNat, Int.tdiv_eq_ediv_of_nonneg, Int.tmod_eq_emod_of_nonneg, Int.fdiv_eq_ediv_of_nonneg, Nat.mul_one, Nat.reduceAdd, Nat.zero_add, Nat.add_zero]
  refine loop_intro [0, 1, 12, 13] (fun m ρ hc => ∃ i : Nat, m = cs.length - i ∧ i ≤ cs.length ∧ ρ = [(0, .slice a cs.length c), (1, .slice a2 cs.length c2), (12, .int .i64 cs.length), (13, .int .i64 i)] ∧ hc = h) ?_ ?_
  · simp (disch := first | omega | assumption) only [C.law1_same_gos, vs, T.ts, and_true, true_and, List.getElem?_toArray, List.getElem?_cons_zero, List.getElem?_cons_succ, ↓reduceIte, Nat.reduceEqDiff, Option.bind_some, Option.map_some, Option.isSome_some, ne_eq, Bool.not_true, Bool.not_false, Bool.true_eq_false, Bool.false_eq_true, Bool.not_eq_true', Bool.not_eq_false', reduceCtorEq, Option.some.injEq, decide_eq_true_eq, decide_eq_false_iff_not, not_true_eq_false, not_false_eq_true, decide_true, decide_false, List.size_toArray, List.length_cons, List.length_nil, List.cons_append, List.nil_append, List.append_nil, List.map_cons, List.map_nil, Array.size_push, Int.toNat_natCast, List.toList_toArray, Nat.min_def, Nat.reduceLeDiff, Nat.reducePow, Int.reducePow, Int.reduceToNat, Int.tdiv_eq_ediv_of_nonneg, Int.tmod_eq_emod_of_nonneg, Int.fdiv_eq_ediv_of_nonneg, Nat.mul_one, Nat.reduceAdd, Nat.zero_add, Nat.add_zero]
    exact ⟨_, 0, rfl, Nat.zero_le _, rfl⟩
  · rintro m ρ hc ⟨i, rfl, hi, rfl, rfl⟩
    rcases Nat.lt_or_ge i cs.length with hlt | hge
    · have hlt' : (i : Int) < cs.length := by omega
      obtain ⟨b, o, c', heq, hrd, _⟩ := hs.at hlt
      obtain ⟨b2, o2, c2', heq2, hrd2, _⟩ := ht.at hlt
      cases heq
      cases heq2
      rw [flatS_at hlt] at hrd hrd2
      generalize cs.getD i Cst.zero = k at *
      have hld := ld_agg T.ag_37 hrd rfl
      have hld2 := ld_agg T.ag_37 hrd2 rfl
      have hq := fun x y => bin_agg_neq (x := x) (y := y) (h := hc) (cst_eqa k)
      simp (disch := first | omega | assumption) only [C.law1_same_gos, vs, T.ts, and_true, true_and, List.getElem?_toArray, List.getElem?_cons_zero, List.getElem?_cons_succ, ↓reduceIte, Nat.reduceEqDiff, Option.bind_some, Option.map_some, Option.isSome_some, ne_eq, Bool.not_true, Bool.not_false, Bool.true_eq_false, Bool.false_eq_true, Bool.not_eq_true', Bool.not_eq_false', reduceCtorEq, Option.some.injEq, decide_eq_true_eq, decide_eq_false_iff_not, not_true_eq_false, not_false_eq_true, decide_true, decide_false, List.size_toArray, List.length_cons, List.length_nil, List.cons_append, List.nil_append, List.append_nil, List.map_cons, List.map_nil, Array.size_push, Int.toNat_natCast, List.toList_toArray, Nat.min_def, Nat.reduceLeDiff, Nat.reducePow, Int.reducePow, Int.reduceToNat, Int.tdiv_eq_ediv_of_nonneg, Int.tmod_eq_emod_of_nonneg, Int.fdiv_eq_ediv_of_nonneg, Nat.mul_one, Nat.reduceAdd, Nat.zero_add, Nat.add_zero, hlt', hld, hld2, hq]
      exact ⟨cs.length - (i + 1), by omega, i + 1, rfl, by omega, by simp⟩
    · have hlt' : ¬ (i : Int) < cs.length := by omega
      simp (disch := first | omega | assumption) only [C.law1_same_gos, vs, T.ts, and_true, true_and, List.getElem?_toArray, List.getElem?_cons_zero, List.getElem?_cons_succ, ↓reduceIte, Nat.reduceEqDiff, Option.bind_some, Option.map_some, Option.isSome_some, ne_eq, Bool.not_true, Bool.not_false, Bool.true_eq_false, Bool.false_eq_true, Bool.not_eq_true', Bool.not_eq_false', reduceCtorEq, Option.some.injEq, decide_eq_true_eq, decide_eq_false_iff_not, not_true_eq_false, not_false_eq_true, decide_true, decide_false, List.size_toArray, List.length_cons, List.length_nil, List.cons_append, List.nil_append, List.append_nil, List.map_cons, List.map_nil, Array.size_push, Int.toNat_natCast, List.toList_toArray, Nat.min_def, Nat.reduceLeDiff, Nat.reducePow, Int.reducePow, Int.reduceToNat, Int.tdiv_eq_ediv_of_nonneg, Int.tmod_eq_emod_of_nonneg, Int.fdiv_eq_ediv_of_nonneg, Nat.mul_one, Nat.reduceAdd, Nat.zero_add, Nat.add_zero, hlt']

end Go.Proofs.Ytnpgmbpialokcaa
