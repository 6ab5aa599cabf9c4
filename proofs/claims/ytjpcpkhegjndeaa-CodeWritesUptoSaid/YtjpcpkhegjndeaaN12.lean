/- The law of written instructions, on heaps. -/
import Derived.Test.YtjpcpkhegjndeaaN11
import Derived.Test.YtjpcpkhegjndeaaCb
namespace Go.Proofs.Ytjpcpkhegjndeaa
open Go.Vc
set_option maxRecDepth 100000
set_option linter.unusedSimpArgs false
set_option linter.unusedVariables false

theorem intsV_one (l : List Int) : ∀ u ∈ intsV l, oneCell u = true := by
  intro u hu
  obtain ⟨c, _, rfl⟩ := List.mem_map.1 hu
  rfl
theorem Own_two {h : Heap} {b1 b2 : Nat} {e1 e2 : TypeId} {s1 s2 n1 n2 : Nat} {v u : Value} {xs ys : List Value} (H : Own h b1 e1 s1 v n1 xs) (K : Own h b2 e2 s2 u n2 ys) (hne : e1 ≠ e2) : ∀ k, v.ownBlock = some k → ¬ u.ownBlock = some k := by
  intro k hk
  rcases H.2 with ⟨rfl, _⟩ | ⟨g, cap, cur, fz, rfl, _, hg, _⟩
  · simp [Value.ownBlock] at hk
  · simp [Value.ownBlock] at hk
    subst hk
    exact Own_ne K hg (Ne.symm hne)

set_option maxHeartbeats 1000000 in
theorem weight_any (l : List In) (v : Value) (h : Heap) (hl : InsC h v l) (hll : l.length ≤ 1048576) (hLl : ∀ x ∈ l, x.keys.length ≤ 1048576 ∧ x.tgts.length ≤ 1048576) :
    HCalls Try.prog 6 #[v] h fun r h' => Ext h h' ∧ ∃ n : Nat, r = .int .i64 n ∧ n ≤ 1048576 + 1048576 * 2097152 := by
  refine C.law2_weight_calls (args := [v]) rfl ?_
  obtain ⟨rows, hr1, hr2, hr3⟩ := id hl
  have hr2' := hr2
  obtain ⟨_, a, c, rfl, _⟩ := hr2'
  simp (disch := first | omega | assumption) only [C.law2_weight_gos, vs, T.ts, and_true, true_and, List.getElem?_toArray, List.getElem?_cons_zero, List.getElem?_cons_succ, ↓reduceIte, Nat.reduceEqDiff, Option.bind_some, Option.map_some, Option.isSome_some, ne_eq, Bool.not_true, Bool.not_false, Bool.true_eq_false, Bool.false_eq_true, Bool.not_eq_true', Bool.not_eq_false', reduceCtorEq, Option.some.injEq, decide_eq_true_eq, decide_eq_false_iff_not, not_true_eq_false, not_false_eq_true, decide_true, decide_false, List.size_toArray, List.length_cons, List.length_nil, List.cons_append, List.nil_append, List.append_nil, List.map_cons, List.map_nil, Array.size_push, Int.toNat_natCast, List.toList_toArray, Nat.min_def, Nat.reduceLeDiff, Nat.reducePow, Int.reducePow, Int.reduceToNat, Int.tdiv_eq_ediv_of_nonneg, Int.tmod_eq_emod_of_nonneg, Int.fdiv_eq_ediv_of_nonneg, Nat.mul_one, Nat.reduceAdd, Nat.zero_add, Nat.add_zero, implies_true, false_implies, true_implies]
  refine loop_intro [3, 8, 9, 10] (fun m ρ hc => ∃ (i n : Nat), m = l.length - i ∧ i ≤ l.length ∧ n ≤ l.length + i * 2097152 ∧ ρ = [(3, .int .i64 n), (8, .slice a l.length c), (9, .int .i64 l.length), (10, .int .i64 i)] ∧ Ext h hc) ?_ ?_
  · simp (disch := first | omega | assumption) only [C.law2_weight_gos, vs, T.ts, and_true, true_and, List.getElem?_toArray, List.getElem?_cons_zero, List.getElem?_cons_succ, ↓reduceIte, Nat.reduceEqDiff, Option.bind_some, Option.map_some, Option.isSome_some, ne_eq, Bool.not_true, Bool.not_false, Bool.true_eq_false, Bool.false_eq_true, Bool.not_eq_true', Bool.not_eq_false', reduceCtorEq, Option.some.injEq, decide_eq_true_eq, decide_eq_false_iff_not, not_true_eq_false, not_false_eq_true, decide_true, decide_false, List.size_toArray, List.length_cons, List.length_nil, List.cons_append, List.nil_append, List.append_nil, List.map_cons, List.map_nil, Array.size_push, Int.toNat_natCast, List.toList_toArray, Nat.min_def, Nat.reduceLeDiff, Nat.reducePow, Int.reducePow, Int.reduceToNat, Int.tdiv_eq_ediv_of_nonneg, Int.tmod_eq_emod_of_nonneg, Int.fdiv_eq_ediv_of_nonneg, Nat.mul_one, Nat.reduceAdd, Nat.zero_add, Nat.add_zero, implies_true, false_implies, true_implies]
    exact ⟨_, 0, l.length, rfl, Nat.zero_le _, by omega, rfl, Ext.refl _⟩
  rintro m ρ hc ⟨i, n, rfl, hi, hn, rfl, hx⟩
  rcases Nat.lt_or_ge i l.length with hlt | hge
  · have hlt' : (i : Int) < l.length := by omega
    obtain ⟨b, o, c', vk, vt, heq, hrd0, sk, ck, st, ct⟩ := hl.at hlt
    cases heq
    have hll2 := hLl (l.getD i in0) (getD_mem hlt)
    generalize l.getD i in0 = x at *
    have hrd : Rd hc b (o + i * 8) (InV x vk vt) := hx.rd hrd0 (hrd0.lt (by simp [InV])) id
    obtain ⟨_, ak, kk, rfl, _⟩ := sk
    obtain ⟨_, at7, kt, rfl, _⟩ := st
    have hld := ld_agg T.ag_35 hrd rfl
    simp only [InV] at hld
    simp (disch := first | omega | assumption) only [C.law2_weight_gos, vs, T.ts, and_true, true_and, List.getElem?_toArray, List.getElem?_cons_zero, List.getElem?_cons_succ, ↓reduceIte, Nat.reduceEqDiff, Option.bind_some, Option.map_some, Option.isSome_some, ne_eq, Bool.not_true, Bool.not_false, Bool.true_eq_false, Bool.false_eq_true, Bool.not_eq_true', Bool.not_eq_false', reduceCtorEq, Option.some.injEq, decide_eq_true_eq, decide_eq_false_iff_not, not_true_eq_false, not_false_eq_true, decide_true, decide_false, List.size_toArray, List.length_cons, List.length_nil, List.cons_append, List.nil_append, List.append_nil, List.map_cons, List.map_nil, Array.size_push, Int.toNat_natCast, List.toList_toArray, Nat.min_def, Nat.reduceLeDiff, Nat.reducePow, Int.reducePow, Int.reduceToNat, Int.tdiv_eq_ediv_of_nonneg, Int.tmod_eq_emod_of_nonneg, Int.fdiv_eq_ediv_of_nonneg, Nat.mul_one, Nat.reduceAdd, Nat.zero_add, Nat.add_zero, implies_true, false_implies, true_implies, hlt', hld]
    refine eff_alloc_z T.zr_35 ?_
    simp (disch := first | omega | assumption) only [C.law2_weight_gos, vs, T.ts, and_true, true_and, List.getElem?_toArray, List.getElem?_cons_zero, List.getElem?_cons_succ, ↓reduceIte, Nat.reduceEqDiff, Option.bind_some, Option.map_some, Option.isSome_some, ne_eq, Bool.not_true, Bool.not_false, Bool.true_eq_false, Bool.false_eq_true, Bool.not_eq_true', Bool.not_eq_false', reduceCtorEq, Option.some.injEq, decide_eq_true_eq, decide_eq_false_iff_not, not_true_eq_false, not_false_eq_true, decide_true, decide_false, List.size_toArray, List.length_cons, List.length_nil, List.cons_append, List.nil_append, List.append_nil, List.map_cons, List.map_nil, Array.size_push, Int.toNat_natCast, List.toList_toArray, Nat.min_def, Nat.reduceLeDiff, Nat.reducePow, Int.reducePow, Int.reduceToNat, Int.tdiv_eq_ediv_of_nonneg, Int.tmod_eq_emod_of_nonneg, Int.fdiv_eq_ediv_of_nonneg, Nat.mul_one, Nat.reduceAdd, Nat.zero_add, Nat.add_zero, implies_true, false_implies, true_implies]
    refine eff_store_new_z T.zr_35 rfl rfl rfl (by simp [Value.cells, oneCell]) rfl ?_
    intro h3 x3 hlt3 hrd3 b3
    have c1 : cellAt h3 ⟨hc.size, 6, none⟩ = some (.slice ak x.keys.length kk) := hrd3 6 _ rfl
    have c2 : cellAt h3 ⟨hc.size, 7, none⟩ = some (.slice at7 x.tgts.length kt) := hrd3 7 _ rfl
    by_cases hbig : (32768 : Int) < (n : Int) + ((x.keys.length : Int) + x.tgts.length)
    · simp (disch := first | omega | assumption) only [C.law2_weight_gos, vs, T.ts, and_true, true_and, List.getElem?_toArray, List.getElem?_cons_zero, List.getElem?_cons_succ, ↓reduceIte, Nat.reduceEqDiff, Option.bind_some, Option.map_some, Option.isSome_some, ne_eq, Bool.not_true, Bool.not_false, Bool.true_eq_false, Bool.false_eq_true, Bool.not_eq_true', Bool.not_eq_false', reduceCtorEq, Option.some.injEq, decide_eq_true_eq, decide_eq_false_iff_not, not_true_eq_false, not_false_eq_true, decide_true, decide_false, List.size_toArray, List.length_cons, List.length_nil, List.cons_append, List.nil_append, List.append_nil, List.map_cons, List.map_nil, Array.size_push, Int.toNat_natCast, List.toList_toArray, Nat.min_def, Nat.reduceLeDiff, Nat.reducePow, Int.reducePow, Int.reduceToNat, Int.tdiv_eq_ediv_of_nonneg, Int.tmod_eq_emod_of_nonneg, Int.fdiv_eq_ediv_of_nonneg, Nat.mul_one, Nat.reduceAdd, Nat.zero_add, Nat.add_zero, implies_true, false_implies, true_implies, c1, c2, hbig]
      exact ⟨hx.trans x3, n + (x.keys.length + x.tgts.length), by simp, by omega⟩
    · simp (disch := first | omega | assumption) only [C.law2_weight_gos, vs, T.ts, and_true, true_and, List.getElem?_toArray, List.getElem?_cons_zero, List.getElem?_cons_succ, ↓reduceIte, Nat.reduceEqDiff, Option.bind_some, Option.map_some, Option.isSome_some, ne_eq, Bool.not_true, Bool.not_false, Bool.true_eq_false, Bool.false_eq_true, Bool.not_eq_true', Bool.not_eq_false', reduceCtorEq, Option.some.injEq, decide_eq_true_eq, decide_eq_false_iff_not, not_true_eq_false, not_false_eq_true, decide_true, decide_false, List.size_toArray, List.length_cons, List.length_nil, List.cons_append, List.nil_append, List.append_nil, List.map_cons, List.map_nil, Array.size_push, Int.toNat_natCast, List.toList_toArray, Nat.min_def, Nat.reduceLeDiff, Nat.reducePow, Int.reducePow, Int.reduceToNat, Int.tdiv_eq_ediv_of_nonneg, Int.tmod_eq_emod_of_nonneg, Int.fdiv_eq_ediv_of_nonneg, Nat.mul_one, Nat.reduceAdd, Nat.zero_add, Nat.add_zero, implies_true, false_implies, true_implies, c1, c2, hbig]
      exact ⟨_, by omega, i + 1, n + (x.keys.length + x.tgts.length), rfl, by omega, by omega, by simp, hx.trans x3⟩
  · have hlt' : ¬ (i : Int) < l.length := by omega
    simp (disch := first | omega | assumption) only [C.law2_weight_gos, vs, T.ts, and_true, true_and, List.getElem?_toArray, List.getElem?_cons_zero, List.getElem?_cons_succ, ↓reduceIte, Nat.reduceEqDiff, Option.bind_some, Option.map_some, Option.isSome_some, ne_eq, Bool.not_true, Bool.not_false, Bool.true_eq_false, Bool.false_eq_true, Bool.not_eq_true', Bool.not_eq_false', reduceCtorEq, Option.some.injEq, decide_eq_true_eq, decide_eq_false_iff_not, not_true_eq_false, not_false_eq_true, decide_true, decide_false, List.size_toArray, List.length_cons, List.length_nil, List.cons_append, List.nil_append, List.append_nil, List.map_cons, List.map_nil, Array.size_push, Int.toNat_natCast, List.toList_toArray, Nat.min_def, Nat.reduceLeDiff, Nat.reducePow, Int.reducePow, Int.reduceToNat, Int.tdiv_eq_ediv_of_nonneg, Int.tmod_eq_emod_of_nonneg, Int.fdiv_eq_ediv_of_nonneg, Nat.mul_one, Nat.reduceAdd, Nat.zero_add, Nat.add_zero, implies_true, false_implies, true_implies, hlt']
    exact ⟨hx, n, rfl, by omega⟩

def InO (h : Heap) (base : Nat) (x : In) (r : List Value) : Prop := ∃ vk vt, r = InV x vk vt ∧ Own h base 3 1 vk x.keys.length (intsV x.keys) ∧ Own h base 3 1 vt x.tgts.length (intsV x.tgts)
theorem InO.inc {h : Heap} {base : Nat} {x : In} {r : List Value} (H : InO h base x r) : InC h x r := by
  obtain ⟨vk, vt, h1, h2, h3⟩ := H
  exact ⟨vk, vt, h1, h2.slN, h2.capOk, h3.slN, h3.capOk⟩

set_option maxHeartbeats 4000000 in
theorem twin_any (l : List In) (v : Value) (h : Heap) (hl : InsC h v l) (hll : l.length ≤ 1048576) (hLl : ∀ x ∈ l, x.keys.length ≤ 1048576 ∧ x.tgts.length ≤ 1048576) :
    HCalls Try.prog 7 #[v] h fun r h' => Ext h h' ∧ InsC h' r l := by
  refine C.law2_twin_calls (args := [v]) rfl ?_
  obtain ⟨rows0, hr1, hr2, hr3⟩ := id hl
  have hr2' := hr2
  obtain ⟨_, a, c, rfl, _⟩ := hr2'
  simp (disch := first | omega | assumption) only [C.law2_twin_gos, vs, T.ts, and_true, true_and, List.getElem?_toArray, List.getElem?_cons_zero, List.getElem?_cons_succ, ↓reduceIte, Nat.reduceEqDiff, Option.bind_some, Option.map_some, Option.isSome_some, ne_eq, Bool.not_true, Bool.not_false, Bool.true_eq_false, Bool.false_eq_true, Bool.not_eq_true', Bool.not_eq_false', reduceCtorEq, Option.some.injEq, decide_eq_true_eq, decide_eq_false_iff_not, not_true_eq_false, not_false_eq_true, decide_true, decide_false, List.size_toArray, List.length_cons, List.length_nil, List.cons_append, List.nil_append, List.append_nil, List.map_cons, List.map_nil, Array.size_push, Int.toNat_natCast, List.toList_toArray, Nat.min_def, Nat.reduceLeDiff, Nat.reducePow, Int.reducePow, Int.reduceToNat, Int.tdiv_eq_ediv_of_nonneg, Int.tmod_eq_emod_of_nonneg, Int.fdiv_eq_ediv_of_nonneg, Nat.mul_one, Nat.reduceAdd, Nat.zero_add, Nat.add_zero, implies_true, false_implies, true_implies]
  refine loop_intro [3, 6, 7, 8] (fun m ρ hc => ∃ (i : Nat) (sv : Value) (rows : List (List Value)), m = l.length - i ∧ i ≤ l.length ∧ rows.length = i ∧ ρ = [(3, sv), (6, .slice a l.length c), (7, .int .i64 l.length), (8, .int .i64 i)] ∧ Ext h hc ∧
      Own hc h.size 35 8 sv i rows.flatten ∧ ∀ j, j < i → InO hc h.size (l.getD j in0) (rows.getD j [])) ?_ ?_
  · simp (disch := first | omega | assumption) only [C.law2_twin_gos, vs, T.ts, and_true, true_and, List.getElem?_toArray, List.getElem?_cons_zero, List.getElem?_cons_succ, ↓reduceIte, Nat.reduceEqDiff, Option.bind_some, Option.map_some, Option.isSome_some, ne_eq, Bool.not_true, Bool.not_false, Bool.true_eq_false, Bool.false_eq_true, Bool.not_eq_true', Bool.not_eq_false', reduceCtorEq, Option.some.injEq, decide_eq_true_eq, decide_eq_false_iff_not, not_true_eq_false, not_false_eq_true, decide_true, decide_false, List.size_toArray, List.length_cons, List.length_nil, List.cons_append, List.nil_append, List.append_nil, List.map_cons, List.map_nil, Array.size_push, Int.toNat_natCast, List.toList_toArray, Nat.min_def, Nat.reduceLeDiff, Nat.reducePow, Int.reducePow, Int.reduceToNat, Int.tdiv_eq_ediv_of_nonneg, Int.tmod_eq_emod_of_nonneg, Int.fdiv_eq_ediv_of_nonneg, Nat.mul_one, Nat.reduceAdd, Nat.zero_add, Nat.add_zero, implies_true, false_implies, true_implies]
    exact ⟨_, 0, _, [], rfl, Nat.zero_le _, rfl, rfl, Ext.refl _, Own.nil, fun j hj => by omega⟩
  rintro m ρ hc ⟨i, sv, rows, rfl, hi, hrl, rfl, hx, hown, hrows⟩
  rcases Nat.lt_or_ge i l.length with hlt | hge
  case inr =>
    have hlt' : ¬ (i : Int) < l.length := by omega
    have hin : i = l.length := by omega
    subst hin
    simp (disch := first | omega | assumption) only [C.law2_twin_gos, vs, T.ts, and_true, true_and, List.getElem?_toArray, List.getElem?_cons_zero, List.getElem?_cons_succ, ↓reduceIte, Nat.reduceEqDiff, Option.bind_some, Option.map_some, Option.isSome_some, ne_eq, Bool.not_true, Bool.not_false, Bool.true_eq_false, Bool.false_eq_true, Bool.not_eq_true', Bool.not_eq_false', reduceCtorEq, Option.some.injEq, decide_eq_true_eq, decide_eq_false_iff_not, not_true_eq_false, not_false_eq_true, decide_true, decide_false, List.size_toArray, List.length_cons, List.length_nil, List.cons_append, List.nil_append, List.append_nil, List.map_cons, List.map_nil, Array.size_push, Int.toNat_natCast, List.toList_toArray, Nat.min_def, Nat.reduceLeDiff, Nat.reducePow, Int.reducePow, Int.reduceToNat, Int.tdiv_eq_ediv_of_nonneg, Int.tmod_eq_emod_of_nonneg, Int.fdiv_eq_ediv_of_nonneg, Nat.mul_one, Nat.reduceAdd, Nat.zero_add, Nat.add_zero, implies_true, false_implies, true_implies, hlt']
    exact ⟨hx, rows, hrl, hown.slN, fun j hj => (hrows j hj).inc⟩
  have hlt' : (i : Int) < l.length := by omega
  obtain ⟨b, o, c', vL, vS, heq, hrd0, sL, cL, sS, cS⟩ := hl.at hlt
  cases heq
  have hll2 := hLl (l.getD i in0) (getD_mem hlt)
  have hfin : ∀ r : List Value, ∀ h' : Heap, (∀ j, j < i → InO h' h.size (l.getD j in0) (rows.getD j [])) → InO h' h.size (l.getD i in0) r → ∀ j, j < i + 1 → InO h' h.size (l.getD j in0) ((rows ++ [r]).getD j []) := by
    intro r h' h1 h2 j hj
    rcases Nat.lt_or_ge j i with hji | hji
    · have : (rows ++ [r]).getD j [] = rows.getD j [] := by simp [List.getElem?_append_left (by omega : j < rows.length)]
      rw [this]; exact h1 j hji
    · have hje : j = i := by omega
      subst hje
      have : (rows ++ [r]).getD j [] = r := by simp [← hrl]
      rw [this]; exact h2
  generalize hf : l.getD i in0 = x at *
  have hrd : Rd hc b (o + i * 8) (InV x vL vS) := hx.rd hrd0 (hrd0.lt (by simp [InV])) id
  have hld := ld_agg T.ag_35 hrd rfl
  have sL' := sL
  have sS' := sS
  obtain ⟨_, aL, kL, rfl, _⟩ := sL'
  obtain ⟨_, aS, kS, rfl, _⟩ := sS'
  simp only [InV] at hld
  simp (disch := first | omega | assumption) only [C.law2_twin_gos, vs, T.ts, and_true, true_and, List.getElem?_toArray, List.getElem?_cons_zero, List.getElem?_cons_succ, ↓reduceIte, Nat.reduceEqDiff, Option.bind_some, Option.map_some, Option.isSome_some, ne_eq, Bool.not_true, Bool.not_false, Bool.true_eq_false, Bool.false_eq_true, Bool.not_eq_true', Bool.not_eq_false', reduceCtorEq, Option.some.injEq, decide_eq_true_eq, decide_eq_false_iff_not, not_true_eq_false, not_false_eq_true, decide_true, decide_false, List.size_toArray, List.length_cons, List.length_nil, List.cons_append, List.nil_append, List.append_nil, List.map_cons, List.map_nil, Array.size_push, Int.toNat_natCast, List.toList_toArray, Nat.min_def, Nat.reduceLeDiff, Nat.reducePow, Int.reducePow, Int.reduceToNat, Int.tdiv_eq_ediv_of_nonneg, Int.tmod_eq_emod_of_nonneg, Int.fdiv_eq_ediv_of_nonneg, Nat.mul_one, Nat.reduceAdd, Nat.zero_add, Nat.add_zero, implies_true, false_implies, true_implies, hlt', hld]
  refine eff_alloc_z T.zr_35 ?_
  simp (disch := first | omega | assumption) only [C.law2_twin_gos, vs, T.ts, and_true, true_and, List.getElem?_toArray, List.getElem?_cons_zero, List.getElem?_cons_succ, ↓reduceIte, Nat.reduceEqDiff, Option.bind_some, Option.map_some, Option.isSome_some, ne_eq, Bool.not_true, Bool.not_false, Bool.true_eq_false, Bool.false_eq_true, Bool.not_eq_true', Bool.not_eq_false', reduceCtorEq, Option.some.injEq, decide_eq_true_eq, decide_eq_false_iff_not, not_true_eq_false, not_false_eq_true, decide_true, decide_false, List.size_toArray, List.length_cons, List.length_nil, List.cons_append, List.nil_append, List.append_nil, List.map_cons, List.map_nil, Array.size_push, Int.toNat_natCast, List.toList_toArray, Nat.min_def, Nat.reduceLeDiff, Nat.reducePow, Int.reducePow, Int.reduceToNat, Int.tdiv_eq_ediv_of_nonneg, Int.tmod_eq_emod_of_nonneg, Int.fdiv_eq_ediv_of_nonneg, Nat.mul_one, Nat.reduceAdd, Nat.zero_add, Nat.add_zero, implies_true, false_implies, true_implies]
  refine eff_store_new_z T.zr_35 rfl rfl rfl (by simp [Value.cells, oneCell]) rfl ?_
  intro h3 x3 hlt3 hrd3 b3
  change h3[hc.size]? = some (.cells (InV x (.slice aL x.keys.length kL) (.slice aS x.tgts.length kS)).toArray 35 (0, 0)) at b3
  have c1 : cellAt h3 ⟨hc.size, 6, none⟩ = some (.slice aL x.keys.length kL) := hrd3 6 _ rfl
  have hx3 := hx.trans x3
  have own3 := hown.ext x3
  have hqb : h.size ≤ hc.size := hx.size
  have hqo : ¬ sv.ownBlock = some hc.size := fun hk => by have := (hown.lt _ hk).2; omega
  have rows3 : ∀ j, j < i → InO h3 h.size (l.getD j in0) (rows.getD j []) := fun j hj => by
    obtain ⟨wL, wS, e1, e2, e3⟩ := hrows j hj
    exact ⟨wL, wS, e1, e2.ext x3, e3.ext x3⟩
  clear hld hrd hrd3 hown hrows x3
  generalize hc.size = q at *
  simp (disch := first | omega | assumption) only [C.law2_twin_gos, vs, T.ts, and_true, true_and, List.getElem?_toArray, List.getElem?_cons_zero, List.getElem?_cons_succ, ↓reduceIte, Nat.reduceEqDiff, Option.bind_some, Option.map_some, Option.isSome_some, ne_eq, Bool.not_true, Bool.not_false, Bool.true_eq_false, Bool.false_eq_true, Bool.not_eq_true', Bool.not_eq_false', reduceCtorEq, Option.some.injEq, decide_eq_true_eq, decide_eq_false_iff_not, not_true_eq_false, not_false_eq_true, decide_true, decide_false, List.size_toArray, List.length_cons, List.length_nil, List.cons_append, List.nil_append, List.append_nil, List.map_cons, List.map_nil, Array.size_push, Int.toNat_natCast, List.toList_toArray, Nat.min_def, Nat.reduceLeDiff, Nat.reducePow, Int.reducePow, Int.reduceToNat, Int.tdiv_eq_ediv_of_nonneg, Int.tmod_eq_emod_of_nonneg, Int.fdiv_eq_ediv_of_nonneg, Nat.mul_one, Nat.reduceAdd, Nat.zero_add, Nat.add_zero, implies_true, false_implies, true_implies, c1]
  refine eff_append_slN (base := h.size) T.slT_33 rfl rfl Own.nil (sL.ext (by decide) hx3) (intsV_one x.keys) (by omega) (by omega) hx3.size ?_
  intro v4 h4 own4 fr4
  have x4 : Ext h3 h4 := ⟨fr4.size, fun k hk _ => fr4.same k hk (by simp [Value.ownBlock])⟩
  simp only [Nat.zero_add, List.nil_append] at own4
  have b4 := Fr_blk x4 b3 id
  have hx4 := hx3.trans x4
  have d1 : cellAt h4 ⟨q, 6, none⟩ = some (.slice aL x.keys.length kL) := by rw [cellAt_of b4]; rfl
  obtain ⟨a4, k4, rfl, _⟩ := own4.slN.2
  try simp only [Nat.zero_add]
  simp (disch := first | omega | assumption) only [C.law2_twin_gos, vs, T.ts, and_true, true_and, List.getElem?_toArray, List.getElem?_cons_zero, List.getElem?_cons_succ, ↓reduceIte, Nat.reduceEqDiff, Option.bind_some, Option.map_some, Option.isSome_some, ne_eq, Bool.not_true, Bool.not_false, Bool.true_eq_false, Bool.false_eq_true, Bool.not_eq_true', Bool.not_eq_false', reduceCtorEq, Option.some.injEq, decide_eq_true_eq, decide_eq_false_iff_not, not_true_eq_false, not_false_eq_true, decide_true, decide_false, List.size_toArray, List.length_cons, List.length_nil, List.cons_append, List.nil_append, List.append_nil, List.map_cons, List.map_nil, Array.size_push, Int.toNat_natCast, List.toList_toArray, Nat.min_def, Nat.reduceLeDiff, Nat.reducePow, Int.reducePow, Int.reduceToNat, Int.tdiv_eq_ediv_of_nonneg, Int.tmod_eq_emod_of_nonneg, Int.fdiv_eq_ediv_of_nonneg, Nat.mul_one, Nat.reduceAdd, Nat.zero_add, Nat.add_zero, implies_true, false_implies, true_implies]
  refine eff_store1_z T.zr_33 rfl rfl rfl rfl rfl d1 (by simp [frozenAt, b4]) ?_
  have b5 := setAt_get (o := 6) b4 (.slice a4 x.keys.length k4)
  change (setAt h4 ⟨q, 6, none⟩ (.slice a4 x.keys.length k4))[q]? = some (.cells (InV x (.slice a4 x.keys.length k4) (.slice aS x.tgts.length kS)).toArray 35 (0, 0)) at b5
  have w5 : Fr (fun k => k = q) h4 (setAt h4 ⟨q, 6, none⟩ (.slice a4 x.keys.length k4)) := Fr.set (S := fun k => k = q) _ _ _ fun _ => rfl
  have hx5 : Ext h (setAt h4 ⟨q, 6, none⟩ (.slice a4 x.keys.length k4)) := Fr.trans hx4 w5 (fun _ _ h => h) (fun k hk hS => by omega)
  have own5 := own4.fr w5 (fun k hk hS => by subst hS; exact Own_ne own4 b4 (by decide) hk)
  have sv5 := (own3.ext x4).fr w5 (fun k hk hS => by subst hS; exact hqo hk)
  have rows5 : ∀ j, j < i → InO (setAt h4 ⟨q, 6, none⟩ (.slice a4 x.keys.length k4)) h.size (l.getD j in0) (rows.getD j []) := fun j hj => by
    obtain ⟨wL, wS, e1, e2, e3⟩ := rows3 j hj
    exact ⟨wL, wS, e1, (e2.ext x4).fr w5 (fun k hk hS => by subst hS; exact Own_ne (e2.ext x4) b4 (by decide) hk), (e3.ext x4).fr w5 (fun k hk hS => by subst hS; exact Own_ne (e3.ext x4) b4 (by decide) hk)⟩
  generalize setAt h4 ⟨q, 6, none⟩ (.slice a4 x.keys.length k4) = h5 at *
  have c2 : cellAt h5 ⟨q, 7, none⟩ = some (.slice aS x.tgts.length kS) := by rw [cellAt_of b5]; rfl
  clear w5 x4 own4 b4 d1 fr4 rows3 own3
  simp (disch := first | omega | assumption) only [C.law2_twin_gos, vs, T.ts, and_true, true_and, List.getElem?_toArray, List.getElem?_cons_zero, List.getElem?_cons_succ, ↓reduceIte, Nat.reduceEqDiff, Option.bind_some, Option.map_some, Option.isSome_some, ne_eq, Bool.not_true, Bool.not_false, Bool.true_eq_false, Bool.false_eq_true, Bool.not_eq_true', Bool.not_eq_false', reduceCtorEq, Option.some.injEq, decide_eq_true_eq, decide_eq_false_iff_not, not_true_eq_false, not_false_eq_true, decide_true, decide_false, List.size_toArray, List.length_cons, List.length_nil, List.cons_append, List.nil_append, List.append_nil, List.map_cons, List.map_nil, Array.size_push, Int.toNat_natCast, List.toList_toArray, Nat.min_def, Nat.reduceLeDiff, Nat.reducePow, Int.reducePow, Int.reduceToNat, Int.tdiv_eq_ediv_of_nonneg, Int.tmod_eq_emod_of_nonneg, Int.fdiv_eq_ediv_of_nonneg, Nat.mul_one, Nat.reduceAdd, Nat.zero_add, Nat.add_zero, implies_true, false_implies, true_implies, c2]
  refine eff_append_slN (base := h.size) T.slT_33 rfl rfl Own.nil (sS.ext (by decide) hx5) (intsV_one x.tgts) (by omega) (by omega) hx5.size ?_
  intro v6 h6 own6 fr6
  have x6 : Ext h5 h6 := ⟨fr6.size, fun k hk _ => fr6.same k hk (by simp [Value.ownBlock])⟩
  simp only [Nat.zero_add, List.nil_append] at own6
  have b6 := Fr_blk x6 b5 id
  have hx6 := hx5.trans x6
  have d2 : cellAt h6 ⟨q, 7, none⟩ = some (.slice aS x.tgts.length kS) := by rw [cellAt_of b6]; rfl
  obtain ⟨a6, k6, rfl, _⟩ := own6.slN.2
  try simp only [Nat.zero_add]
  simp (disch := first | omega | assumption) only [C.law2_twin_gos, vs, T.ts, and_true, true_and, List.getElem?_toArray, List.getElem?_cons_zero, List.getElem?_cons_succ, ↓reduceIte, Nat.reduceEqDiff, Option.bind_some, Option.map_some, Option.isSome_some, ne_eq, Bool.not_true, Bool.not_false, Bool.true_eq_false, Bool.false_eq_true, Bool.not_eq_true', Bool.not_eq_false', reduceCtorEq, Option.some.injEq, decide_eq_true_eq, decide_eq_false_iff_not, not_true_eq_false, not_false_eq_true, decide_true, decide_false, List.size_toArray, List.length_cons, List.length_nil, List.cons_append, List.nil_append, List.append_nil, List.map_cons, List.map_nil, Array.size_push, Int.toNat_natCast, List.toList_toArray, Nat.min_def, Nat.reduceLeDiff, Nat.reducePow, Int.reducePow, Int.reduceToNat, Int.tdiv_eq_ediv_of_nonneg, Int.tmod_eq_emod_of_nonneg, Int.fdiv_eq_ediv_of_nonneg, Nat.mul_one, Nat.reduceAdd, Nat.zero_add, Nat.add_zero, implies_true, false_implies, true_implies]
  refine eff_store1_z T.zr_33 rfl rfl rfl rfl rfl d2 (by simp [frozenAt, b6]) ?_
  have b7 := setAt_get (o := 7) b6 (.slice a6 x.tgts.length k6)
  change (setAt h6 ⟨q, 7, none⟩ (.slice a6 x.tgts.length k6))[q]? = some (.cells (InV x (.slice a4 x.keys.length k4) (.slice a6 x.tgts.length k6)).toArray 35 (0, 0)) at b7
  have w7 : Fr (fun k => k = q) h6 (setAt h6 ⟨q, 7, none⟩ (.slice a6 x.tgts.length k6)) := Fr.set (S := fun k => k = q) _ _ _ fun _ => rfl
  have hx7 : Ext h (setAt h6 ⟨q, 7, none⟩ (.slice a6 x.tgts.length k6)) := Fr.trans hx6 w7 (fun _ _ h => h) (fun k hk hS => by omega)
  have ownL := (own5.ext x6).fr w7 (fun k hk hS => by subst hS; exact Own_ne (own5.ext x6) b6 (by decide) hk)
  have ownS := own6.fr w7 (fun k hk hS => by subst hS; exact Own_ne own6 b6 (by decide) hk)
  have sv7 := (sv5.ext x6).fr w7 (fun k hk hS => by subst hS; exact hqo hk)
  have rows7 : ∀ j, j < i → InO (setAt h6 ⟨q, 7, none⟩ (.slice a6 x.tgts.length k6)) h.size (l.getD j in0) (rows.getD j []) := fun j hj => by
    obtain ⟨wL, wS, e1, e2, e3⟩ := rows5 j hj
    exact ⟨wL, wS, e1, (e2.ext x6).fr w7 (fun k hk hS => by subst hS; exact Own_ne (e2.ext x6) b6 (by decide) hk), (e3.ext x6).fr w7 (fun k hk hS => by subst hS; exact Own_ne (e3.ext x6) b6 (by decide) hk)⟩
  generalize setAt h6 ⟨q, 7, none⟩ (.slice a6 x.tgts.length k6) = h7 at *
  have hld7 := ld_agg T.ag_35 (Rd_block b7) rfl
  simp only [InV] at hld7
  clear w7 x6 own6 b6 d2 fr6 rows5 own5 sv5 b5 c2
  simp (disch := first | omega | assumption) only [C.law2_twin_gos, vs, T.ts, and_true, true_and, List.getElem?_toArray, List.getElem?_cons_zero, List.getElem?_cons_succ, ↓reduceIte, Nat.reduceEqDiff, Option.bind_some, Option.map_some, Option.isSome_some, ne_eq, Bool.not_true, Bool.not_false, Bool.true_eq_false, Bool.false_eq_true, Bool.not_eq_true', Bool.not_eq_false', reduceCtorEq, Option.some.injEq, decide_eq_true_eq, decide_eq_false_iff_not, not_true_eq_false, not_false_eq_true, decide_true, decide_false, List.size_toArray, List.length_cons, List.length_nil, List.cons_append, List.nil_append, List.append_nil, List.map_cons, List.map_nil, Array.size_push, Int.toNat_natCast, List.toList_toArray, Nat.min_def, Nat.reduceLeDiff, Nat.reducePow, Int.reducePow, Int.reduceToNat, Int.tdiv_eq_ediv_of_nonneg, Int.tmod_eq_emod_of_nonneg, Int.fdiv_eq_ediv_of_nonneg, Nat.mul_one, Nat.reduceAdd, Nat.zero_add, Nat.add_zero, implies_true, false_implies, true_implies, hld7]
  refine eff_lits T.slT_22 rfl rfl (by decide) ?_
  simp (disch := first | omega | assumption) only [C.law2_twin_gos, vs, T.ts, and_true, true_and, List.getElem?_toArray, List.getElem?_cons_zero, List.getElem?_cons_succ, ↓reduceIte, Nat.reduceEqDiff, Option.bind_some, Option.map_some, Option.isSome_some, ne_eq, Bool.not_true, Bool.not_false, Bool.true_eq_false, Bool.false_eq_true, Bool.not_eq_true', Bool.not_eq_false', reduceCtorEq, Option.some.injEq, decide_eq_true_eq, decide_eq_false_iff_not, not_true_eq_false, not_false_eq_true, decide_true, decide_false, List.size_toArray, List.length_cons, List.length_nil, List.cons_append, List.nil_append, List.append_nil, List.map_cons, List.map_nil, Array.size_push, Int.toNat_natCast, List.toList_toArray, Nat.min_def, Nat.reduceLeDiff, Nat.reducePow, Int.reducePow, Int.reduceToNat, Int.tdiv_eq_ediv_of_nonneg, Int.tmod_eq_emod_of_nonneg, Int.fdiv_eq_ediv_of_nonneg, Nat.mul_one, Nat.reduceAdd, Nat.zero_add, Nat.add_zero, implies_true, false_implies, true_implies]
  refine eff_append_own (m := 1) T.slT_22 rfl rfl (sv7.push _) rfl (Rd_new (vs := InV x (.slice a4 x.keys.length k4) (.slice a6 x.tgts.length k6))) (by simp [InV, oneCell]) (by omega) (by omega) (by have := hx7.size; simp; omega) ?_
  intro v8 h8 own8 fr8 _
  have hx8 : Ext h h8 := Ext.app (hx7.trans (Ext.push _ _)) fr8 (fun k hk => (sv7.lt k hk).1)
  have key : ∀ {w : Value} {n : Nat} {xs : List Value}, Own h7 h.size 3 1 w n xs → Own h8 h.size 3 1 w n xs := fun H => (H.push (.cells (InV x (.slice a4 x.keys.length k4) (.slice a6 x.tgts.length k6)).toArray 35)).fr fr8 (Own_two (H.push (.cells (InV x (.slice a4 x.keys.length k4) (.slice a6 x.tgts.length k6)).toArray 35)) (sv7.push (.cells (InV x (.slice a4 x.keys.length k4) (.slice a6 x.tgts.length k6)).toArray 35)) (by decide))
  simp (disch := first | omega | assumption) only [C.law2_twin_gos, vs, T.ts, and_true, true_and, List.getElem?_toArray, List.getElem?_cons_zero, List.getElem?_cons_succ, ↓reduceIte, Nat.reduceEqDiff, Option.bind_some, Option.map_some, Option.isSome_some, ne_eq, Bool.not_true, Bool.not_false, Bool.true_eq_false, Bool.false_eq_true, Bool.not_eq_true', Bool.not_eq_false', reduceCtorEq, Option.some.injEq, decide_eq_true_eq, decide_eq_false_iff_not, not_true_eq_false, not_false_eq_true, decide_true, decide_false, List.size_toArray, List.length_cons, List.length_nil, List.cons_append, List.nil_append, List.append_nil, List.map_cons, List.map_nil, Array.size_push, Int.toNat_natCast, List.toList_toArray, Nat.min_def, Nat.reduceLeDiff, Nat.reducePow, Int.reducePow, Int.reduceToNat, Int.tdiv_eq_ediv_of_nonneg, Int.tmod_eq_emod_of_nonneg, Int.fdiv_eq_ediv_of_nonneg, Nat.mul_one, Nat.reduceAdd, Nat.zero_add, Nat.add_zero, implies_true, false_implies, true_implies]
  exact ⟨_, by omega, i + 1, v8, rows ++ [InV x (.slice a4 x.keys.length k4) (.slice a6 x.tgts.length k6)], rfl, by omega, by simp [hrl], by simp, hx8, by rw [List.flatten_append]; simpa using own8,
    hfin _ h8 (fun j hj => by
      obtain ⟨wL, wS, e1, e2, e3⟩ := rows7 j hj
      exact ⟨wL, wS, e1, key e2, key e3⟩) ⟨_, _, rfl, key ownL, key ownS⟩⟩

set_option maxHeartbeats 1000000 in
theorem sameInts_any (cs : List Int) (v u : Value) (h : Heap) (hs : SlN h 1 v cs.length (intsV cs)) (ht : SlN h 1 u cs.length (intsV cs)) (hlen : cs.length ≤ 9223372036854775806) :
    HCalls Try.prog 18 #[v, u] h fun r h' => h' = h ∧ r = .bool true := by
  refine C.law2_sameInts_calls (args := [v, u]) rfl ?_
  have hs' := hs
  have ht' := ht
  obtain ⟨_, a, c, rfl, _⟩ := hs'
  obtain ⟨_, a2, c2, rfl, _⟩ := ht'
  simp (disch := first | omega | assumption) only [C.law2_sameInts_gos, vs, T.ts, and_true, true_and, List.getElem?_toArray, List.getElem?_cons_zero, List.getElem?_cons_succ, ↓reduceIte, Nat.reduceEqDiff, Option.bind_some, Option.map_some, Option.isSome_some, ne_eq, Bool.not_true, Bool.not_false, Bool.true_eq_false, Bool.false_eq_true, Bool.not_eq_true', Bool.not_eq_false', reduceCtorEq, Option.some.injEq, decide_eq_true_eq, decide_eq_false_iff_not, not_true_eq_false, not_false_eq_true, decide_true, decide_false, List.size_toArray, List.length_cons, List.length_nil, List.cons_append, List.nil_append, List.append_nil, List.map_cons, List.map_nil, Array.size_push, Int.toNat_natCast, List.toList_toArray, Nat.min_def, Nat.reduceLeDiff, Nat.reducePow, Int.reducePow, Int.reduceToNat, Int.tdiv_eq_ediv_of_nonneg, Int.tmod_eq_emod_of_nonneg, Int.fdiv_eq_ediv_of_nonneg, Nat.mul_one, Nat.reduceAdd, Nat.zero_add, Nat.add_zero, implies_true, false_implies, true_implies]
  refine loop_intro [0, 1, 12, 13] (fun m ρ hc => ∃ i : Nat, m = cs.length - i ∧ i ≤ cs.length ∧ ρ = [(0, .slice a cs.length c), (1, .slice a2 cs.length c2), (12, .int .i64 cs.length), (13, .int .i64 i)] ∧ hc = h) ?_ ?_
  · simp (disch := first | omega | assumption) only [C.law2_sameInts_gos, vs, T.ts, and_true, true_and, List.getElem?_toArray, List.getElem?_cons_zero, List.getElem?_cons_succ, ↓reduceIte, Nat.reduceEqDiff, Option.bind_some, Option.map_some, Option.isSome_some, ne_eq, Bool.not_true, Bool.not_false, Bool.true_eq_false, Bool.false_eq_true, Bool.not_eq_true', Bool.not_eq_false', reduceCtorEq, Option.some.injEq, decide_eq_true_eq, decide_eq_false_iff_not, not_true_eq_false, not_false_eq_true, decide_true, decide_false, List.size_toArray, List.length_cons, List.length_nil, List.cons_append, List.nil_append, List.append_nil, List.map_cons, List.map_nil, Array.size_push, Int.toNat_natCast, List.toList_toArray, Nat.min_def, Nat.reduceLeDiff, Nat.reducePow, Int.reducePow, Int.reduceToNat, Int.tdiv_eq_ediv_of_nonneg, Int.tmod_eq_emod_of_nonneg, Int.fdiv_eq_ediv_of_nonneg, Nat.mul_one, Nat.reduceAdd, Nat.zero_add, Nat.add_zero, implies_true, false_implies, true_implies]
    exact ⟨_, 0, rfl, Nat.zero_le _, rfl⟩
  rintro m ρ hc ⟨i, rfl, hi, rfl, rfl⟩
  rcases Nat.lt_or_ge i cs.length with hlt | hge
  · have hlt' : (i : Int) < cs.length := by omega
    obtain ⟨b, o, c', heq, hrd, _⟩ := hs.at hlt
    obtain ⟨b2, o2, c2', heq2, hrd2, _⟩ := ht.at hlt
    cases heq
    cases heq2
    have e0 : cellAt hc ⟨b, o + i, none⟩ = some (.int .i64 (cs.getD i 0)) := by
      have := hrd 0 (.int .i64 (cs.getD i 0)) (by simp [intsV, hlt])
      simpa using this
    have e1 : cellAt hc ⟨b2, o2 + i, none⟩ = some (.int .i64 (cs.getD i 0)) := by
      have := hrd2 0 (.int .i64 (cs.getD i 0)) (by simp [intsV, hlt])
      simpa using this
    simp (disch := first | omega | assumption) only [C.law2_sameInts_gos, vs, T.ts, and_true, true_and, List.getElem?_toArray, List.getElem?_cons_zero, List.getElem?_cons_succ, ↓reduceIte, Nat.reduceEqDiff, Option.bind_some, Option.map_some, Option.isSome_some, ne_eq, Bool.not_true, Bool.not_false, Bool.true_eq_false, Bool.false_eq_true, Bool.not_eq_true', Bool.not_eq_false', reduceCtorEq, Option.some.injEq, decide_eq_true_eq, decide_eq_false_iff_not, not_true_eq_false, not_false_eq_true, decide_true, decide_false, List.size_toArray, List.length_cons, List.length_nil, List.cons_append, List.nil_append, List.append_nil, List.map_cons, List.map_nil, Array.size_push, Int.toNat_natCast, List.toList_toArray, Nat.min_def, Nat.reduceLeDiff, Nat.reducePow, Int.reducePow, Int.reduceToNat, Int.tdiv_eq_ediv_of_nonneg, Int.tmod_eq_emod_of_nonneg, Int.fdiv_eq_ediv_of_nonneg, Nat.mul_one, Nat.reduceAdd, Nat.zero_add, Nat.add_zero, implies_true, false_implies, true_implies, hlt', e0, e1]
    exact ⟨cs.length - (i + 1), by omega, i + 1, rfl, by omega, by simp⟩
  · have hlt' : ¬ (i : Int) < cs.length := by omega
    simp (disch := first | omega | assumption) only [C.law2_sameInts_gos, vs, T.ts, and_true, true_and, List.getElem?_toArray, List.getElem?_cons_zero, List.getElem?_cons_succ, ↓reduceIte, Nat.reduceEqDiff, Option.bind_some, Option.map_some, Option.isSome_some, ne_eq, Bool.not_true, Bool.not_false, Bool.true_eq_false, Bool.false_eq_true, Bool.not_eq_true', Bool.not_eq_false', reduceCtorEq, Option.some.injEq, decide_eq_true_eq, decide_eq_false_iff_not, not_true_eq_false, not_false_eq_true, decide_true, decide_false, List.size_toArray, List.length_cons, List.length_nil, List.cons_append, List.nil_append, List.append_nil, List.map_cons, List.map_nil, Array.size_push, Int.toNat_natCast, List.toList_toArray, Nat.min_def, Nat.reduceLeDiff, Nat.reducePow, Int.reducePow, Int.reduceToNat, Int.tdiv_eq_ediv_of_nonneg, Int.tmod_eq_emod_of_nonneg, Int.fdiv_eq_ediv_of_nonneg, Nat.mul_one, Nat.reduceAdd, Nat.zero_add, Nat.add_zero, implies_true, false_implies, true_implies, hlt']

set_option maxHeartbeats 2000000 in
theorem same_any (l : List In) (v u : Value) (h : Heap) (hs : InsC h v l) (ht : InsC h u l) (hll : l.length ≤ 1048576) (hLl : ∀ x ∈ l, x.keys.length ≤ 1048576 ∧ x.tgts.length ≤ 1048576) :
    HCalls Try.prog 10 #[v, u] h fun r h' => Ext h h' ∧ r = .bool true := by
  refine C.law2_same_calls (args := [v, u]) rfl ?_
  obtain ⟨_, _, hr2, _⟩ := id hs
  obtain ⟨_, _, hr2', _⟩ := id ht
  obtain ⟨_, a, c, rfl, _⟩ := hr2
  obtain ⟨_, a2, c2, rfl, _⟩ := hr2'
  simp (disch := first | omega | assumption) only [C.law2_same_gos, vs, T.ts, and_true, true_and, List.getElem?_toArray, List.getElem?_cons_zero, List.getElem?_cons_succ, ↓reduceIte, Nat.reduceEqDiff, Option.bind_some, Option.map_some, Option.isSome_some, ne_eq, Bool.not_true, Bool.not_false, Bool.true_eq_false, Bool.false_eq_true, Bool.not_eq_true', Bool.not_eq_false', reduceCtorEq, Option.some.injEq, decide_eq_true_eq, decide_eq_false_iff_not, not_true_eq_false, not_false_eq_true, decide_true, decide_false, List.size_toArray, List.length_cons, List.length_nil, List.cons_append, List.nil_append, List.append_nil, List.map_cons, List.map_nil, Array.size_push, Int.toNat_natCast, List.toList_toArray, Nat.min_def, Nat.reduceLeDiff, Nat.reducePow, Int.reducePow, Int.reduceToNat, Int.tdiv_eq_ediv_of_nonneg, Int.tmod_eq_emod_of_nonneg, Int.fdiv_eq_ediv_of_nonneg, Nat.mul_one, Nat.reduceAdd, Nat.zero_add, Nat.add_zero, implies_true, false_implies, true_implies]
  refine loop_intro [0, 1, 14, 15] (fun m ρ hc => ∃ i : Nat, m = l.length - i ∧ i ≤ l.length ∧ ρ = [(0, .slice a l.length c), (1, .slice a2 l.length c2), (14, .int .i64 l.length), (15, .int .i64 i)] ∧ Ext h hc) ?_ ?_
  · simp (disch := first | omega | assumption) only [C.law2_same_gos, vs, T.ts, and_true, true_and, List.getElem?_toArray, List.getElem?_cons_zero, List.getElem?_cons_succ, ↓reduceIte, Nat.reduceEqDiff, Option.bind_some, Option.map_some, Option.isSome_some, ne_eq, Bool.not_true, Bool.not_false, Bool.true_eq_false, Bool.false_eq_true, Bool.not_eq_true', Bool.not_eq_false', reduceCtorEq, Option.some.injEq, decide_eq_true_eq, decide_eq_false_iff_not, not_true_eq_false, not_false_eq_true, decide_true, decide_false, List.size_toArray, List.length_cons, List.length_nil, List.cons_append, List.nil_append, List.append_nil, List.map_cons, List.map_nil, Array.size_push, Int.toNat_natCast, List.toList_toArray, Nat.min_def, Nat.reduceLeDiff, Nat.reducePow, Int.reducePow, Int.reduceToNat, Int.tdiv_eq_ediv_of_nonneg, Int.tmod_eq_emod_of_nonneg, Int.fdiv_eq_ediv_of_nonneg, Nat.mul_one, Nat.reduceAdd, Nat.zero_add, Nat.add_zero, implies_true, false_implies, true_implies]
    exact ⟨_, 0, rfl, Nat.zero_le _, rfl, Ext.refl _⟩
  rintro m ρ hc ⟨i, rfl, hi, rfl, hx⟩
  rcases Nat.lt_or_ge i l.length with hlt | hge
  case inr =>
    have hlt' : ¬ (i : Int) < l.length := by omega
    simp (disch := first | omega | assumption) only [C.law2_same_gos, vs, T.ts, and_true, true_and, List.getElem?_toArray, List.getElem?_cons_zero, List.getElem?_cons_succ, ↓reduceIte, Nat.reduceEqDiff, Option.bind_some, Option.map_some, Option.isSome_some, ne_eq, Bool.not_true, Bool.not_false, Bool.true_eq_false, Bool.false_eq_true, Bool.not_eq_true', Bool.not_eq_false', reduceCtorEq, Option.some.injEq, decide_eq_true_eq, decide_eq_false_iff_not, not_true_eq_false, not_false_eq_true, decide_true, decide_false, List.size_toArray, List.length_cons, List.length_nil, List.cons_append, List.nil_append, List.append_nil, List.map_cons, List.map_nil, Array.size_push, Int.toNat_natCast, List.toList_toArray, Nat.min_def, Nat.reduceLeDiff, Nat.reducePow, Int.reducePow, Int.reduceToNat, Int.tdiv_eq_ediv_of_nonneg, Int.tmod_eq_emod_of_nonneg, Int.fdiv_eq_ediv_of_nonneg, Nat.mul_one, Nat.reduceAdd, Nat.zero_add, Nat.add_zero, implies_true, false_implies, true_implies, hlt']
    exact hx
  have hlt' : (i : Int) < l.length := by omega
  obtain ⟨b, o, c', vL, vS, heq, hrd0, sL, cL, sS, cS⟩ := hs.at hlt
  obtain ⟨b2, o2, c2', wL, wS, heq2, hrd20, tL, dL, tS, dS⟩ := ht.at hlt
  cases heq
  cases heq2
  have hll2 := hLl (l.getD i in0) (getD_mem hlt)
  generalize l.getD i in0 = x at *
  have hrd : Rd hc b (o + i * 8) (InV x vL vS) := hx.rd hrd0 (hrd0.lt (by simp [InV])) id
  have hrd2 : Rd hc b2 (o2 + i * 8) (InV x wL wS) := hx.rd hrd20 (hrd20.lt (by simp [InV])) id
  have hld := ld_agg T.ag_35 hrd rfl
  simp only [InV] at hld
  simp (disch := first | omega | assumption) only [C.law2_same_gos, vs, T.ts, and_true, true_and, List.getElem?_toArray, List.getElem?_cons_zero, List.getElem?_cons_succ, ↓reduceIte, Nat.reduceEqDiff, Option.bind_some, Option.map_some, Option.isSome_some, ne_eq, Bool.not_true, Bool.not_false, Bool.true_eq_false, Bool.false_eq_true, Bool.not_eq_true', Bool.not_eq_false', reduceCtorEq, Option.some.injEq, decide_eq_true_eq, decide_eq_false_iff_not, not_true_eq_false, not_false_eq_true, decide_true, decide_false, List.size_toArray, List.length_cons, List.length_nil, List.cons_append, List.nil_append, List.append_nil, List.map_cons, List.map_nil, Array.size_push, Int.toNat_natCast, List.toList_toArray, Nat.min_def, Nat.reduceLeDiff, Nat.reducePow, Int.reducePow, Int.reduceToNat, Int.tdiv_eq_ediv_of_nonneg, Int.tmod_eq_emod_of_nonneg, Int.fdiv_eq_ediv_of_nonneg, Nat.mul_one, Nat.reduceAdd, Nat.zero_add, Nat.add_zero, implies_true, false_implies, true_implies, hlt', hld]
  refine eff_alloc_z T.zr_35 ?_
  simp (disch := first | omega | assumption) only [C.law2_same_gos, vs, T.ts, and_true, true_and, List.getElem?_toArray, List.getElem?_cons_zero, List.getElem?_cons_succ, ↓reduceIte, Nat.reduceEqDiff, Option.bind_some, Option.map_some, Option.isSome_some, ne_eq, Bool.not_true, Bool.not_false, Bool.true_eq_false, Bool.false_eq_true, Bool.not_eq_true', Bool.not_eq_false', reduceCtorEq, Option.some.injEq, decide_eq_true_eq, decide_eq_false_iff_not, not_true_eq_false, not_false_eq_true, decide_true, decide_false, List.size_toArray, List.length_cons, List.length_nil, List.cons_append, List.nil_append, List.append_nil, List.map_cons, List.map_nil, Array.size_push, Int.toNat_natCast, List.toList_toArray, Nat.min_def, Nat.reduceLeDiff, Nat.reducePow, Int.reducePow, Int.reduceToNat, Int.tdiv_eq_ediv_of_nonneg, Int.tmod_eq_emod_of_nonneg, Int.fdiv_eq_ediv_of_nonneg, Nat.mul_one, Nat.reduceAdd, Nat.zero_add, Nat.add_zero, implies_true, false_implies, true_implies]
  obtain ⟨_, aL, kL, rfl, _⟩ := id sL
  obtain ⟨_, aS, kS, rfl, _⟩ := id sS
  obtain ⟨_, bL, mL, rfl, _⟩ := id tL
  obtain ⟨_, bS, mS, rfl, _⟩ := id tS
  refine eff_store_new_z T.zr_35 rfl rfl rfl (by simp [Value.cells, oneCell]) rfl ?_
  intro h3 x3 hlt3 hrd3 b3
  have hx3 := hx.trans x3
  have hrd23 : Rd h3 b2 (o2 + i * 8) (InV x (.slice bL x.keys.length mL) (.slice bS x.tgts.length mS)) := x3.rd hrd2 (hrd2.lt (by simp [InV])) id
  have hld2 := ld_agg T.ag_35 hrd23 rfl
  simp only [InV] at hld2
  clear hld hrd hrd2 hrd3 hrd23
  generalize hc.size = q at *
  simp (disch := first | omega | assumption) only [C.law2_same_gos, vs, T.ts, and_true, true_and, List.getElem?_toArray, List.getElem?_cons_zero, List.getElem?_cons_succ, ↓reduceIte, Nat.reduceEqDiff, Option.bind_some, Option.map_some, Option.isSome_some, ne_eq, Bool.not_true, Bool.not_false, Bool.true_eq_false, Bool.false_eq_true, Bool.not_eq_true', Bool.not_eq_false', reduceCtorEq, Option.some.injEq, decide_eq_true_eq, decide_eq_false_iff_not, not_true_eq_false, not_false_eq_true, decide_true, decide_false, List.size_toArray, List.length_cons, List.length_nil, List.cons_append, List.nil_append, List.append_nil, List.map_cons, List.map_nil, Array.size_push, Int.toNat_natCast, List.toList_toArray, Nat.min_def, Nat.reduceLeDiff, Nat.reducePow, Int.reducePow, Int.reduceToNat, Int.tdiv_eq_ediv_of_nonneg, Int.tmod_eq_emod_of_nonneg, Int.fdiv_eq_ediv_of_nonneg, Nat.mul_one, Nat.reduceAdd, Nat.zero_add, Nat.add_zero, implies_true, false_implies, true_implies, hlt', hld2]
  refine eff_alloc_z T.zr_35 ?_
  simp (disch := first | omega | assumption) only [C.law2_same_gos, vs, T.ts, and_true, true_and, List.getElem?_toArray, List.getElem?_cons_zero, List.getElem?_cons_succ, ↓reduceIte, Nat.reduceEqDiff, Option.bind_some, Option.map_some, Option.isSome_some, ne_eq, Bool.not_true, Bool.not_false, Bool.true_eq_false, Bool.false_eq_true, Bool.not_eq_true', Bool.not_eq_false', reduceCtorEq, Option.some.injEq, decide_eq_true_eq, decide_eq_false_iff_not, not_true_eq_false, not_false_eq_true, decide_true, decide_false, List.size_toArray, List.length_cons, List.length_nil, List.cons_append, List.nil_append, List.append_nil, List.map_cons, List.map_nil, Array.size_push, Int.toNat_natCast, List.toList_toArray, Nat.min_def, Nat.reduceLeDiff, Nat.reducePow, Int.reducePow, Int.reduceToNat, Int.tdiv_eq_ediv_of_nonneg, Int.tmod_eq_emod_of_nonneg, Int.fdiv_eq_ediv_of_nonneg, Nat.mul_one, Nat.reduceAdd, Nat.zero_add, Nat.add_zero, implies_true, false_implies, true_implies]
  refine eff_store_new_z T.zr_35 rfl rfl rfl (by simp [Value.cells, oneCell]) rfl ?_
  intro h4 x4 hlt4 hrd4 b4
  have hx4 := hx3.trans x4
  have b34 := Fr_blk x4 b3 id
  clear hld2
  have hrA := Rd_block (vs := InV x (.slice aL x.keys.length kL) (.slice aS x.tgts.length kS)) b34
  have hrB := Rd_block (vs := InV x (.slice bL x.keys.length mL) (.slice bS x.tgts.length mS)) b4
  generalize h3.size = q2 at *
  have fa : cellAt h4 ⟨q, 0, none⟩ = some (.int .i64 x.at') ∧ cellAt h4 ⟨q, 1, none⟩ = some (.int .u8 (x.op : Int)) ∧ cellAt h4 ⟨q, 2, none⟩ = some (.bool x.wide) ∧ cellAt h4 ⟨q, 3, none⟩ = some (.int .i64 x.A) ∧ cellAt h4 ⟨q, 4, none⟩ = some (.int .i64 x.B) ∧ cellAt h4 ⟨q, 5, none⟩ = some (.int .i64 x.low) ∧ cellAt h4 ⟨q, 6, none⟩ = some (.slice aL x.keys.length kL) ∧ cellAt h4 ⟨q, 7, none⟩ = some (.slice aS x.tgts.length kS) :=
    ⟨hrA 0 _ rfl, hrA 1 _ rfl, hrA 2 _ rfl, hrA 3 _ rfl, hrA 4 _ rfl, hrA 5 _ rfl, hrA 6 _ rfl, hrA 7 _ rfl⟩
  have fb : cellAt h4 ⟨q2, 0, none⟩ = some (.int .i64 x.at') ∧ cellAt h4 ⟨q2, 1, none⟩ = some (.int .u8 (x.op : Int)) ∧ cellAt h4 ⟨q2, 2, none⟩ = some (.bool x.wide) ∧ cellAt h4 ⟨q2, 3, none⟩ = some (.int .i64 x.A) ∧ cellAt h4 ⟨q2, 4, none⟩ = some (.int .i64 x.B) ∧ cellAt h4 ⟨q2, 5, none⟩ = some (.int .i64 x.low) ∧ cellAt h4 ⟨q2, 6, none⟩ = some (.slice bL x.keys.length mL) ∧ cellAt h4 ⟨q2, 7, none⟩ = some (.slice bS x.tgts.length mS) :=
    ⟨hrB 0 _ rfl, hrB 1 _ rfl, hrB 2 _ rfl, hrB 3 _ rfl, hrB 4 _ rfl, hrB 5 _ rfl, hrB 6 _ rfl, hrB 7 _ rfl⟩
  simp (disch := first | omega | assumption) only [C.law2_same_gos, vs, T.ts, and_true, true_and, List.getElem?_toArray, List.getElem?_cons_zero, List.getElem?_cons_succ, ↓reduceIte, Nat.reduceEqDiff, Option.bind_some, Option.map_some, Option.isSome_some, ne_eq, Bool.not_true, Bool.not_false, Bool.true_eq_false, Bool.false_eq_true, Bool.not_eq_true', Bool.not_eq_false', reduceCtorEq, Option.some.injEq, decide_eq_true_eq, decide_eq_false_iff_not, not_true_eq_false, not_false_eq_true, decide_true, decide_false, List.size_toArray, List.length_cons, List.length_nil, List.cons_append, List.nil_append, List.append_nil, List.map_cons, List.map_nil, Array.size_push, Int.toNat_natCast, List.toList_toArray, Nat.min_def, Nat.reduceLeDiff, Nat.reducePow, Int.reducePow, Int.reduceToNat, Int.tdiv_eq_ediv_of_nonneg, Int.tmod_eq_emod_of_nonneg, Int.fdiv_eq_ediv_of_nonneg, Nat.mul_one, Nat.reduceAdd, Nat.zero_add, Nat.add_zero, implies_true, false_implies, true_implies, fa, fb]
  refine eff_call_of ?_
  simp (disch := first | omega | assumption) only [C.law2_same_gos, vs, T.ts, and_true, true_and, List.getElem?_toArray, List.getElem?_cons_zero, List.getElem?_cons_succ, ↓reduceIte, Nat.reduceEqDiff, Option.bind_some, Option.map_some, Option.isSome_some, ne_eq, Bool.not_true, Bool.not_false, Bool.true_eq_false, Bool.false_eq_true, Bool.not_eq_true', Bool.not_eq_false', reduceCtorEq, Option.some.injEq, decide_eq_true_eq, decide_eq_false_iff_not, not_true_eq_false, not_false_eq_true, decide_true, decide_false, List.size_toArray, List.length_cons, List.length_nil, List.cons_append, List.nil_append, List.append_nil, List.map_cons, List.map_nil, Array.size_push, Int.toNat_natCast, List.toList_toArray, Nat.min_def, Nat.reduceLeDiff, Nat.reducePow, Int.reducePow, Int.reduceToNat, Int.tdiv_eq_ediv_of_nonneg, Int.tmod_eq_emod_of_nonneg, Int.fdiv_eq_ediv_of_nonneg, Nat.mul_one, Nat.reduceAdd, Nat.zero_add, Nat.add_zero, implies_true, false_implies, true_implies]
  refine (sameInts_any x.keys _ _ _ (sL.ext (by decide) hx4) (tL.ext (by decide) hx4) (by omega)).mono ?_
  intro v5 h5 hp5
  have e5 := hp5.1
  subst e5
  have hv5 := hp5.2
  simp (disch := first | omega | assumption) only [C.law2_same_gos, vs, T.ts, and_true, true_and, List.getElem?_toArray, List.getElem?_cons_zero, List.getElem?_cons_succ, ↓reduceIte, Nat.reduceEqDiff, Option.bind_some, Option.map_some, Option.isSome_some, ne_eq, Bool.not_true, Bool.not_false, Bool.true_eq_false, Bool.false_eq_true, Bool.not_eq_true', Bool.not_eq_false', reduceCtorEq, Option.some.injEq, decide_eq_true_eq, decide_eq_false_iff_not, not_true_eq_false, not_false_eq_true, decide_true, decide_false, List.size_toArray, List.length_cons, List.length_nil, List.cons_append, List.nil_append, List.append_nil, List.map_cons, List.map_nil, Array.size_push, Int.toNat_natCast, List.toList_toArray, Nat.min_def, Nat.reduceLeDiff, Nat.reducePow, Int.reducePow, Int.reduceToNat, Int.tdiv_eq_ediv_of_nonneg, Int.tmod_eq_emod_of_nonneg, Int.fdiv_eq_ediv_of_nonneg, Nat.mul_one, Nat.reduceAdd, Nat.zero_add, Nat.add_zero, implies_true, false_implies, true_implies, hv5, fa, fb]
  refine eff_call_of ?_
  simp (disch := first | omega | assumption) only [C.law2_same_gos, vs, T.ts, and_true, true_and, List.getElem?_toArray, List.getElem?_cons_zero, List.getElem?_cons_succ, ↓reduceIte, Nat.reduceEqDiff, Option.bind_some, Option.map_some, Option.isSome_some, ne_eq, Bool.not_true, Bool.not_false, Bool.true_eq_false, Bool.false_eq_true, Bool.not_eq_true', Bool.not_eq_false', reduceCtorEq, Option.some.injEq, decide_eq_true_eq, decide_eq_false_iff_not, not_true_eq_false, not_false_eq_true, decide_true, decide_false, List.size_toArray, List.length_cons, List.length_nil, List.cons_append, List.nil_append, List.append_nil, List.map_cons, List.map_nil, Array.size_push, Int.toNat_natCast, List.toList_toArray, Nat.min_def, Nat.reduceLeDiff, Nat.reducePow, Int.reducePow, Int.reduceToNat, Int.tdiv_eq_ediv_of_nonneg, Int.tmod_eq_emod_of_nonneg, Int.fdiv_eq_ediv_of_nonneg, Nat.mul_one, Nat.reduceAdd, Nat.zero_add, Nat.add_zero, implies_true, false_implies, true_implies]
  refine (sameInts_any x.tgts _ _ _ (sS.ext (by decide) hx4) (tS.ext (by decide) hx4) (by omega)).mono ?_
  intro v6 h6 hp6
  have e6 := hp6.1
  subst e6
  have hv6 := hp6.2
  simp (disch := first | omega | assumption) only [C.law2_same_gos, vs, T.ts, and_true, true_and, List.getElem?_toArray, List.getElem?_cons_zero, List.getElem?_cons_succ, ↓reduceIte, Nat.reduceEqDiff, Option.bind_some, Option.map_some, Option.isSome_some, ne_eq, Bool.not_true, Bool.not_false, Bool.true_eq_false, Bool.false_eq_true, Bool.not_eq_true', Bool.not_eq_false', reduceCtorEq, Option.some.injEq, decide_eq_true_eq, decide_eq_false_iff_not, not_true_eq_false, not_false_eq_true, decide_true, decide_false, List.size_toArray, List.length_cons, List.length_nil, List.cons_append, List.nil_append, List.append_nil, List.map_cons, List.map_nil, Array.size_push, Int.toNat_natCast, List.toList_toArray, Nat.min_def, Nat.reduceLeDiff, Nat.reducePow, Int.reducePow, Int.reduceToNat, Int.tdiv_eq_ediv_of_nonneg, Int.tmod_eq_emod_of_nonneg, Int.fdiv_eq_ediv_of_nonneg, Nat.mul_one, Nat.reduceAdd, Nat.zero_add, Nat.add_zero, implies_true, false_implies, true_implies, hv6]
  exact ⟨_, by omega, i + 1, rfl, by omega, by simp, hx4⟩

set_option maxHeartbeats 2000000 in
theorem codeWrites_any (l : List In) (v : Value) (h : Heap) (hl : InsC h v l) (hlf : ∀ x ∈ l, x.Fit) (hll : l.length ≤ 1048576) (hLl : ∀ x ∈ l, x.keys.length ≤ 1048576 ∧ x.tgts.length ≤ 1048576) :
    HCalls Try.prog 3 #[v] h fun r h' => Ext h h' ∧ r = .bool true := by
  refine C.law2_CodeWrites_calls (args := [v]) rfl ?_
  obtain ⟨_, _, hr2, _⟩ := id hl
  obtain ⟨_, a, c, rfl, _⟩ := hr2
  simp (disch := first | omega | assumption) only [C.law2_CodeWrites_gos, vs, T.ts, and_true, true_and, List.getElem?_toArray, List.getElem?_cons_zero, List.getElem?_cons_succ, ↓reduceIte, Nat.reduceEqDiff, Option.bind_some, Option.map_some, Option.isSome_some, ne_eq, Bool.not_true, Bool.not_false, Bool.true_eq_false, Bool.false_eq_true, Bool.not_eq_true', Bool.not_eq_false', reduceCtorEq, Option.some.injEq, decide_eq_true_eq, decide_eq_false_iff_not, not_true_eq_false, not_false_eq_true, decide_true, decide_false, List.size_toArray, List.length_cons, List.length_nil, List.cons_append, List.nil_append, List.append_nil, List.map_cons, List.map_nil, Array.size_push, Int.toNat_natCast, List.toList_toArray, Nat.min_def, Nat.reduceLeDiff, Nat.reducePow, Int.reducePow, Int.reduceToNat, Int.tdiv_eq_ediv_of_nonneg, Int.tmod_eq_emod_of_nonneg, Int.fdiv_eq_ediv_of_nonneg, Nat.mul_one, Nat.reduceAdd, Nat.zero_add, Nat.add_zero, implies_true, false_implies, true_implies]
  refine eff_call_of ?_
  simp (disch := first | omega | assumption) only [C.law2_CodeWrites_gos, vs, T.ts, and_true, true_and, List.getElem?_toArray, List.getElem?_cons_zero, List.getElem?_cons_succ, ↓reduceIte, Nat.reduceEqDiff, Option.bind_some, Option.map_some, Option.isSome_some, ne_eq, Bool.not_true, Bool.not_false, Bool.true_eq_false, Bool.false_eq_true, Bool.not_eq_true', Bool.not_eq_false', reduceCtorEq, Option.some.injEq, decide_eq_true_eq, decide_eq_false_iff_not, not_true_eq_false, not_false_eq_true, decide_true, decide_false, List.size_toArray, List.length_cons, List.length_nil, List.cons_append, List.nil_append, List.append_nil, List.map_cons, List.map_nil, Array.size_push, Int.toNat_natCast, List.toList_toArray, Nat.min_def, Nat.reduceLeDiff, Nat.reducePow, Int.reducePow, Int.reduceToNat, Int.tdiv_eq_ediv_of_nonneg, Int.tmod_eq_emod_of_nonneg, Int.fdiv_eq_ediv_of_nonneg, Nat.mul_one, Nat.reduceAdd, Nat.zero_add, Nat.add_zero, implies_true, false_implies, true_implies]
  refine (weight_any l _ h hl hll hLl).mono ?_
  rintro v1 h1 ⟨x1, n, rfl, hn⟩
  by_cases hbig : (32768 : Int) < n
  · simp (disch := first | omega | assumption) only [C.law2_CodeWrites_gos, vs, T.ts, and_true, true_and, List.getElem?_toArray, List.getElem?_cons_zero, List.getElem?_cons_succ, ↓reduceIte, Nat.reduceEqDiff, Option.bind_some, Option.map_some, Option.isSome_some, ne_eq, Bool.not_true, Bool.not_false, Bool.true_eq_false, Bool.false_eq_true, Bool.not_eq_true', Bool.not_eq_false', reduceCtorEq, Option.some.injEq, decide_eq_true_eq, decide_eq_false_iff_not, not_true_eq_false, not_false_eq_true, decide_true, decide_false, List.size_toArray, List.length_cons, List.length_nil, List.cons_append, List.nil_append, List.append_nil, List.map_cons, List.map_nil, Array.size_push, Int.toNat_natCast, List.toList_toArray, Nat.min_def, Nat.reduceLeDiff, Nat.reducePow, Int.reducePow, Int.reduceToNat, Int.tdiv_eq_ediv_of_nonneg, Int.tmod_eq_emod_of_nonneg, Int.fdiv_eq_ediv_of_nonneg, Nat.mul_one, Nat.reduceAdd, Nat.zero_add, Nat.add_zero, implies_true, false_implies, true_implies, hbig]
    exact x1
  simp (disch := first | omega | assumption) only [C.law2_CodeWrites_gos, vs, T.ts, and_true, true_and, List.getElem?_toArray, List.getElem?_cons_zero, List.getElem?_cons_succ, ↓reduceIte, Nat.reduceEqDiff, Option.bind_some, Option.map_some, Option.isSome_some, ne_eq, Bool.not_true, Bool.not_false, Bool.true_eq_false, Bool.false_eq_true, Bool.not_eq_true', Bool.not_eq_false', reduceCtorEq, Option.some.injEq, decide_eq_true_eq, decide_eq_false_iff_not, not_true_eq_false, not_false_eq_true, decide_true, decide_false, List.size_toArray, List.length_cons, List.length_nil, List.cons_append, List.nil_append, List.append_nil, List.map_cons, List.map_nil, Array.size_push, Int.toNat_natCast, List.toList_toArray, Nat.min_def, Nat.reduceLeDiff, Nat.reducePow, Int.reducePow, Int.reduceToNat, Int.tdiv_eq_ediv_of_nonneg, Int.tmod_eq_emod_of_nonneg, Int.fdiv_eq_ediv_of_nonneg, Nat.mul_one, Nat.reduceAdd, Nat.zero_add, Nat.add_zero, implies_true, false_implies, true_implies, hbig]
  refine eff_call_of ?_
  simp (disch := first | omega | assumption) only [C.law2_CodeWrites_gos, vs, T.ts, and_true, true_and, List.getElem?_toArray, List.getElem?_cons_zero, List.getElem?_cons_succ, ↓reduceIte, Nat.reduceEqDiff, Option.bind_some, Option.map_some, Option.isSome_some, ne_eq, Bool.not_true, Bool.not_false, Bool.true_eq_false, Bool.false_eq_true, Bool.not_eq_true', Bool.not_eq_false', reduceCtorEq, Option.some.injEq, decide_eq_true_eq, decide_eq_false_iff_not, not_true_eq_false, not_false_eq_true, decide_true, decide_false, List.size_toArray, List.length_cons, List.length_nil, List.cons_append, List.nil_append, List.append_nil, List.map_cons, List.map_nil, Array.size_push, Int.toNat_natCast, List.toList_toArray, Nat.min_def, Nat.reduceLeDiff, Nat.reducePow, Int.reducePow, Int.reduceToNat, Int.tdiv_eq_ediv_of_nonneg, Int.tmod_eq_emod_of_nonneg, Int.fdiv_eq_ediv_of_nonneg, Nat.mul_one, Nat.reduceAdd, Nat.zero_add, Nat.add_zero, implies_true, false_implies, true_implies]
  refine (twin_any l _ h1 (hl.ext x1) hll hLl).mono ?_
  rintro v2 h2 ⟨x2, tw2⟩
  obtain ⟨_, _, hr2, _⟩ := id tw2
  obtain ⟨_, at2, ct2, rfl, _⟩ := hr2
  have y2 := x1.trans x2
  have hLl2 : ∀ x ∈ l, x.keys.length ≤ 1073741824 ∧ x.tgts.length ≤ 1073741824 := fun x hx => by have := hLl x hx; omega
  simp (disch := first | omega | assumption) only [C.law2_CodeWrites_gos, vs, T.ts, and_true, true_and, List.getElem?_toArray, List.getElem?_cons_zero, List.getElem?_cons_succ, ↓reduceIte, Nat.reduceEqDiff, Option.bind_some, Option.map_some, Option.isSome_some, ne_eq, Bool.not_true, Bool.not_false, Bool.true_eq_false, Bool.false_eq_true, Bool.not_eq_true', Bool.not_eq_false', reduceCtorEq, Option.some.injEq, decide_eq_true_eq, decide_eq_false_iff_not, not_true_eq_false, not_false_eq_true, decide_true, decide_false, List.size_toArray, List.length_cons, List.length_nil, List.cons_append, List.nil_append, List.append_nil, List.map_cons, List.map_nil, Array.size_push, Int.toNat_natCast, List.toList_toArray, Nat.min_def, Nat.reduceLeDiff, Nat.reducePow, Int.reducePow, Int.reduceToNat, Int.tdiv_eq_ediv_of_nonneg, Int.tmod_eq_emod_of_nonneg, Int.fdiv_eq_ediv_of_nonneg, Nat.mul_one, Nat.reduceAdd, Nat.zero_add, Nat.add_zero, implies_true, false_implies, true_implies]
  refine eff_call_of ?_
  simp (disch := first | omega | assumption) only [C.law2_CodeWrites_gos, vs, T.ts, and_true, true_and, List.getElem?_toArray, List.getElem?_cons_zero, List.getElem?_cons_succ, ↓reduceIte, Nat.reduceEqDiff, Option.bind_some, Option.map_some, Option.isSome_some, ne_eq, Bool.not_true, Bool.not_false, Bool.true_eq_false, Bool.false_eq_true, Bool.not_eq_true', Bool.not_eq_false', reduceCtorEq, Option.some.injEq, decide_eq_true_eq, decide_eq_false_iff_not, not_true_eq_false, not_false_eq_true, decide_true, decide_false, List.size_toArray, List.length_cons, List.length_nil, List.cons_append, List.nil_append, List.append_nil, List.map_cons, List.map_nil, Array.size_push, Int.toNat_natCast, List.toList_toArray, Nat.min_def, Nat.reduceLeDiff, Nat.reducePow, Int.reducePow, Int.reduceToNat, Int.tdiv_eq_ediv_of_nonneg, Int.tmod_eq_emod_of_nonneg, Int.fdiv_eq_ediv_of_nonneg, Nat.mul_one, Nat.reduceAdd, Nat.zero_add, Nat.add_zero, implies_true, false_implies, true_implies]
  refine (encode_any l _ h2 (hl.ext y2) hlf (by omega) hLl2).mono ?_
  rintro v3 h3 ⟨x3, rfl⟩
  have y3 := y2.trans x3
  simp (disch := first | omega | assumption) only [C.law2_CodeWrites_gos, vs, T.ts, and_true, true_and, List.getElem?_toArray, List.getElem?_cons_zero, List.getElem?_cons_succ, ↓reduceIte, Nat.reduceEqDiff, Option.bind_some, Option.map_some, Option.isSome_some, ne_eq, Bool.not_true, Bool.not_false, Bool.true_eq_false, Bool.false_eq_true, Bool.not_eq_true', Bool.not_eq_false', reduceCtorEq, Option.some.injEq, decide_eq_true_eq, decide_eq_false_iff_not, not_true_eq_false, not_false_eq_true, decide_true, decide_false, List.size_toArray, List.length_cons, List.length_nil, List.cons_append, List.nil_append, List.append_nil, List.map_cons, List.map_nil, Array.size_push, Int.toNat_natCast, List.toList_toArray, Nat.min_def, Nat.reduceLeDiff, Nat.reducePow, Int.reducePow, Int.reduceToNat, Int.tdiv_eq_ediv_of_nonneg, Int.tmod_eq_emod_of_nonneg, Int.fdiv_eq_ediv_of_nonneg, Nat.mul_one, Nat.reduceAdd, Nat.zero_add, Nat.add_zero, implies_true, false_implies, true_implies, erV]
  refine eff_call_of ?_
  simp (disch := first | omega | assumption) only [C.law2_CodeWrites_gos, vs, T.ts, and_true, true_and, List.getElem?_toArray, List.getElem?_cons_zero, List.getElem?_cons_succ, ↓reduceIte, Nat.reduceEqDiff, Option.bind_some, Option.map_some, Option.isSome_some, ne_eq, Bool.not_true, Bool.not_false, Bool.true_eq_false, Bool.false_eq_true, Bool.not_eq_true', Bool.not_eq_false', reduceCtorEq, Option.some.injEq, decide_eq_true_eq, decide_eq_false_iff_not, not_true_eq_false, not_false_eq_true, decide_true, decide_false, List.size_toArray, List.length_cons, List.length_nil, List.cons_append, List.nil_append, List.append_nil, List.map_cons, List.map_nil, Array.size_push, Int.toNat_natCast, List.toList_toArray, Nat.min_def, Nat.reduceLeDiff, Nat.reducePow, Int.reducePow, Int.reduceToNat, Int.tdiv_eq_ediv_of_nonneg, Int.tmod_eq_emod_of_nonneg, Int.fdiv_eq_ediv_of_nonneg, Nat.mul_one, Nat.reduceAdd, Nat.zero_add, Nat.add_zero, implies_true, false_implies, true_implies]
  refine (rencodeAll_any l _ h3 (tw2.ext x3) hlf (by omega) hLl2).mono ?_
  rintro v4 h4 ⟨x4, rfl⟩
  have y4 := y3.trans x4
  simp (disch := first | omega | assumption) only [C.law2_CodeWrites_gos, vs, T.ts, and_true, true_and, List.getElem?_toArray, List.getElem?_cons_zero, List.getElem?_cons_succ, ↓reduceIte, Nat.reduceEqDiff, Option.bind_some, Option.map_some, Option.isSome_some, ne_eq, Bool.not_true, Bool.not_false, Bool.true_eq_false, Bool.false_eq_true, Bool.not_eq_true', Bool.not_eq_false', reduceCtorEq, Option.some.injEq, decide_eq_true_eq, decide_eq_false_iff_not, not_true_eq_false, not_false_eq_true, decide_true, decide_false, List.size_toArray, List.length_cons, List.length_nil, List.cons_append, List.nil_append, List.append_nil, List.map_cons, List.map_nil, Array.size_push, Int.toNat_natCast, List.toList_toArray, Nat.min_def, Nat.reduceLeDiff, Nat.reducePow, Int.reducePow, Int.reduceToNat, Int.tdiv_eq_ediv_of_nonneg, Int.tmod_eq_emod_of_nonneg, Int.fdiv_eq_ediv_of_nonneg, Nat.mul_one, Nat.reduceAdd, Nat.zero_add, Nat.add_zero, implies_true, false_implies, true_implies, erV]
  refine eff_call_of ?_
  simp (disch := first | omega | assumption) only [C.law2_CodeWrites_gos, vs, T.ts, and_true, true_and, List.getElem?_toArray, List.getElem?_cons_zero, List.getElem?_cons_succ, ↓reduceIte, Nat.reduceEqDiff, Option.bind_some, Option.map_some, Option.isSome_some, ne_eq, Bool.not_true, Bool.not_false, Bool.true_eq_false, Bool.false_eq_true, Bool.not_eq_true', Bool.not_eq_false', reduceCtorEq, Option.some.injEq, decide_eq_true_eq, decide_eq_false_iff_not, not_true_eq_false, not_false_eq_true, decide_true, decide_false, List.size_toArray, List.length_cons, List.length_nil, List.cons_append, List.nil_append, List.append_nil, List.map_cons, List.map_nil, Array.size_push, Int.toNat_natCast, List.toList_toArray, Nat.min_def, Nat.reduceLeDiff, Nat.reducePow, Int.reducePow, Int.reduceToNat, Int.tdiv_eq_ediv_of_nonneg, Int.tmod_eq_emod_of_nonneg, Int.fdiv_eq_ediv_of_nonneg, Nat.mul_one, Nat.reduceAdd, Nat.zero_add, Nat.add_zero, implies_true, false_implies, true_implies]
  refine (same_any l _ _ h4 (hl.ext y4) (tw2.ext (x3.trans x4)) hll hLl).mono ?_
  rintro v5 h5 ⟨x5, rfl⟩
  simp (disch := first | omega | assumption) only [C.law2_CodeWrites_gos, vs, T.ts, and_true, true_and, List.getElem?_toArray, List.getElem?_cons_zero, List.getElem?_cons_succ, ↓reduceIte, Nat.reduceEqDiff, Option.bind_some, Option.map_some, Option.isSome_some, ne_eq, Bool.not_true, Bool.not_false, Bool.true_eq_false, Bool.false_eq_true, Bool.not_eq_true', Bool.not_eq_false', reduceCtorEq, Option.some.injEq, decide_eq_true_eq, decide_eq_false_iff_not, not_true_eq_false, not_false_eq_true, decide_true, decide_false, List.size_toArray, List.length_cons, List.length_nil, List.cons_append, List.nil_append, List.append_nil, List.map_cons, List.map_nil, Array.size_push, Int.toNat_natCast, List.toList_toArray, Nat.min_def, Nat.reduceLeDiff, Nat.reducePow, Int.reducePow, Int.reduceToNat, Int.tdiv_eq_ediv_of_nonneg, Int.tmod_eq_emod_of_nonneg, Int.fdiv_eq_ediv_of_nonneg, Nat.mul_one, Nat.reduceAdd, Nat.zero_add, Nat.add_zero, implies_true, false_implies, true_implies]
  exact y4.trans x5
end Go.Proofs.Ytjpcpkhegjndeaa
