/- The law MapWrites on heaps. -/
import Derived.Test.YthhfbnkmhgadaaaM8
namespace Go.Proofs.Ythhfbnkmhgadaaa
open Go.Vc
set_option maxRecDepth 100000
set_option linter.unusedSimpArgs false
set_option linter.unusedVariables false

theorem cst_eqa (c : Cst) : eqaC Try.prog 54 c.cells = true := by
  unfold eqaC
  rw [Try.underlying54]
  kernel_rfl
theorem flatS_one (l : List Cst) : ∀ u ∈ flatS l, oneCell u = true := by
  intro u hu
  obtain ⟨c, _, hc⟩ := List.mem_flatMap.1 hu
  simp only [Cst.cells, List.mem_cons, List.not_mem_nil, or_false] at hc
  rcases hc with rfl | rfl | rfl | rfl | rfl <;> rfl

set_option maxHeartbeats 1000000 in
theorem samePool_any (cs : List Cst) (v u : Value) (h : Heap) (hs : SlN h 5 v cs.length (flatS cs)) (ht : SlN h 5 u cs.length (flatS cs)) (hlen : cs.length ≤ 9223372036854775807) :
    HCalls Try.prog 12 #[v, u] h fun r h' => h' = h ∧ r = .bool true := by
  refine C.law3_samePool_calls (args := [v, u]) rfl ?_
  have hs' := hs
  have ht' := ht
  obtain ⟨_, a, c, rfl, _⟩ := hs'
  obtain ⟨_, a2, c2, rfl, _⟩ := ht'
  simp (disch := first | omega | assumption) only [C.law3_samePool_gos, vs, T.ts, and_true, true_and, List.getElem?_toArray, List.getElem?_cons_zero, List.getElem?_cons_succ, ↓reduceIte, Nat.reduceEqDiff, Option.bind_some, Option.map_some, Option.isSome_some, ne_eq, Bool.not_true, Bool.not_false, Bool.true_eq_false, Bool.false_eq_true, Bool.not_eq_true', Bool.not_eq_false', reduceCtorEq, Option.some.injEq, decide_eq_true_eq, decide_eq_false_iff_not, not_true_eq_false, not_false_eq_true, decide_true, decide_false, List.size_toArray, List.length_cons, List.length_nil, List.cons_append, List.nil_append, List.append_nil, List.map_cons, List.map_nil, Array.size_push, Int.toNat_natCast, List.toList_toArray, Nat.min_def, Nat.reduceLeDiff, Nat.reducePow, Int.reducePow, Int.reduceToNat, Int.tdiv_eq_ediv_of_nonneg, Int.tmod_eq_emod_of_nonneg, Int.fdiv_eq_ediv_of_nonneg, Nat.mul_one, Nat.reduceAdd, Nat.zero_add, Nat.add_zero, implies_true, false_implies, true_implies]
  refine loop_intro [0, 1, 12, 13] (fun m ρ hc => ∃ i : Nat, m = cs.length - i ∧ i ≤ cs.length ∧ ρ = [(0, .slice a cs.length c), (1, .slice a2 cs.length c2), (12, .int .i64 cs.length), (13, .int .i64 i)] ∧ hc = h) ?_ ?_
  · simp (disch := first | omega | assumption) only [C.law3_samePool_gos, vs, T.ts, and_true, true_and, List.getElem?_toArray, List.getElem?_cons_zero, List.getElem?_cons_succ, ↓reduceIte, Nat.reduceEqDiff, Option.bind_some, Option.map_some, Option.isSome_some, ne_eq, Bool.not_true, Bool.not_false, Bool.true_eq_false, Bool.false_eq_true, Bool.not_eq_true', Bool.not_eq_false', reduceCtorEq, Option.some.injEq, decide_eq_true_eq, decide_eq_false_iff_not, not_true_eq_false, not_false_eq_true, decide_true, decide_false, List.size_toArray, List.length_cons, List.length_nil, List.cons_append, List.nil_append, List.append_nil, List.map_cons, List.map_nil, Array.size_push, Int.toNat_natCast, List.toList_toArray, Nat.min_def, Nat.reduceLeDiff, Nat.reducePow, Int.reducePow, Int.reduceToNat, Int.tdiv_eq_ediv_of_nonneg, Int.tmod_eq_emod_of_nonneg, Int.fdiv_eq_ediv_of_nonneg, Nat.mul_one, Nat.reduceAdd, Nat.zero_add, Nat.add_zero, implies_true, false_implies, true_implies]
    exact ⟨_, 0, rfl, Nat.zero_le _, rfl⟩
  · rintro m ρ hc ⟨i, rfl, hi, rfl, rfl⟩
    rcases Nat.lt_or_ge i cs.length with hlt | hge
    · have hlt' : (i : Int) < cs.length := by omega
      obtain ⟨b, o, c', heq, hrd, _⟩ := hs.at hlt
      obtain ⟨b2, o2, c2', heq2, hrd2, _⟩ := ht.at hlt
      cases heq
      cases heq2
      rw [flatS_at hlt] at hrd hrd2
      generalize cs.getD i Cst.zero = k at *
      have hld := ld_agg T.ag_54 hrd rfl
      have hld2 := ld_agg T.ag_54 hrd2 rfl
      have hq := fun x y => bin_agg_neq (x := x) (y := y) (h := hc) (cst_eqa k)
      simp (disch := first | omega | assumption) only [C.law3_samePool_gos, vs, T.ts, and_true, true_and, List.getElem?_toArray, List.getElem?_cons_zero, List.getElem?_cons_succ, ↓reduceIte, Nat.reduceEqDiff, Option.bind_some, Option.map_some, Option.isSome_some, ne_eq, Bool.not_true, Bool.not_false, Bool.true_eq_false, Bool.false_eq_true, Bool.not_eq_true', Bool.not_eq_false', reduceCtorEq, Option.some.injEq, decide_eq_true_eq, decide_eq_false_iff_not, not_true_eq_false, not_false_eq_true, decide_true, decide_false, List.size_toArray, List.length_cons, List.length_nil, List.cons_append, List.nil_append, List.append_nil, List.map_cons, List.map_nil, Array.size_push, Int.toNat_natCast, List.toList_toArray, Nat.min_def, Nat.reduceLeDiff, Nat.reducePow, Int.reducePow, Int.reduceToNat, Int.tdiv_eq_ediv_of_nonneg, Int.tmod_eq_emod_of_nonneg, Int.fdiv_eq_ediv_of_nonneg, Nat.mul_one, Nat.reduceAdd, Nat.zero_add, Nat.add_zero, implies_true, false_implies, true_implies, hlt', hld, hld2, hq]
      exact ⟨cs.length - (i + 1), by omega, i + 1, rfl, by omega, by simp⟩
    · have hlt' : ¬ (i : Int) < cs.length := by omega
      simp (disch := first | omega | assumption) only [C.law3_samePool_gos, vs, T.ts, and_true, true_and, List.getElem?_toArray, List.getElem?_cons_zero, List.getElem?_cons_succ, ↓reduceIte, Nat.reduceEqDiff, Option.bind_some, Option.map_some, Option.isSome_some, ne_eq, Bool.not_true, Bool.not_false, Bool.true_eq_false, Bool.false_eq_true, Bool.not_eq_true', Bool.not_eq_false', reduceCtorEq, Option.some.injEq, decide_eq_true_eq, decide_eq_false_iff_not, not_true_eq_false, not_false_eq_true, decide_true, decide_false, List.size_toArray, List.length_cons, List.length_nil, List.cons_append, List.nil_append, List.append_nil, List.map_cons, List.map_nil, Array.size_push, Int.toNat_natCast, List.toList_toArray, Nat.min_def, Nat.reduceLeDiff, Nat.reducePow, Int.reducePow, Int.reduceToNat, Int.tdiv_eq_ediv_of_nonneg, Int.tmod_eq_emod_of_nonneg, Int.fdiv_eq_ediv_of_nonneg, Nat.mul_one, Nat.reduceAdd, Nat.zero_add, Nat.add_zero, implies_true, false_implies, true_implies, hlt']


theorem flatV_one (l : List VT) : ∀ u ∈ flatV l, oneCell u = true := by
  intro u hu
  obtain ⟨c, _, hc⟩ := List.mem_flatMap.1 hu
  simp only [VT.cells, List.mem_cons, List.not_mem_nil, or_false] at hc
  rcases hc with rfl | rfl | rfl <;> rfl
theorem Own_two {h : Heap} {b1 b2 : Nat} {e1 e2 : TypeId} {s1 s2 n1 n2 : Nat} {v u : Value} {xs ys : List Value} (H : Own h b1 e1 s1 v n1 xs) (K : Own h b2 e2 s2 u n2 ys) (hne : e1 ≠ e2) : ∀ k, v.ownBlock = some k → ¬ u.ownBlock = some k := by
  intro k hk
  rcases H.2 with ⟨rfl, _⟩ | ⟨g, cap, cur, fz, rfl, _, hg, _⟩
  · simp [Value.ownBlock] at hk
  · simp [Value.ownBlock] at hk
    subst hk
    exact Own_ne K hg (Ne.symm hne)

set_option maxHeartbeats 1000000 in
theorem weight_any (l : List Frm) (v : Value) (h : Heap) (hl : FrsC h v l) (hll : l.length ≤ 1048576) (hLl : ∀ f ∈ l, f.L.length ≤ 1048576 ∧ f.S.length ≤ 1048576) :
    HCalls Try.prog 6 #[v] h fun r h' => Ext h h' ∧ ∃ n : Nat, r = .int .i64 n ∧ n ≤ 1048576 + 1048576 * 2097152 := by
  refine C.law3_weight_calls (args := [v]) rfl ?_
  obtain ⟨rows, hr1, hr2, hr3⟩ := id hl
  have hr2' := hr2
  obtain ⟨_, a, c, rfl, _⟩ := hr2'
  simp (disch := first | omega | assumption) only [C.law3_weight_gos, vs, T.ts, and_true, true_and, List.getElem?_toArray, List.getElem?_cons_zero, List.getElem?_cons_succ, ↓reduceIte, Nat.reduceEqDiff, Option.bind_some, Option.map_some, Option.isSome_some, ne_eq, Bool.not_true, Bool.not_false, Bool.true_eq_false, Bool.false_eq_true, Bool.not_eq_true', Bool.not_eq_false', reduceCtorEq, Option.some.injEq, decide_eq_true_eq, decide_eq_false_iff_not, not_true_eq_false, not_false_eq_true, decide_true, decide_false, List.size_toArray, List.length_cons, List.length_nil, List.cons_append, List.nil_append, List.append_nil, List.map_cons, List.map_nil, Array.size_push, Int.toNat_natCast, List.toList_toArray, Nat.min_def, Nat.reduceLeDiff, Nat.reducePow, Int.reducePow, Int.reduceToNat, Int.tdiv_eq_ediv_of_nonneg, Int.tmod_eq_emod_of_nonneg, Int.fdiv_eq_ediv_of_nonneg, Nat.mul_one, Nat.reduceAdd, Nat.zero_add, Nat.add_zero, implies_true, false_implies, true_implies]
  refine loop_intro [3, 8, 9, 10] (fun m ρ hc => ∃ (i n : Nat), m = l.length - i ∧ i ≤ l.length ∧ n ≤ l.length + i * 2097152 ∧ ρ = [(3, .int .i64 n), (8, .slice a l.length c), (9, .int .i64 l.length), (10, .int .i64 i)] ∧ Ext h hc) ?_ ?_
  · simp (disch := first | omega | assumption) only [C.law3_weight_gos, vs, T.ts, and_true, true_and, List.getElem?_toArray, List.getElem?_cons_zero, List.getElem?_cons_succ, ↓reduceIte, Nat.reduceEqDiff, Option.bind_some, Option.map_some, Option.isSome_some, ne_eq, Bool.not_true, Bool.not_false, Bool.true_eq_false, Bool.false_eq_true, Bool.not_eq_true', Bool.not_eq_false', reduceCtorEq, Option.some.injEq, decide_eq_true_eq, decide_eq_false_iff_not, not_true_eq_false, not_false_eq_true, decide_true, decide_false, List.size_toArray, List.length_cons, List.length_nil, List.cons_append, List.nil_append, List.append_nil, List.map_cons, List.map_nil, Array.size_push, Int.toNat_natCast, List.toList_toArray, Nat.min_def, Nat.reduceLeDiff, Nat.reducePow, Int.reducePow, Int.reduceToNat, Int.tdiv_eq_ediv_of_nonneg, Int.tmod_eq_emod_of_nonneg, Int.fdiv_eq_ediv_of_nonneg, Nat.mul_one, Nat.reduceAdd, Nat.zero_add, Nat.add_zero, implies_true, false_implies, true_implies]
    exact ⟨_, 0, l.length, rfl, Nat.zero_le _, by omega, rfl, Ext.refl _⟩
  rintro m ρ hc ⟨i, n, rfl, hi, hn, rfl, hx⟩
  rcases Nat.lt_or_ge i l.length with hlt | hge
  · have hlt' : (i : Int) < l.length := by omega
    obtain ⟨b, o, c', vL, vS, heq, hrd0, sL, cL, sS, cS⟩ := hl.at hlt
    cases heq
    have hll2 := hLl (l.getD i ⟨0, [], []⟩) (by simp [hlt])
    generalize l.getD i ⟨0, [], []⟩ = f at *
    have hrd := hx.rd hrd0 (hrd0.lt (by simp)) id
    have hld := ld_agg T.ag_41 hrd rfl
    obtain ⟨_, aL, kL, rfl, _⟩ := sL
    obtain ⟨_, aS, kS, rfl, _⟩ := sS
    simp (disch := first | omega | assumption) only [C.law3_weight_gos, vs, T.ts, and_true, true_and, List.getElem?_toArray, List.getElem?_cons_zero, List.getElem?_cons_succ, ↓reduceIte, Nat.reduceEqDiff, Option.bind_some, Option.map_some, Option.isSome_some, ne_eq, Bool.not_true, Bool.not_false, Bool.true_eq_false, Bool.false_eq_true, Bool.not_eq_true', Bool.not_eq_false', reduceCtorEq, Option.some.injEq, decide_eq_true_eq, decide_eq_false_iff_not, not_true_eq_false, not_false_eq_true, decide_true, decide_false, List.size_toArray, List.length_cons, List.length_nil, List.cons_append, List.nil_append, List.append_nil, List.map_cons, List.map_nil, Array.size_push, Int.toNat_natCast, List.toList_toArray, Nat.min_def, Nat.reduceLeDiff, Nat.reducePow, Int.reducePow, Int.reduceToNat, Int.tdiv_eq_ediv_of_nonneg, Int.tmod_eq_emod_of_nonneg, Int.fdiv_eq_ediv_of_nonneg, Nat.mul_one, Nat.reduceAdd, Nat.zero_add, Nat.add_zero, implies_true, false_implies, true_implies, hlt', hld]
    refine eff_alloc_z T.zr_41 ?_
    simp (disch := first | omega | assumption) only [C.law3_weight_gos, vs, T.ts, and_true, true_and, List.getElem?_toArray, List.getElem?_cons_zero, List.getElem?_cons_succ, ↓reduceIte, Nat.reduceEqDiff, Option.bind_some, Option.map_some, Option.isSome_some, ne_eq, Bool.not_true, Bool.not_false, Bool.true_eq_false, Bool.false_eq_true, Bool.not_eq_true', Bool.not_eq_false', reduceCtorEq, Option.some.injEq, decide_eq_true_eq, decide_eq_false_iff_not, not_true_eq_false, not_false_eq_true, decide_true, decide_false, List.size_toArray, List.length_cons, List.length_nil, List.cons_append, List.nil_append, List.append_nil, List.map_cons, List.map_nil, Array.size_push, Int.toNat_natCast, List.toList_toArray, Nat.min_def, Nat.reduceLeDiff, Nat.reducePow, Int.reducePow, Int.reduceToNat, Int.tdiv_eq_ediv_of_nonneg, Int.tmod_eq_emod_of_nonneg, Int.fdiv_eq_ediv_of_nonneg, Nat.mul_one, Nat.reduceAdd, Nat.zero_add, Nat.add_zero, implies_true, false_implies, true_implies]
    refine eff_store_new_z T.zr_41 rfl rfl rfl (by simp [Value.cells, oneCell]) rfl ?_
    intro h3 x3 hlt3 hrd3 b3
    have c1 : cellAt h3 ⟨hc.size, 1, none⟩ = some (.slice aL f.L.length kL) := hrd3 1 _ rfl
    have c2 : cellAt h3 ⟨hc.size, 2, none⟩ = some (.slice aS f.S.length kS) := hrd3 2 _ rfl
    simp (disch := first | omega | assumption) only [C.law3_weight_gos, vs, T.ts, and_true, true_and, List.getElem?_toArray, List.getElem?_cons_zero, List.getElem?_cons_succ, ↓reduceIte, Nat.reduceEqDiff, Option.bind_some, Option.map_some, Option.isSome_some, ne_eq, Bool.not_true, Bool.not_false, Bool.true_eq_false, Bool.false_eq_true, Bool.not_eq_true', Bool.not_eq_false', reduceCtorEq, Option.some.injEq, decide_eq_true_eq, decide_eq_false_iff_not, not_true_eq_false, not_false_eq_true, decide_true, decide_false, List.size_toArray, List.length_cons, List.length_nil, List.cons_append, List.nil_append, List.append_nil, List.map_cons, List.map_nil, Array.size_push, Int.toNat_natCast, List.toList_toArray, Nat.min_def, Nat.reduceLeDiff, Nat.reducePow, Int.reducePow, Int.reduceToNat, Int.tdiv_eq_ediv_of_nonneg, Int.tmod_eq_emod_of_nonneg, Int.fdiv_eq_ediv_of_nonneg, Nat.mul_one, Nat.reduceAdd, Nat.zero_add, Nat.add_zero, implies_true, false_implies, true_implies, c1, c2]
    exact ⟨_, by omega, i + 1, n + (f.L.length + f.S.length), rfl, by omega, by omega, by simp, hx.trans x3⟩
  · have hlt' : ¬ (i : Int) < l.length := by omega
    simp (disch := first | omega | assumption) only [C.law3_weight_gos, vs, T.ts, and_true, true_and, List.getElem?_toArray, List.getElem?_cons_zero, List.getElem?_cons_succ, ↓reduceIte, Nat.reduceEqDiff, Option.bind_some, Option.map_some, Option.isSome_some, ne_eq, Bool.not_true, Bool.not_false, Bool.true_eq_false, Bool.false_eq_true, Bool.not_eq_true', Bool.not_eq_false', reduceCtorEq, Option.some.injEq, decide_eq_true_eq, decide_eq_false_iff_not, not_true_eq_false, not_false_eq_true, decide_true, decide_false, List.size_toArray, List.length_cons, List.length_nil, List.cons_append, List.nil_append, List.append_nil, List.map_cons, List.map_nil, Array.size_push, Int.toNat_natCast, List.toList_toArray, Nat.min_def, Nat.reduceLeDiff, Nat.reducePow, Int.reducePow, Int.reduceToNat, Int.tdiv_eq_ediv_of_nonneg, Int.tmod_eq_emod_of_nonneg, Int.fdiv_eq_ediv_of_nonneg, Nat.mul_one, Nat.reduceAdd, Nat.zero_add, Nat.add_zero, implies_true, false_implies, true_implies, hlt']
    exact ⟨hx, n, rfl, by omega⟩

def FrO (h : Heap) (base : Nat) (f : Frm) (r : List Value) : Prop := ∃ vL vS, r = [.int .i64 f.at', vL, vS] ∧ Own h base 35 3 vL f.L.length (flatV f.L) ∧ Own h base 35 3 vS f.S.length (flatV f.S)
theorem FrO.frc {h : Heap} {base : Nat} {f : Frm} {r : List Value} (H : FrO h base f r) : FrC h f r := by
  obtain ⟨vL, vS, h1, h2, h3⟩ := H
  exact ⟨vL, vS, h1, h2.slN, h2.capOk, h3.slN, h3.capOk⟩

set_option maxHeartbeats 4000000 in
theorem twin_any (l : List Frm) (v : Value) (h : Heap) (hl : FrsC h v l) (hll : l.length ≤ 1048576) (hLl : ∀ f ∈ l, f.L.length ≤ 1048576 ∧ f.S.length ≤ 1048576) :
    HCalls Try.prog 7 #[v] h fun r h' => Ext h h' ∧ FrsC h' r l := by
  refine C.law3_twin_calls (args := [v]) rfl ?_
  obtain ⟨rows0, hr1, hr2, hr3⟩ := id hl
  have hr2' := hr2
  obtain ⟨_, a, c, rfl, _⟩ := hr2'
  simp (disch := first | omega | assumption) only [C.law3_twin_gos, vs, T.ts, and_true, true_and, List.getElem?_toArray, List.getElem?_cons_zero, List.getElem?_cons_succ, ↓reduceIte, Nat.reduceEqDiff, Option.bind_some, Option.map_some, Option.isSome_some, ne_eq, Bool.not_true, Bool.not_false, Bool.true_eq_false, Bool.false_eq_true, Bool.not_eq_true', Bool.not_eq_false', reduceCtorEq, Option.some.injEq, decide_eq_true_eq, decide_eq_false_iff_not, not_true_eq_false, not_false_eq_true, decide_true, decide_false, List.size_toArray, List.length_cons, List.length_nil, List.cons_append, List.nil_append, List.append_nil, List.map_cons, List.map_nil, Array.size_push, Int.toNat_natCast, List.toList_toArray, Nat.min_def, Nat.reduceLeDiff, Nat.reducePow, Int.reducePow, Int.reduceToNat, Int.tdiv_eq_ediv_of_nonneg, Int.tmod_eq_emod_of_nonneg, Int.fdiv_eq_ediv_of_nonneg, Nat.mul_one, Nat.reduceAdd, Nat.zero_add, Nat.add_zero, implies_true, false_implies, true_implies]
  refine loop_intro [3, 6, 7, 8] (fun m ρ hc => ∃ (i : Nat) (sv : Value) (rows : List (List Value)), m = l.length - i ∧ i ≤ l.length ∧ rows.length = i ∧ ρ = [(3, sv), (6, .slice a l.length c), (7, .int .i64 l.length), (8, .int .i64 i)] ∧ Ext h hc ∧
      Own hc h.size 41 3 sv i rows.flatten ∧ ∀ j, j < i → FrO hc h.size (l.getD j ⟨0, [], []⟩) (rows.getD j [])) ?_ ?_
  · simp (disch := first | omega | assumption) only [C.law3_twin_gos, vs, T.ts, and_true, true_and, List.getElem?_toArray, List.getElem?_cons_zero, List.getElem?_cons_succ, ↓reduceIte, Nat.reduceEqDiff, Option.bind_some, Option.map_some, Option.isSome_some, ne_eq, Bool.not_true, Bool.not_false, Bool.true_eq_false, Bool.false_eq_true, Bool.not_eq_true', Bool.not_eq_false', reduceCtorEq, Option.some.injEq, decide_eq_true_eq, decide_eq_false_iff_not, not_true_eq_false, not_false_eq_true, decide_true, decide_false, List.size_toArray, List.length_cons, List.length_nil, List.cons_append, List.nil_append, List.append_nil, List.map_cons, List.map_nil, Array.size_push, Int.toNat_natCast, List.toList_toArray, Nat.min_def, Nat.reduceLeDiff, Nat.reducePow, Int.reducePow, Int.reduceToNat, Int.tdiv_eq_ediv_of_nonneg, Int.tmod_eq_emod_of_nonneg, Int.fdiv_eq_ediv_of_nonneg, Nat.mul_one, Nat.reduceAdd, Nat.zero_add, Nat.add_zero, implies_true, false_implies, true_implies]
    exact ⟨_, 0, _, [], rfl, Nat.zero_le _, rfl, rfl, Ext.refl _, Own.nil, fun j hj => by omega⟩
  rintro m ρ hc ⟨i, sv, rows, rfl, hi, hrl, rfl, hx, hown, hrows⟩
  rcases Nat.lt_or_ge i l.length with hlt | hge
  case inr =>
    have hlt' : ¬ (i : Int) < l.length := by omega
    have hin : i = l.length := by omega
    subst hin
    simp (disch := first | omega | assumption) only [C.law3_twin_gos, vs, T.ts, and_true, true_and, List.getElem?_toArray, List.getElem?_cons_zero, List.getElem?_cons_succ, ↓reduceIte, Nat.reduceEqDiff, Option.bind_some, Option.map_some, Option.isSome_some, ne_eq, Bool.not_true, Bool.not_false, Bool.true_eq_false, Bool.false_eq_true, Bool.not_eq_true', Bool.not_eq_false', reduceCtorEq, Option.some.injEq, decide_eq_true_eq, decide_eq_false_iff_not, not_true_eq_false, not_false_eq_true, decide_true, decide_false, List.size_toArray, List.length_cons, List.length_nil, List.cons_append, List.nil_append, List.append_nil, List.map_cons, List.map_nil, Array.size_push, Int.toNat_natCast, List.toList_toArray, Nat.min_def, Nat.reduceLeDiff, Nat.reducePow, Int.reducePow, Int.reduceToNat, Int.tdiv_eq_ediv_of_nonneg, Int.tmod_eq_emod_of_nonneg, Int.fdiv_eq_ediv_of_nonneg, Nat.mul_one, Nat.reduceAdd, Nat.zero_add, Nat.add_zero, implies_true, false_implies, true_implies, hlt']
    exact ⟨hx, rows, hrl, hown.slN, fun j hj => (hrows j hj).frc⟩
  have hlt' : (i : Int) < l.length := by omega
  obtain ⟨b, o, c', vL, vS, heq, hrd0, sL, cL, sS, cS⟩ := hl.at hlt
  cases heq
  have hll2 := hLl (l.getD i ⟨0, [], []⟩) (by simp [hlt])
  have hfin : ∀ r : List Value, ∀ h' : Heap, (∀ j, j < i → FrO h' h.size (l.getD j ⟨0, [], []⟩) (rows.getD j [])) → FrO h' h.size (l.getD i ⟨0, [], []⟩) r → ∀ j, j < i + 1 → FrO h' h.size (l.getD j ⟨0, [], []⟩) ((rows ++ [r]).getD j []) := by
    intro r h' h1 h2 j hj
    rcases Nat.lt_or_ge j i with hji | hji
    · have : (rows ++ [r]).getD j [] = rows.getD j [] := by simp [List.getElem?_append_left (by omega : j < rows.length)]
      rw [this]; exact h1 j hji
    · have hje : j = i := by omega
      subst hje
      have : (rows ++ [r]).getD j [] = r := by simp [← hrl]
      rw [this]; exact h2
  generalize hf : l.getD i ⟨0, [], []⟩ = f at *
  obtain ⟨fat, L, S⟩ := f
  simp only at hrd0 sL sS hll2
  have hrd := hx.rd hrd0 (hrd0.lt (by simp)) id
  have hld := ld_agg T.ag_41 hrd rfl
  have sL' := sL
  have sS' := sS
  obtain ⟨_, aL, kL, rfl, _⟩ := sL'
  obtain ⟨_, aS, kS, rfl, _⟩ := sS'
  simp (disch := first | omega | assumption) only [C.law3_twin_gos, vs, T.ts, and_true, true_and, List.getElem?_toArray, List.getElem?_cons_zero, List.getElem?_cons_succ, ↓reduceIte, Nat.reduceEqDiff, Option.bind_some, Option.map_some, Option.isSome_some, ne_eq, Bool.not_true, Bool.not_false, Bool.true_eq_false, Bool.false_eq_true, Bool.not_eq_true', Bool.not_eq_false', reduceCtorEq, Option.some.injEq, decide_eq_true_eq, decide_eq_false_iff_not, not_true_eq_false, not_false_eq_true, decide_true, decide_false, List.size_toArray, List.length_cons, List.length_nil, List.cons_append, List.nil_append, List.append_nil, List.map_cons, List.map_nil, Array.size_push, Int.toNat_natCast, List.toList_toArray, Nat.min_def, Nat.reduceLeDiff, Nat.reducePow, Int.reducePow, Int.reduceToNat, Int.tdiv_eq_ediv_of_nonneg, Int.tmod_eq_emod_of_nonneg, Int.fdiv_eq_ediv_of_nonneg, Nat.mul_one, Nat.reduceAdd, Nat.zero_add, Nat.add_zero, implies_true, false_implies, true_implies, hlt', hld]
  refine eff_alloc_z T.zr_41 ?_
  simp (disch := first | omega | assumption) only [C.law3_twin_gos, vs, T.ts, and_true, true_and, List.getElem?_toArray, List.getElem?_cons_zero, List.getElem?_cons_succ, ↓reduceIte, Nat.reduceEqDiff, Option.bind_some, Option.map_some, Option.isSome_some, ne_eq, Bool.not_true, Bool.not_false, Bool.true_eq_false, Bool.false_eq_true, Bool.not_eq_true', Bool.not_eq_false', reduceCtorEq, Option.some.injEq, decide_eq_true_eq, decide_eq_false_iff_not, not_true_eq_false, not_false_eq_true, decide_true, decide_false, List.size_toArray, List.length_cons, List.length_nil, List.cons_append, List.nil_append, List.append_nil, List.map_cons, List.map_nil, Array.size_push, Int.toNat_natCast, List.toList_toArray, Nat.min_def, Nat.reduceLeDiff, Nat.reducePow, Int.reducePow, Int.reduceToNat, Int.tdiv_eq_ediv_of_nonneg, Int.tmod_eq_emod_of_nonneg, Int.fdiv_eq_ediv_of_nonneg, Nat.mul_one, Nat.reduceAdd, Nat.zero_add, Nat.add_zero, implies_true, false_implies, true_implies]
  refine eff_store_new_z T.zr_41 rfl rfl rfl (by simp [Value.cells, oneCell]) rfl ?_
  intro h3 x3 hlt3 hrd3 b3
  change h3[hc.size]? = some (.cells #[.int .i64 fat, .slice aL L.length kL, .slice aS S.length kS] 41 (0, 0)) at b3
  have c1 : cellAt h3 ⟨hc.size, 1, none⟩ = some (.slice aL L.length kL) := hrd3 1 _ rfl
  have hx3 := hx.trans x3
  have own3 := hown.ext x3
  have hqb : h.size ≤ hc.size := hx.size
  have hqo : ¬ sv.ownBlock = some hc.size := fun hk => by have := (hown.lt _ hk).2; omega
  have rows3 : ∀ j, j < i → FrO h3 h.size (l.getD j ⟨0, [], []⟩) (rows.getD j []) := fun j hj => by
    obtain ⟨wL, wS, e1, e2, e3⟩ := hrows j hj
    exact ⟨wL, wS, e1, e2.ext x3, e3.ext x3⟩
  clear hld hrd hrd3 hown hrows x3
  generalize hc.size = q at *
  simp (disch := first | omega | assumption) only [C.law3_twin_gos, vs, T.ts, and_true, true_and, List.getElem?_toArray, List.getElem?_cons_zero, List.getElem?_cons_succ, ↓reduceIte, Nat.reduceEqDiff, Option.bind_some, Option.map_some, Option.isSome_some, ne_eq, Bool.not_true, Bool.not_false, Bool.true_eq_false, Bool.false_eq_true, Bool.not_eq_true', Bool.not_eq_false', reduceCtorEq, Option.some.injEq, decide_eq_true_eq, decide_eq_false_iff_not, not_true_eq_false, not_false_eq_true, decide_true, decide_false, List.size_toArray, List.length_cons, List.length_nil, List.cons_append, List.nil_append, List.append_nil, List.map_cons, List.map_nil, Array.size_push, Int.toNat_natCast, List.toList_toArray, Nat.min_def, Nat.reduceLeDiff, Nat.reducePow, Int.reducePow, Int.reduceToNat, Int.tdiv_eq_ediv_of_nonneg, Int.tmod_eq_emod_of_nonneg, Int.fdiv_eq_ediv_of_nonneg, Nat.mul_one, Nat.reduceAdd, Nat.zero_add, Nat.add_zero, implies_true, false_implies, true_implies, c1]
  refine eff_append_slN (base := h.size) T.slT_24 rfl rfl Own.nil (sL.ext (by decide) hx3) (flatV_one L) (by omega) (by omega) hx3.size ?_
  intro v4 h4 own4 fr4
  have x4 : Ext h3 h4 := ⟨fr4.size, fun k hk _ => fr4.same k hk (by simp [Value.ownBlock])⟩
  simp only [Nat.zero_add, List.nil_append] at own4
  have b4 := Fr_blk x4 b3 id
  have hx4 := hx3.trans x4
  have d1 : cellAt h4 ⟨q, 1, none⟩ = some (.slice aL L.length kL) := by rw [cellAt_of b4]; rfl
  obtain ⟨a4, k4, rfl, _⟩ := own4.slN.2
  try simp only [Nat.zero_add]
  simp (disch := first | omega | assumption) only [C.law3_twin_gos, vs, T.ts, and_true, true_and, List.getElem?_toArray, List.getElem?_cons_zero, List.getElem?_cons_succ, ↓reduceIte, Nat.reduceEqDiff, Option.bind_some, Option.map_some, Option.isSome_some, ne_eq, Bool.not_true, Bool.not_false, Bool.true_eq_false, Bool.false_eq_true, Bool.not_eq_true', Bool.not_eq_false', reduceCtorEq, Option.some.injEq, decide_eq_true_eq, decide_eq_false_iff_not, not_true_eq_false, not_false_eq_true, decide_true, decide_false, List.size_toArray, List.length_cons, List.length_nil, List.cons_append, List.nil_append, List.append_nil, List.map_cons, List.map_nil, Array.size_push, Int.toNat_natCast, List.toList_toArray, Nat.min_def, Nat.reduceLeDiff, Nat.reducePow, Int.reducePow, Int.reduceToNat, Int.tdiv_eq_ediv_of_nonneg, Int.tmod_eq_emod_of_nonneg, Int.fdiv_eq_ediv_of_nonneg, Nat.mul_one, Nat.reduceAdd, Nat.zero_add, Nat.add_zero, implies_true, false_implies, true_implies]
  refine eff_store1_z T.zr_24 rfl rfl rfl rfl rfl d1 (by simp [frozenAt, b4]) ?_
  have b5 := setAt_get (o := 1) b4 (.slice a4 L.length k4)
  change (setAt h4 ⟨q, 1, none⟩ (.slice a4 L.length k4))[q]? = some (.cells #[.int .i64 fat, .slice a4 L.length k4, .slice aS S.length kS] 41 (0, 0)) at b5
  have w5 : Fr (fun k => k = q) h4 (setAt h4 ⟨q, 1, none⟩ (.slice a4 L.length k4)) := Fr.set (S := fun k => k = q) _ _ _ fun _ => rfl
  have hx5 : Ext h (setAt h4 ⟨q, 1, none⟩ (.slice a4 L.length k4)) := Fr.trans hx4 w5 (fun _ _ h => h) (fun k hk hS => by omega)
  have own5 := own4.fr w5 (fun k hk hS => by subst hS; exact Own_ne own4 b4 (by decide) hk)
  have sv5 := (own3.ext x4).fr w5 (fun k hk hS => by subst hS; exact hqo hk)
  have rows5 : ∀ j, j < i → FrO (setAt h4 ⟨q, 1, none⟩ (.slice a4 L.length k4)) h.size (l.getD j ⟨0, [], []⟩) (rows.getD j []) := fun j hj => by
    obtain ⟨wL, wS, e1, e2, e3⟩ := rows3 j hj
    exact ⟨wL, wS, e1, (e2.ext x4).fr w5 (fun k hk hS => by subst hS; exact Own_ne (e2.ext x4) b4 (by decide) hk), (e3.ext x4).fr w5 (fun k hk hS => by subst hS; exact Own_ne (e3.ext x4) b4 (by decide) hk)⟩
  generalize setAt h4 ⟨q, 1, none⟩ (.slice a4 L.length k4) = h5 at *
  have c2 : cellAt h5 ⟨q, 2, none⟩ = some (.slice aS S.length kS) := by rw [cellAt_of b5]; rfl
  clear w5 x4 own4 b4 d1 fr4 rows3 own3
  simp (disch := first | omega | assumption) only [C.law3_twin_gos, vs, T.ts, and_true, true_and, List.getElem?_toArray, List.getElem?_cons_zero, List.getElem?_cons_succ, ↓reduceIte, Nat.reduceEqDiff, Option.bind_some, Option.map_some, Option.isSome_some, ne_eq, Bool.not_true, Bool.not_false, Bool.true_eq_false, Bool.false_eq_true, Bool.not_eq_true', Bool.not_eq_false', reduceCtorEq, Option.some.injEq, decide_eq_true_eq, decide_eq_false_iff_not, not_true_eq_false, not_false_eq_true, decide_true, decide_false, List.size_toArray, List.length_cons, List.length_nil, List.cons_append, List.nil_append, List.append_nil, List.map_cons, List.map_nil, Array.size_push, Int.toNat_natCast, List.toList_toArray, Nat.min_def, Nat.reduceLeDiff, Nat.reducePow, Int.reducePow, Int.reduceToNat, Int.tdiv_eq_ediv_of_nonneg, Int.tmod_eq_emod_of_nonneg, Int.fdiv_eq_ediv_of_nonneg, Nat.mul_one, Nat.reduceAdd, Nat.zero_add, Nat.add_zero, implies_true, false_implies, true_implies, c2]
  refine eff_append_slN (base := h.size) T.slT_24 rfl rfl Own.nil (sS.ext (by decide) hx5) (flatV_one S) (by omega) (by omega) hx5.size ?_
  intro v6 h6 own6 fr6
  have x6 : Ext h5 h6 := ⟨fr6.size, fun k hk _ => fr6.same k hk (by simp [Value.ownBlock])⟩
  simp only [Nat.zero_add, List.nil_append] at own6
  have b6 := Fr_blk x6 b5 id
  have hx6 := hx5.trans x6
  have d2 : cellAt h6 ⟨q, 2, none⟩ = some (.slice aS S.length kS) := by rw [cellAt_of b6]; rfl
  obtain ⟨a6, k6, rfl, _⟩ := own6.slN.2
  try simp only [Nat.zero_add]
  simp (disch := first | omega | assumption) only [C.law3_twin_gos, vs, T.ts, and_true, true_and, List.getElem?_toArray, List.getElem?_cons_zero, List.getElem?_cons_succ, ↓reduceIte, Nat.reduceEqDiff, Option.bind_some, Option.map_some, Option.isSome_some, ne_eq, Bool.not_true, Bool.not_false, Bool.true_eq_false, Bool.false_eq_true, Bool.not_eq_true', Bool.not_eq_false', reduceCtorEq, Option.some.injEq, decide_eq_true_eq, decide_eq_false_iff_not, not_true_eq_false, not_false_eq_true, decide_true, decide_false, List.size_toArray, List.length_cons, List.length_nil, List.cons_append, List.nil_append, List.append_nil, List.map_cons, List.map_nil, Array.size_push, Int.toNat_natCast, List.toList_toArray, Nat.min_def, Nat.reduceLeDiff, Nat.reducePow, Int.reducePow, Int.reduceToNat, Int.tdiv_eq_ediv_of_nonneg, Int.tmod_eq_emod_of_nonneg, Int.fdiv_eq_ediv_of_nonneg, Nat.mul_one, Nat.reduceAdd, Nat.zero_add, Nat.add_zero, implies_true, false_implies, true_implies]
  refine eff_store1_z T.zr_24 rfl rfl rfl rfl rfl d2 (by simp [frozenAt, b6]) ?_
  have b7 := setAt_get (o := 2) b6 (.slice a6 S.length k6)
  change (setAt h6 ⟨q, 2, none⟩ (.slice a6 S.length k6))[q]? = some (.cells #[.int .i64 fat, .slice a4 L.length k4, .slice a6 S.length k6] 41 (0, 0)) at b7
  have w7 : Fr (fun k => k = q) h6 (setAt h6 ⟨q, 2, none⟩ (.slice a6 S.length k6)) := Fr.set (S := fun k => k = q) _ _ _ fun _ => rfl
  have hx7 : Ext h (setAt h6 ⟨q, 2, none⟩ (.slice a6 S.length k6)) := Fr.trans hx6 w7 (fun _ _ h => h) (fun k hk hS => by omega)
  have ownL := (own5.ext x6).fr w7 (fun k hk hS => by subst hS; exact Own_ne (own5.ext x6) b6 (by decide) hk)
  have ownS := own6.fr w7 (fun k hk hS => by subst hS; exact Own_ne own6 b6 (by decide) hk)
  have sv7 := (sv5.ext x6).fr w7 (fun k hk hS => by subst hS; exact hqo hk)
  have rows7 : ∀ j, j < i → FrO (setAt h6 ⟨q, 2, none⟩ (.slice a6 S.length k6)) h.size (l.getD j ⟨0, [], []⟩) (rows.getD j []) := fun j hj => by
    obtain ⟨wL, wS, e1, e2, e3⟩ := rows5 j hj
    exact ⟨wL, wS, e1, (e2.ext x6).fr w7 (fun k hk hS => by subst hS; exact Own_ne (e2.ext x6) b6 (by decide) hk), (e3.ext x6).fr w7 (fun k hk hS => by subst hS; exact Own_ne (e3.ext x6) b6 (by decide) hk)⟩
  generalize setAt h6 ⟨q, 2, none⟩ (.slice a6 S.length k6) = h7 at *
  have hld7 := ld_agg T.ag_41 (Rd_block (vs := [.int .i64 fat, .slice a4 L.length k4, .slice a6 S.length k6]) b7) rfl
  clear w7 x6 own6 b6 d2 fr6 rows5 own5 sv5 b5 c2
  simp (disch := first | omega | assumption) only [C.law3_twin_gos, vs, T.ts, and_true, true_and, List.getElem?_toArray, List.getElem?_cons_zero, List.getElem?_cons_succ, ↓reduceIte, Nat.reduceEqDiff, Option.bind_some, Option.map_some, Option.isSome_some, ne_eq, Bool.not_true, Bool.not_false, Bool.true_eq_false, Bool.false_eq_true, Bool.not_eq_true', Bool.not_eq_false', reduceCtorEq, Option.some.injEq, decide_eq_true_eq, decide_eq_false_iff_not, not_true_eq_false, not_false_eq_true, decide_true, decide_false, List.size_toArray, List.length_cons, List.length_nil, List.cons_append, List.nil_append, List.append_nil, List.map_cons, List.map_nil, Array.size_push, Int.toNat_natCast, List.toList_toArray, Nat.min_def, Nat.reduceLeDiff, Nat.reducePow, Int.reducePow, Int.reduceToNat, Int.tdiv_eq_ediv_of_nonneg, Int.tmod_eq_emod_of_nonneg, Int.fdiv_eq_ediv_of_nonneg, Nat.mul_one, Nat.reduceAdd, Nat.zero_add, Nat.add_zero, implies_true, false_implies, true_implies, hld7]
  refine eff_lits T.slT_22 rfl rfl (by decide) ?_
  simp (disch := first | omega | assumption) only [C.law3_twin_gos, vs, T.ts, and_true, true_and, List.getElem?_toArray, List.getElem?_cons_zero, List.getElem?_cons_succ, ↓reduceIte, Nat.reduceEqDiff, Option.bind_some, Option.map_some, Option.isSome_some, ne_eq, Bool.not_true, Bool.not_false, Bool.true_eq_false, Bool.false_eq_true, Bool.not_eq_true', Bool.not_eq_false', reduceCtorEq, Option.some.injEq, decide_eq_true_eq, decide_eq_false_iff_not, not_true_eq_false, not_false_eq_true, decide_true, decide_false, List.size_toArray, List.length_cons, List.length_nil, List.cons_append, List.nil_append, List.append_nil, List.map_cons, List.map_nil, Array.size_push, Int.toNat_natCast, List.toList_toArray, Nat.min_def, Nat.reduceLeDiff, Nat.reducePow, Int.reducePow, Int.reduceToNat, Int.tdiv_eq_ediv_of_nonneg, Int.tmod_eq_emod_of_nonneg, Int.fdiv_eq_ediv_of_nonneg, Nat.mul_one, Nat.reduceAdd, Nat.zero_add, Nat.add_zero, implies_true, false_implies, true_implies]
  refine eff_append_own (m := 1) T.slT_22 rfl rfl (sv7.push _) rfl (Rd_new (vs := [.int .i64 fat, .slice a4 L.length k4, .slice a6 S.length k6])) (by simp [oneCell]) (by omega) (by omega) (by have := hx7.size; simp; omega) ?_
  intro v8 h8 own8 fr8 _
  have hx8 : Ext h h8 := Ext.app (hx7.trans (Ext.push _ _)) fr8 (fun k hk => (sv7.lt k hk).1)
  have key : ∀ {w : Value} {n : Nat} {xs : List Value}, Own h7 h.size 35 3 w n xs → Own h8 h.size 35 3 w n xs := fun H => (H.push (.cells #[.int .i64 fat, .slice a4 L.length k4, .slice a6 S.length k6] 41)).fr fr8 (Own_two (H.push (.cells #[.int .i64 fat, .slice a4 L.length k4, .slice a6 S.length k6] 41)) (sv7.push (.cells #[.int .i64 fat, .slice a4 L.length k4, .slice a6 S.length k6] 41)) (by decide))
  simp (disch := first | omega | assumption) only [C.law3_twin_gos, vs, T.ts, and_true, true_and, List.getElem?_toArray, List.getElem?_cons_zero, List.getElem?_cons_succ, ↓reduceIte, Nat.reduceEqDiff, Option.bind_some, Option.map_some, Option.isSome_some, ne_eq, Bool.not_true, Bool.not_false, Bool.true_eq_false, Bool.false_eq_true, Bool.not_eq_true', Bool.not_eq_false', reduceCtorEq, Option.some.injEq, decide_eq_true_eq, decide_eq_false_iff_not, not_true_eq_false, not_false_eq_true, decide_true, decide_false, List.size_toArray, List.length_cons, List.length_nil, List.cons_append, List.nil_append, List.append_nil, List.map_cons, List.map_nil, Array.size_push, Int.toNat_natCast, List.toList_toArray, Nat.min_def, Nat.reduceLeDiff, Nat.reducePow, Int.reducePow, Int.reduceToNat, Int.tdiv_eq_ediv_of_nonneg, Int.tmod_eq_emod_of_nonneg, Int.fdiv_eq_ediv_of_nonneg, Nat.mul_one, Nat.reduceAdd, Nat.zero_add, Nat.add_zero, implies_true, false_implies, true_implies]
  exact ⟨_, by omega, i + 1, v8, rows ++ [[.int .i64 fat, .slice a4 L.length k4, .slice a6 S.length k6]], rfl, by omega, by simp [hrl], by simp, hx8, by rw [List.flatten_append]; simpa using own8,
    hfin _ h8 (fun j hj => by
      obtain ⟨wL, wS, e1, e2, e3⟩ := rows7 j hj
      exact ⟨wL, wS, e1, key e2, key e3⟩) ⟨_, _, rfl, key ownL, key ownS⟩⟩

set_option maxHeartbeats 2000000 in
theorem sameFrames_any (l : List Frm) (v u : Value) (h : Heap) (hs : FrsC h v l) (ht : FrsC h u l) (hll : l.length ≤ 1048576) (hLl : ∀ f ∈ l, f.L.length ≤ 1048576 ∧ f.S.length ≤ 1048576) :
    HCalls Try.prog 10 #[v, u] h fun r h' => h' = h ∧ r = .bool true := by
  refine C.law3_sameFrames_calls (args := [v, u]) rfl ?_
  obtain ⟨_, _, hr2, _⟩ := id hs
  obtain ⟨_, _, hr2', _⟩ := id ht
  obtain ⟨_, a, c, rfl, _⟩ := hr2
  obtain ⟨_, a2, c2, rfl, _⟩ := hr2'
  simp (disch := first | omega | assumption) only [C.law3_sameFrames_gos, vs, T.ts, and_true, true_and, List.getElem?_toArray, List.getElem?_cons_zero, List.getElem?_cons_succ, ↓reduceIte, Nat.reduceEqDiff, Option.bind_some, Option.map_some, Option.isSome_some, ne_eq, Bool.not_true, Bool.not_false, Bool.true_eq_false, Bool.false_eq_true, Bool.not_eq_true', Bool.not_eq_false', reduceCtorEq, Option.some.injEq, decide_eq_true_eq, decide_eq_false_iff_not, not_true_eq_false, not_false_eq_true, decide_true, decide_false, List.size_toArray, List.length_cons, List.length_nil, List.cons_append, List.nil_append, List.append_nil, List.map_cons, List.map_nil, Array.size_push, Int.toNat_natCast, List.toList_toArray, Nat.min_def, Nat.reduceLeDiff, Nat.reducePow, Int.reducePow, Int.reduceToNat, Int.tdiv_eq_ediv_of_nonneg, Int.tmod_eq_emod_of_nonneg, Int.fdiv_eq_ediv_of_nonneg, Nat.mul_one, Nat.reduceAdd, Nat.zero_add, Nat.add_zero, implies_true, false_implies, true_implies]
  refine loop_intro [0, 1, 12, 13] (fun m ρ hc => ∃ i : Nat, m = l.length - i ∧ i ≤ l.length ∧ ρ = [(0, .slice a l.length c), (1, .slice a2 l.length c2), (12, .int .i64 l.length), (13, .int .i64 i)] ∧ hc = h) ?_ ?_
  · simp (disch := first | omega | assumption) only [C.law3_sameFrames_gos, vs, T.ts, and_true, true_and, List.getElem?_toArray, List.getElem?_cons_zero, List.getElem?_cons_succ, ↓reduceIte, Nat.reduceEqDiff, Option.bind_some, Option.map_some, Option.isSome_some, ne_eq, Bool.not_true, Bool.not_false, Bool.true_eq_false, Bool.false_eq_true, Bool.not_eq_true', Bool.not_eq_false', reduceCtorEq, Option.some.injEq, decide_eq_true_eq, decide_eq_false_iff_not, not_true_eq_false, not_false_eq_true, decide_true, decide_false, List.size_toArray, List.length_cons, List.length_nil, List.cons_append, List.nil_append, List.append_nil, List.map_cons, List.map_nil, Array.size_push, Int.toNat_natCast, List.toList_toArray, Nat.min_def, Nat.reduceLeDiff, Nat.reducePow, Int.reducePow, Int.reduceToNat, Int.tdiv_eq_ediv_of_nonneg, Int.tmod_eq_emod_of_nonneg, Int.fdiv_eq_ediv_of_nonneg, Nat.mul_one, Nat.reduceAdd, Nat.zero_add, Nat.add_zero, implies_true, false_implies, true_implies]
    exact ⟨_, 0, rfl, Nat.zero_le _, rfl⟩
  rintro m ρ hc ⟨i, rfl, hi, rfl, rfl⟩
  rcases Nat.lt_or_ge i l.length with hlt | hge
  · have hlt' : (i : Int) < l.length := by omega
    obtain ⟨b, o, c', vL, vS, heq, hrd, sL, cL, sS, cS⟩ := hs.at hlt
    obtain ⟨b2, o2, c2', wL, wS, heq2, hrd2, tL, dL, tS, dS⟩ := ht.at hlt
    cases heq
    cases heq2
    have hll2 := hLl (l.getD i ⟨0, [], []⟩) (by simp [hlt])
    generalize l.getD i ⟨0, [], []⟩ = f at *
    have e0 : cellAt hc ⟨b, o + i * 3, none⟩ = some (.int .i64 f.at') := hrd 0 _ rfl
    have e1 : cellAt hc ⟨b, o + i * 3 + 1, none⟩ = some vL := hrd 1 _ rfl
    have e2 : cellAt hc ⟨b, o + i * 3 + 2, none⟩ = some vS := hrd 2 _ rfl
    have g0 : cellAt hc ⟨b2, o2 + i * 3, none⟩ = some (.int .i64 f.at') := hrd2 0 _ rfl
    have g1 : cellAt hc ⟨b2, o2 + i * 3 + 1, none⟩ = some wL := hrd2 1 _ rfl
    have g2 : cellAt hc ⟨b2, o2 + i * 3 + 2, none⟩ = some wS := hrd2 2 _ rfl
    simp (disch := first | omega | assumption) only [C.law3_sameFrames_gos, vs, T.ts, and_true, true_and, List.getElem?_toArray, List.getElem?_cons_zero, List.getElem?_cons_succ, ↓reduceIte, Nat.reduceEqDiff, Option.bind_some, Option.map_some, Option.isSome_some, ne_eq, Bool.not_true, Bool.not_false, Bool.true_eq_false, Bool.false_eq_true, Bool.not_eq_true', Bool.not_eq_false', reduceCtorEq, Option.some.injEq, decide_eq_true_eq, decide_eq_false_iff_not, not_true_eq_false, not_false_eq_true, decide_true, decide_false, List.size_toArray, List.length_cons, List.length_nil, List.cons_append, List.nil_append, List.append_nil, List.map_cons, List.map_nil, Array.size_push, Int.toNat_natCast, List.toList_toArray, Nat.min_def, Nat.reduceLeDiff, Nat.reducePow, Int.reducePow, Int.reduceToNat, Int.tdiv_eq_ediv_of_nonneg, Int.tmod_eq_emod_of_nonneg, Int.fdiv_eq_ediv_of_nonneg, Nat.mul_one, Nat.reduceAdd, Nat.zero_add, Nat.add_zero, implies_true, false_implies, true_implies, hlt', e0, e1, e2, g0, g1, g2]
    refine eff_call_of ?_
    simp (disch := first | omega | assumption) only [C.law3_sameFrames_gos, vs, T.ts, and_true, true_and, List.getElem?_toArray, List.getElem?_cons_zero, List.getElem?_cons_succ, ↓reduceIte, Nat.reduceEqDiff, Option.bind_some, Option.map_some, Option.isSome_some, ne_eq, Bool.not_true, Bool.not_false, Bool.true_eq_false, Bool.false_eq_true, Bool.not_eq_true', Bool.not_eq_false', reduceCtorEq, Option.some.injEq, decide_eq_true_eq, decide_eq_false_iff_not, not_true_eq_false, not_false_eq_true, decide_true, decide_false, List.size_toArray, List.length_cons, List.length_nil, List.cons_append, List.nil_append, List.append_nil, List.map_cons, List.map_nil, Array.size_push, Int.toNat_natCast, List.toList_toArray, Nat.min_def, Nat.reduceLeDiff, Nat.reducePow, Int.reducePow, Int.reduceToNat, Int.tdiv_eq_ediv_of_nonneg, Int.tmod_eq_emod_of_nonneg, Int.fdiv_eq_ediv_of_nonneg, Nat.mul_one, Nat.reduceAdd, Nat.zero_add, Nat.add_zero, implies_true, false_implies, true_implies]
    refine (sameTypes_any f.L f.L _ _ _ _ rfl rfl sL tL (by omega)).mono ?_
    rintro v3 h3 ⟨rfl, rfl⟩
    have hd : decide (f.L = f.L) = true := decide_eq_true rfl
    rw [hd]
    simp (disch := first | omega | assumption) only [C.law3_sameFrames_gos, vs, T.ts, and_true, true_and, List.getElem?_toArray, List.getElem?_cons_zero, List.getElem?_cons_succ, ↓reduceIte, Nat.reduceEqDiff, Option.bind_some, Option.map_some, Option.isSome_some, ne_eq, Bool.not_true, Bool.not_false, Bool.true_eq_false, Bool.false_eq_true, Bool.not_eq_true', Bool.not_eq_false', reduceCtorEq, Option.some.injEq, decide_eq_true_eq, decide_eq_false_iff_not, not_true_eq_false, not_false_eq_true, decide_true, decide_false, List.size_toArray, List.length_cons, List.length_nil, List.cons_append, List.nil_append, List.append_nil, List.map_cons, List.map_nil, Array.size_push, Int.toNat_natCast, List.toList_toArray, Nat.min_def, Nat.reduceLeDiff, Nat.reducePow, Int.reducePow, Int.reduceToNat, Int.tdiv_eq_ediv_of_nonneg, Int.tmod_eq_emod_of_nonneg, Int.fdiv_eq_ediv_of_nonneg, Nat.mul_one, Nat.reduceAdd, Nat.zero_add, Nat.add_zero, implies_true, false_implies, true_implies, hlt', e0, e1, e2, g0, g1, g2]
    refine eff_call_of ?_
    simp (disch := first | omega | assumption) only [C.law3_sameFrames_gos, vs, T.ts, and_true, true_and, List.getElem?_toArray, List.getElem?_cons_zero, List.getElem?_cons_succ, ↓reduceIte, Nat.reduceEqDiff, Option.bind_some, Option.map_some, Option.isSome_some, ne_eq, Bool.not_true, Bool.not_false, Bool.true_eq_false, Bool.false_eq_true, Bool.not_eq_true', Bool.not_eq_false', reduceCtorEq, Option.some.injEq, decide_eq_true_eq, decide_eq_false_iff_not, not_true_eq_false, not_false_eq_true, decide_true, decide_false, List.size_toArray, List.length_cons, List.length_nil, List.cons_append, List.nil_append, List.append_nil, List.map_cons, List.map_nil, Array.size_push, Int.toNat_natCast, List.toList_toArray, Nat.min_def, Nat.reduceLeDiff, Nat.reducePow, Int.reducePow, Int.reduceToNat, Int.tdiv_eq_ediv_of_nonneg, Int.tmod_eq_emod_of_nonneg, Int.fdiv_eq_ediv_of_nonneg, Nat.mul_one, Nat.reduceAdd, Nat.zero_add, Nat.add_zero, implies_true, false_implies, true_implies]
    refine (sameTypes_any f.S f.S _ _ _ _ rfl rfl sS tS (by omega)).mono ?_
    rintro v4 h4 ⟨rfl, rfl⟩
    have hd2 : decide (f.S = f.S) = true := decide_eq_true rfl
    rw [hd2]
    simp (disch := first | omega | assumption) only [C.law3_sameFrames_gos, vs, T.ts, and_true, true_and, List.getElem?_toArray, List.getElem?_cons_zero, List.getElem?_cons_succ, ↓reduceIte, Nat.reduceEqDiff, Option.bind_some, Option.map_some, Option.isSome_some, ne_eq, Bool.not_true, Bool.not_false, Bool.true_eq_false, Bool.false_eq_true, Bool.not_eq_true', Bool.not_eq_false', reduceCtorEq, Option.some.injEq, decide_eq_true_eq, decide_eq_false_iff_not, not_true_eq_false, not_false_eq_true, decide_true, decide_false, List.size_toArray, List.length_cons, List.length_nil, List.cons_append, List.nil_append, List.append_nil, List.map_cons, List.map_nil, Array.size_push, Int.toNat_natCast, List.toList_toArray, Nat.min_def, Nat.reduceLeDiff, Nat.reducePow, Int.reducePow, Int.reduceToNat, Int.tdiv_eq_ediv_of_nonneg, Int.tmod_eq_emod_of_nonneg, Int.fdiv_eq_ediv_of_nonneg, Nat.mul_one, Nat.reduceAdd, Nat.zero_add, Nat.add_zero, implies_true, false_implies, true_implies, hlt', e0, e1, e2, g0, g1, g2]
    exact ⟨l.length - (i + 1), by omega, i + 1, rfl, by omega, by simp⟩
  · have hlt' : ¬ (i : Int) < l.length := by omega
    simp (disch := first | omega | assumption) only [C.law3_sameFrames_gos, vs, T.ts, and_true, true_and, List.getElem?_toArray, List.getElem?_cons_zero, List.getElem?_cons_succ, ↓reduceIte, Nat.reduceEqDiff, Option.bind_some, Option.map_some, Option.isSome_some, ne_eq, Bool.not_true, Bool.not_false, Bool.true_eq_false, Bool.false_eq_true, Bool.not_eq_true', Bool.not_eq_false', reduceCtorEq, Option.some.injEq, decide_eq_true_eq, decide_eq_false_iff_not, not_true_eq_false, not_false_eq_true, decide_true, decide_false, List.size_toArray, List.length_cons, List.length_nil, List.cons_append, List.nil_append, List.append_nil, List.map_cons, List.map_nil, Array.size_push, Int.toNat_natCast, List.toList_toArray, Nat.min_def, Nat.reduceLeDiff, Nat.reducePow, Int.reducePow, Int.reduceToNat, Int.tdiv_eq_ediv_of_nonneg, Int.tmod_eq_emod_of_nonneg, Int.fdiv_eq_ediv_of_nonneg, Nat.mul_one, Nat.reduceAdd, Nat.zero_add, Nat.add_zero, implies_true, false_implies, true_implies, hlt']

set_option maxHeartbeats 2000000 in
theorem mapWrites_any (l : List Frm) (p : List Cst) (first : List VT) (v vp vf : Value) (h : Heap) (hl : FrsC h v l) (hlf : ∀ f ∈ l, f.Fit) (hll : l.length ≤ 1048576)
    (hLl : ∀ f ∈ l, f.L.length ≤ 1048576 ∧ f.S.length ≤ 1048576) (hp : SlN h 5 vp p.length (flatS p)) (hpc : capOk vp) (hpf : ∀ c ∈ p, c.Fit) (hpl : p.length ≤ 1048576)
    (hf : SlN h 3 vf first.length (flatV first)) (hfc : capOk vf) (hfl : first.length ≤ 1048576) :
    HCalls Try.prog 3 #[v, vp, vf] h fun r h' => Ext h h' ∧ r = .bool true := by
  refine C.law3_MapWrites_calls (args := [v, vp, vf]) rfl ?_
  obtain ⟨_, _, hr2, _⟩ := id hl
  have hp' := hp
  have hf' := hf
  obtain ⟨_, a, c, rfl, _⟩ := hr2
  obtain ⟨_, ap, cp, rfl, _⟩ := hp'
  obtain ⟨_, af, cf, rfl, _⟩ := hf'
  simp (disch := first | omega | assumption) only [C.law3_MapWrites_gos, vs, T.ts, and_true, true_and, List.getElem?_toArray, List.getElem?_cons_zero, List.getElem?_cons_succ, ↓reduceIte, Nat.reduceEqDiff, Option.bind_some, Option.map_some, Option.isSome_some, ne_eq, Bool.not_true, Bool.not_false, Bool.true_eq_false, Bool.false_eq_true, Bool.not_eq_true', Bool.not_eq_false', reduceCtorEq, Option.some.injEq, decide_eq_true_eq, decide_eq_false_iff_not, not_true_eq_false, not_false_eq_true, decide_true, decide_false, List.size_toArray, List.length_cons, List.length_nil, List.cons_append, List.nil_append, List.append_nil, List.map_cons, List.map_nil, Array.size_push, Int.toNat_natCast, List.toList_toArray, Nat.min_def, Nat.reduceLeDiff, Nat.reducePow, Int.reducePow, Int.reduceToNat, Int.tdiv_eq_ediv_of_nonneg, Int.tmod_eq_emod_of_nonneg, Int.fdiv_eq_ediv_of_nonneg, Nat.mul_one, Nat.reduceAdd, Nat.zero_add, Nat.add_zero, implies_true, false_implies, true_implies]
  refine eff_call_of ?_
  simp (disch := first | omega | assumption) only [C.law3_MapWrites_gos, vs, T.ts, and_true, true_and, List.getElem?_toArray, List.getElem?_cons_zero, List.getElem?_cons_succ, ↓reduceIte, Nat.reduceEqDiff, Option.bind_some, Option.map_some, Option.isSome_some, ne_eq, Bool.not_true, Bool.not_false, Bool.true_eq_false, Bool.false_eq_true, Bool.not_eq_true', Bool.not_eq_false', reduceCtorEq, Option.some.injEq, decide_eq_true_eq, decide_eq_false_iff_not, not_true_eq_false, not_false_eq_true, decide_true, decide_false, List.size_toArray, List.length_cons, List.length_nil, List.cons_append, List.nil_append, List.append_nil, List.map_cons, List.map_nil, Array.size_push, Int.toNat_natCast, List.toList_toArray, Nat.min_def, Nat.reduceLeDiff, Nat.reducePow, Int.reducePow, Int.reduceToNat, Int.tdiv_eq_ediv_of_nonneg, Int.tmod_eq_emod_of_nonneg, Int.fdiv_eq_ediv_of_nonneg, Nat.mul_one, Nat.reduceAdd, Nat.zero_add, Nat.add_zero, implies_true, false_implies, true_implies]
  refine (weight_any l _ h hl hll hLl).mono ?_
  rintro v1 h1 ⟨x1, n, rfl, hn⟩
  by_cases hbig : (4096 : Int) < n + p.length + first.length
  · simp (disch := first | omega | assumption) only [C.law3_MapWrites_gos, vs, T.ts, and_true, true_and, List.getElem?_toArray, List.getElem?_cons_zero, List.getElem?_cons_succ, ↓reduceIte, Nat.reduceEqDiff, Option.bind_some, Option.map_some, Option.isSome_some, ne_eq, Bool.not_true, Bool.not_false, Bool.true_eq_false, Bool.false_eq_true, Bool.not_eq_true', Bool.not_eq_false', reduceCtorEq, Option.some.injEq, decide_eq_true_eq, decide_eq_false_iff_not, not_true_eq_false, not_false_eq_true, decide_true, decide_false, List.size_toArray, List.length_cons, List.length_nil, List.cons_append, List.nil_append, List.append_nil, List.map_cons, List.map_nil, Array.size_push, Int.toNat_natCast, List.toList_toArray, Nat.min_def, Nat.reduceLeDiff, Nat.reducePow, Int.reducePow, Int.reduceToNat, Int.tdiv_eq_ediv_of_nonneg, Int.tmod_eq_emod_of_nonneg, Int.fdiv_eq_ediv_of_nonneg, Nat.mul_one, Nat.reduceAdd, Nat.zero_add, Nat.add_zero, implies_true, false_implies, true_implies, hbig]
    exact x1
  simp (disch := first | omega | assumption) only [C.law3_MapWrites_gos, vs, T.ts, and_true, true_and, List.getElem?_toArray, List.getElem?_cons_zero, List.getElem?_cons_succ, ↓reduceIte, Nat.reduceEqDiff, Option.bind_some, Option.map_some, Option.isSome_some, ne_eq, Bool.not_true, Bool.not_false, Bool.true_eq_false, Bool.false_eq_true, Bool.not_eq_true', Bool.not_eq_false', reduceCtorEq, Option.some.injEq, decide_eq_true_eq, decide_eq_false_iff_not, not_true_eq_false, not_false_eq_true, decide_true, decide_false, List.size_toArray, List.length_cons, List.length_nil, List.cons_append, List.nil_append, List.append_nil, List.map_cons, List.map_nil, Array.size_push, Int.toNat_natCast, List.toList_toArray, Nat.min_def, Nat.reduceLeDiff, Nat.reducePow, Int.reducePow, Int.reduceToNat, Int.tdiv_eq_ediv_of_nonneg, Int.tmod_eq_emod_of_nonneg, Int.fdiv_eq_ediv_of_nonneg, Nat.mul_one, Nat.reduceAdd, Nat.zero_add, Nat.add_zero, implies_true, false_implies, true_implies, hbig]
  refine eff_call_of ?_
  simp (disch := first | omega | assumption) only [C.law3_MapWrites_gos, vs, T.ts, and_true, true_and, List.getElem?_toArray, List.getElem?_cons_zero, List.getElem?_cons_succ, ↓reduceIte, Nat.reduceEqDiff, Option.bind_some, Option.map_some, Option.isSome_some, ne_eq, Bool.not_true, Bool.not_false, Bool.true_eq_false, Bool.false_eq_true, Bool.not_eq_true', Bool.not_eq_false', reduceCtorEq, Option.some.injEq, decide_eq_true_eq, decide_eq_false_iff_not, not_true_eq_false, not_false_eq_true, decide_true, decide_false, List.size_toArray, List.length_cons, List.length_nil, List.cons_append, List.nil_append, List.append_nil, List.map_cons, List.map_nil, Array.size_push, Int.toNat_natCast, List.toList_toArray, Nat.min_def, Nat.reduceLeDiff, Nat.reducePow, Int.reducePow, Int.reduceToNat, Int.tdiv_eq_ediv_of_nonneg, Int.tmod_eq_emod_of_nonneg, Int.fdiv_eq_ediv_of_nonneg, Nat.mul_one, Nat.reduceAdd, Nat.zero_add, Nat.add_zero, implies_true, false_implies, true_implies]
  refine (twin_any l _ h1 (hl.ext x1) hll hLl).mono ?_
  rintro v2 h2 ⟨x2, tw2⟩
  have tw2' := tw2
  obtain ⟨_, _, hr2, _⟩ := id tw2'
  obtain ⟨_, at2, ct2, rfl, _⟩ := hr2
  have y2 := x1.trans x2
  simp (disch := first | omega | assumption) only [C.law3_MapWrites_gos, vs, T.ts, and_true, true_and, List.getElem?_toArray, List.getElem?_cons_zero, List.getElem?_cons_succ, ↓reduceIte, Nat.reduceEqDiff, Option.bind_some, Option.map_some, Option.isSome_some, ne_eq, Bool.not_true, Bool.not_false, Bool.true_eq_false, Bool.false_eq_true, Bool.not_eq_true', Bool.not_eq_false', reduceCtorEq, Option.some.injEq, decide_eq_true_eq, decide_eq_false_iff_not, not_true_eq_false, not_false_eq_true, decide_true, decide_false, List.size_toArray, List.length_cons, List.length_nil, List.cons_append, List.nil_append, List.append_nil, List.map_cons, List.map_nil, Array.size_push, Int.toNat_natCast, List.toList_toArray, Nat.min_def, Nat.reduceLeDiff, Nat.reducePow, Int.reducePow, Int.reduceToNat, Int.tdiv_eq_ediv_of_nonneg, Int.tmod_eq_emod_of_nonneg, Int.fdiv_eq_ediv_of_nonneg, Nat.mul_one, Nat.reduceAdd, Nat.zero_add, Nat.add_zero, implies_true, false_implies, true_implies]
  refine eff_append_slN (base := h2.size) T.slT_23 rfl rfl Own.nil (hp.ext (by decide) y2) (flatS_one p) (by omega) (by omega) (Nat.le_refl _) ?_
  intro v3 h3 own3 fr3
  have x3 : Ext h2 h3 := ⟨fr3.size, fun k hk _ => fr3.same k hk (by simp [Value.ownBlock])⟩
  simp only [Nat.zero_add, List.nil_append] at own3
  obtain ⟨a3, c3, rfl, _⟩ := own3.slN.2
  try simp only [Nat.zero_add]
  have y3 := y2.trans x3
  simp (disch := first | omega | assumption) only [C.law3_MapWrites_gos, vs, T.ts, and_true, true_and, List.getElem?_toArray, List.getElem?_cons_zero, List.getElem?_cons_succ, ↓reduceIte, Nat.reduceEqDiff, Option.bind_some, Option.map_some, Option.isSome_some, ne_eq, Bool.not_true, Bool.not_false, Bool.true_eq_false, Bool.false_eq_true, Bool.not_eq_true', Bool.not_eq_false', reduceCtorEq, Option.some.injEq, decide_eq_true_eq, decide_eq_false_iff_not, not_true_eq_false, not_false_eq_true, decide_true, decide_false, List.size_toArray, List.length_cons, List.length_nil, List.cons_append, List.nil_append, List.append_nil, List.map_cons, List.map_nil, Array.size_push, Int.toNat_natCast, List.toList_toArray, Nat.min_def, Nat.reduceLeDiff, Nat.reducePow, Int.reducePow, Int.reduceToNat, Int.tdiv_eq_ediv_of_nonneg, Int.tmod_eq_emod_of_nonneg, Int.fdiv_eq_ediv_of_nonneg, Nat.mul_one, Nat.reduceAdd, Nat.zero_add, Nat.add_zero, implies_true, false_implies, true_implies]
  refine eff_append_slN (base := h3.size) T.slT_24 rfl rfl Own.nil (hf.ext (by decide) y3) (flatV_one first) (by omega) (by omega) (Nat.le_refl _) ?_
  intro v4 h4 own4 fr4
  have x4 : Ext h3 h4 := ⟨fr4.size, fun k hk _ => fr4.same k hk (by simp [Value.ownBlock])⟩
  simp only [Nat.zero_add, List.nil_append] at own4
  obtain ⟨a4, c4, rfl, _⟩ := own4.slN.2
  try simp only [Nat.zero_add]
  have y4 := y3.trans x4
  simp (disch := first | omega | assumption) only [C.law3_MapWrites_gos, vs, T.ts, and_true, true_and, List.getElem?_toArray, List.getElem?_cons_zero, List.getElem?_cons_succ, ↓reduceIte, Nat.reduceEqDiff, Option.bind_some, Option.map_some, Option.isSome_some, ne_eq, Bool.not_true, Bool.not_false, Bool.true_eq_false, Bool.false_eq_true, Bool.not_eq_true', Bool.not_eq_false', reduceCtorEq, Option.some.injEq, decide_eq_true_eq, decide_eq_false_iff_not, not_true_eq_false, not_false_eq_true, decide_true, decide_false, List.size_toArray, List.length_cons, List.length_nil, List.cons_append, List.nil_append, List.append_nil, List.map_cons, List.map_nil, Array.size_push, Int.toNat_natCast, List.toList_toArray, Nat.min_def, Nat.reduceLeDiff, Nat.reducePow, Int.reducePow, Int.reduceToNat, Int.tdiv_eq_ediv_of_nonneg, Int.tmod_eq_emod_of_nonneg, Int.fdiv_eq_ediv_of_nonneg, Nat.mul_one, Nat.reduceAdd, Nat.zero_add, Nat.add_zero, implies_true, false_implies, true_implies]
  refine eff_call_of ?_
  simp (disch := first | omega | assumption) only [C.law3_MapWrites_gos, vs, T.ts, and_true, true_and, List.getElem?_toArray, List.getElem?_cons_zero, List.getElem?_cons_succ, ↓reduceIte, Nat.reduceEqDiff, Option.bind_some, Option.map_some, Option.isSome_some, ne_eq, Bool.not_true, Bool.not_false, Bool.true_eq_false, Bool.false_eq_true, Bool.not_eq_true', Bool.not_eq_false', reduceCtorEq, Option.some.injEq, decide_eq_true_eq, decide_eq_false_iff_not, not_true_eq_false, not_false_eq_true, decide_true, decide_false, List.size_toArray, List.length_cons, List.length_nil, List.cons_append, List.nil_append, List.append_nil, List.map_cons, List.map_nil, Array.size_push, Int.toNat_natCast, List.toList_toArray, Nat.min_def, Nat.reduceLeDiff, Nat.reducePow, Int.reducePow, Int.reduceToNat, Int.tdiv_eq_ediv_of_nonneg, Int.tmod_eq_emod_of_nonneg, Int.fdiv_eq_ediv_of_nonneg, Nat.mul_one, Nat.reduceAdd, Nat.zero_add, Nat.add_zero, implies_true, false_implies, true_implies]
  have hLl2 : ∀ f ∈ l, f.L.length ≤ 1073741824 ∧ f.S.length ≤ 1073741824 := fun f hf => by have := hLl f hf; omega
  refine (mapWrite_any l p first _ _ _ h4 (hl.ext y4) hlf (by omega) (by omega) hLl2 (hp.ext (by decide) y4) hpc hpf (by omega) (hf.ext (by decide) y4) hfc).mono ?_
  rintro v5 h5 ⟨x5, rfl⟩
  simp (disch := first | omega | assumption) only [C.law3_MapWrites_gos, vs, T.ts, and_true, true_and, List.getElem?_toArray, List.getElem?_cons_zero, List.getElem?_cons_succ, ↓reduceIte, Nat.reduceEqDiff, Option.bind_some, Option.map_some, Option.isSome_some, ne_eq, Bool.not_true, Bool.not_false, Bool.true_eq_false, Bool.false_eq_true, Bool.not_eq_true', Bool.not_eq_false', reduceCtorEq, Option.some.injEq, decide_eq_true_eq, decide_eq_false_iff_not, not_true_eq_false, not_false_eq_true, decide_true, decide_false, List.size_toArray, List.length_cons, List.length_nil, List.cons_append, List.nil_append, List.append_nil, List.map_cons, List.map_nil, Array.size_push, Int.toNat_natCast, List.toList_toArray, Nat.min_def, Nat.reduceLeDiff, Nat.reducePow, Int.reducePow, Int.reduceToNat, Int.tdiv_eq_ediv_of_nonneg, Int.tmod_eq_emod_of_nonneg, Int.fdiv_eq_ediv_of_nonneg, Nat.mul_one, Nat.reduceAdd, Nat.zero_add, Nat.add_zero, implies_true, false_implies, true_implies, mapV]
  refine eff_call_of ?_
  simp (disch := first | omega | assumption) only [C.law3_MapWrites_gos, vs, T.ts, and_true, true_and, List.getElem?_toArray, List.getElem?_cons_zero, List.getElem?_cons_succ, ↓reduceIte, Nat.reduceEqDiff, Option.bind_some, Option.map_some, Option.isSome_some, ne_eq, Bool.not_true, Bool.not_false, Bool.true_eq_false, Bool.false_eq_true, Bool.not_eq_true', Bool.not_eq_false', reduceCtorEq, Option.some.injEq, decide_eq_true_eq, decide_eq_false_iff_not, not_true_eq_false, not_false_eq_true, decide_true, decide_false, List.size_toArray, List.length_cons, List.length_nil, List.cons_append, List.nil_append, List.append_nil, List.map_cons, List.map_nil, Array.size_push, Int.toNat_natCast, List.toList_toArray, Nat.min_def, Nat.reduceLeDiff, Nat.reducePow, Int.reducePow, Int.reduceToNat, Int.tdiv_eq_ediv_of_nonneg, Int.tmod_eq_emod_of_nonneg, Int.fdiv_eq_ediv_of_nonneg, Nat.mul_one, Nat.reduceAdd, Nat.zero_add, Nat.add_zero, implies_true, false_implies, true_implies]
  have z := (x3.trans x4).trans x5
  refine (rmapWrite_any l p first _ _ _ h5 (tw2.ext z) hlf (by omega) (by omega) hLl2 ((own3.ext x4).ext x5).slN hpf (by omega) (own4.ext x5).slN own4.capOk).mono ?_
  rintro v6 h6 ⟨x6, rfl⟩
  have y6 := (y4.trans x5).trans x6
  simp (disch := first | omega | assumption) only [C.law3_MapWrites_gos, vs, T.ts, and_true, true_and, List.getElem?_toArray, List.getElem?_cons_zero, List.getElem?_cons_succ, ↓reduceIte, Nat.reduceEqDiff, Option.bind_some, Option.map_some, Option.isSome_some, ne_eq, Bool.not_true, Bool.not_false, Bool.true_eq_false, Bool.false_eq_true, Bool.not_eq_true', Bool.not_eq_false', reduceCtorEq, Option.some.injEq, decide_eq_true_eq, decide_eq_false_iff_not, not_true_eq_false, not_false_eq_true, decide_true, decide_false, List.size_toArray, List.length_cons, List.length_nil, List.cons_append, List.nil_append, List.append_nil, List.map_cons, List.map_nil, Array.size_push, Int.toNat_natCast, List.toList_toArray, Nat.min_def, Nat.reduceLeDiff, Nat.reducePow, Int.reducePow, Int.reduceToNat, Int.tdiv_eq_ediv_of_nonneg, Int.tmod_eq_emod_of_nonneg, Int.fdiv_eq_ediv_of_nonneg, Nat.mul_one, Nat.reduceAdd, Nat.zero_add, Nat.add_zero, implies_true, false_implies, true_implies, mapV]
  refine eff_call_of ?_
  simp (disch := first | omega | assumption) only [C.law3_MapWrites_gos, vs, T.ts, and_true, true_and, List.getElem?_toArray, List.getElem?_cons_zero, List.getElem?_cons_succ, ↓reduceIte, Nat.reduceEqDiff, Option.bind_some, Option.map_some, Option.isSome_some, ne_eq, Bool.not_true, Bool.not_false, Bool.true_eq_false, Bool.false_eq_true, Bool.not_eq_true', Bool.not_eq_false', reduceCtorEq, Option.some.injEq, decide_eq_true_eq, decide_eq_false_iff_not, not_true_eq_false, not_false_eq_true, decide_true, decide_false, List.size_toArray, List.length_cons, List.length_nil, List.cons_append, List.nil_append, List.append_nil, List.map_cons, List.map_nil, Array.size_push, Int.toNat_natCast, List.toList_toArray, Nat.min_def, Nat.reduceLeDiff, Nat.reducePow, Int.reducePow, Int.reduceToNat, Int.tdiv_eq_ediv_of_nonneg, Int.tmod_eq_emod_of_nonneg, Int.fdiv_eq_ediv_of_nonneg, Nat.mul_one, Nat.reduceAdd, Nat.zero_add, Nat.add_zero, implies_true, false_implies, true_implies]
  refine (sameFrames_any l _ _ h6 (hl.ext y6) (tw2.ext (z.trans x6)) hll hLl).mono ?_
  rintro v7 h7 ⟨rfl, rfl⟩
  simp (disch := first | omega | assumption) only [C.law3_MapWrites_gos, vs, T.ts, and_true, true_and, List.getElem?_toArray, List.getElem?_cons_zero, List.getElem?_cons_succ, ↓reduceIte, Nat.reduceEqDiff, Option.bind_some, Option.map_some, Option.isSome_some, ne_eq, Bool.not_true, Bool.not_false, Bool.true_eq_false, Bool.false_eq_true, Bool.not_eq_true', Bool.not_eq_false', reduceCtorEq, Option.some.injEq, decide_eq_true_eq, decide_eq_false_iff_not, not_true_eq_false, not_false_eq_true, decide_true, decide_false, List.size_toArray, List.length_cons, List.length_nil, List.cons_append, List.nil_append, List.append_nil, List.map_cons, List.map_nil, Array.size_push, Int.toNat_natCast, List.toList_toArray, Nat.min_def, Nat.reduceLeDiff, Nat.reducePow, Int.reducePow, Int.reduceToNat, Int.tdiv_eq_ediv_of_nonneg, Int.tmod_eq_emod_of_nonneg, Int.fdiv_eq_ediv_of_nonneg, Nat.mul_one, Nat.reduceAdd, Nat.zero_add, Nat.add_zero, implies_true, false_implies, true_implies]
  refine eff_call_of ?_
  simp (disch := first | omega | assumption) only [C.law3_MapWrites_gos, vs, T.ts, and_true, true_and, List.getElem?_toArray, List.getElem?_cons_zero, List.getElem?_cons_succ, ↓reduceIte, Nat.reduceEqDiff, Option.bind_some, Option.map_some, Option.isSome_some, ne_eq, Bool.not_true, Bool.not_false, Bool.true_eq_false, Bool.false_eq_true, Bool.not_eq_true', Bool.not_eq_false', reduceCtorEq, Option.some.injEq, decide_eq_true_eq, decide_eq_false_iff_not, not_true_eq_false, not_false_eq_true, decide_true, decide_false, List.size_toArray, List.length_cons, List.length_nil, List.cons_append, List.nil_append, List.append_nil, List.map_cons, List.map_nil, Array.size_push, Int.toNat_natCast, List.toList_toArray, Nat.min_def, Nat.reduceLeDiff, Nat.reducePow, Int.reducePow, Int.reduceToNat, Int.tdiv_eq_ediv_of_nonneg, Int.tmod_eq_emod_of_nonneg, Int.fdiv_eq_ediv_of_nonneg, Nat.mul_one, Nat.reduceAdd, Nat.zero_add, Nat.add_zero, implies_true, false_implies, true_implies]
  refine (sameTypes_any first first _ _ _ _ rfl rfl (hf.ext (by decide) y6) ((own4.ext x5).ext x6).slN (by omega)).mono ?_
  rintro v8 h8 ⟨rfl, rfl⟩
  have hd : decide (first = first) = true := decide_eq_true rfl
  rw [hd]
  simp (disch := first | omega | assumption) only [C.law3_MapWrites_gos, vs, T.ts, and_true, true_and, List.getElem?_toArray, List.getElem?_cons_zero, List.getElem?_cons_succ, ↓reduceIte, Nat.reduceEqDiff, Option.bind_some, Option.map_some, Option.isSome_some, ne_eq, Bool.not_true, Bool.not_false, Bool.true_eq_false, Bool.false_eq_true, Bool.not_eq_true', Bool.not_eq_false', reduceCtorEq, Option.some.injEq, decide_eq_true_eq, decide_eq_false_iff_not, not_true_eq_false, not_false_eq_true, decide_true, decide_false, List.size_toArray, List.length_cons, List.length_nil, List.cons_append, List.nil_append, List.append_nil, List.map_cons, List.map_nil, Array.size_push, Int.toNat_natCast, List.toList_toArray, Nat.min_def, Nat.reduceLeDiff, Nat.reducePow, Int.reducePow, Int.reduceToNat, Int.tdiv_eq_ediv_of_nonneg, Int.tmod_eq_emod_of_nonneg, Int.fdiv_eq_ediv_of_nonneg, Nat.mul_one, Nat.reduceAdd, Nat.zero_add, Nat.add_zero, implies_true, false_implies, true_implies]
  refine eff_call_of ?_
  simp (disch := first | omega | assumption) only [C.law3_MapWrites_gos, vs, T.ts, and_true, true_and, List.getElem?_toArray, List.getElem?_cons_zero, List.getElem?_cons_succ, ↓reduceIte, Nat.reduceEqDiff, Option.bind_some, Option.map_some, Option.isSome_some, ne_eq, Bool.not_true, Bool.not_false, Bool.true_eq_false, Bool.false_eq_true, Bool.not_eq_true', Bool.not_eq_false', reduceCtorEq, Option.some.injEq, decide_eq_true_eq, decide_eq_false_iff_not, not_true_eq_false, not_false_eq_true, decide_true, decide_false, List.size_toArray, List.length_cons, List.length_nil, List.cons_append, List.nil_append, List.append_nil, List.map_cons, List.map_nil, Array.size_push, Int.toNat_natCast, List.toList_toArray, Nat.min_def, Nat.reduceLeDiff, Nat.reducePow, Int.reducePow, Int.reduceToNat, Int.tdiv_eq_ediv_of_nonneg, Int.tmod_eq_emod_of_nonneg, Int.fdiv_eq_ediv_of_nonneg, Nat.mul_one, Nat.reduceAdd, Nat.zero_add, Nat.add_zero, implies_true, false_implies, true_implies]
  refine (samePool_any p _ _ _ (hp.ext (by decide) y6) (((own3.ext x4).ext x5).ext x6).slN (by omega)).mono ?_
  rintro v9 h9 ⟨rfl, rfl⟩
  simp (disch := first | omega | assumption) only [C.law3_MapWrites_gos, vs, T.ts, and_true, true_and, List.getElem?_toArray, List.getElem?_cons_zero, List.getElem?_cons_succ, ↓reduceIte, Nat.reduceEqDiff, Option.bind_some, Option.map_some, Option.isSome_some, ne_eq, Bool.not_true, Bool.not_false, Bool.true_eq_false, Bool.false_eq_true, Bool.not_eq_true', Bool.not_eq_false', reduceCtorEq, Option.some.injEq, decide_eq_true_eq, decide_eq_false_iff_not, not_true_eq_false, not_false_eq_true, decide_true, decide_false, List.size_toArray, List.length_cons, List.length_nil, List.cons_append, List.nil_append, List.append_nil, List.map_cons, List.map_nil, Array.size_push, Int.toNat_natCast, List.toList_toArray, Nat.min_def, Nat.reduceLeDiff, Nat.reducePow, Int.reducePow, Int.reduceToNat, Int.tdiv_eq_ediv_of_nonneg, Int.tmod_eq_emod_of_nonneg, Int.fdiv_eq_ediv_of_nonneg, Nat.mul_one, Nat.reduceAdd, Nat.zero_add, Nat.add_zero, implies_true, false_implies, true_implies]
  exact y6
end Go.Proofs.Ythhfbnkmhgadaaa
