/- The law HeapSteps on heaps: it returns true. No condition. -/
import Derived.Test.YtidkokdkldfglaaWI
namespace Go.Proofs.Ytidkokdkldfglaa
open Go.Vc
set_option maxRecDepth 100000
set_option linter.unusedSimpArgs false
set_option linter.unusedVariables false

theorem pw {x y : Operand} {q : Option Addr} {h : Heap} : binE Try.prog .eql 23 x y (.pointer q) (.pointer none) h = some (.bool q.isNone) := bin_pnil_eql Try.underlying23
theorem spaces_any {h0 : Heap} {lim rm : Int} : HCalls Try.prog 5 #[.int .i64 lim, .int .i64 rm] h0 fun v h' =>
    ((h' = h0 ∧ (lim < 0 ∨ 16384 < lim ∨ rm < 0 ∨ lim < rm)) ∧ v = .tuple #[.pointer none, .bool false]) ∨
    ∃ (n : Nat) (wb : Nat) (pa : Ph) (sa : St) (pm : Pm) (m : Ms), lim = n ∧ v = .tuple #[ptr wb 0, .bool true] ∧ Two h0 h' wb pa sa (a0 n) pm m (a0 n) := by
  refine C.law5_spaces_calls (args := [.int .i64 lim, .int .i64 rm]) rfl ?_
  by_cases c1 : lim < 0
  · simp (disch := first | omega | assumption) only [C.law5_spaces_gos, T.tv, ↓reduceIte, Nat.reduceEqDiff, reduceCtorEq, Nat.reduceLeDiff, Nat.reducePow, Int.reducePow, Int.reduceToNat, Nat.reduceAdd, c1]
    first | exact .inl ⟨⟨rfl, .inl c1⟩, rfl⟩ | exact .inl (by simp)
  by_cases c2 : 16384 < lim
  · simp (disch := first | omega | assumption) only [C.law5_spaces_gos, T.tv, ↓reduceIte, Nat.reduceEqDiff, reduceCtorEq, Nat.reduceLeDiff, Nat.reducePow, Int.reducePow, Int.reduceToNat, Nat.reduceAdd, c1, c2]
    first | exact .inl ⟨⟨rfl, .inr (.inl c2)⟩, rfl⟩ | exact .inl (by simp)
  by_cases c3 : rm < 0
  · simp (disch := first | omega | assumption) only [C.law5_spaces_gos, T.tv, ↓reduceIte, Nat.reduceEqDiff, reduceCtorEq, Nat.reduceLeDiff, Nat.reducePow, Int.reducePow, Int.reduceToNat, Nat.reduceAdd, c1, c2, c3]
    first | exact .inl ⟨⟨rfl, .inr (.inr (.inl c3))⟩, rfl⟩ | exact .inl (by simp)
  by_cases c4 : lim < rm
  · simp (disch := first | omega | assumption) only [C.law5_spaces_gos, T.tv, ↓reduceIte, Nat.reduceEqDiff, reduceCtorEq, Nat.reduceLeDiff, Nat.reducePow, Int.reducePow, Int.reduceToNat, Nat.reduceAdd, c1, c2, c3, c4]
    first | exact .inl ⟨⟨rfl, .inr (.inr (.inr c4))⟩, rfl⟩ | exact .inl (by simp)
  obtain ⟨n, rfl⟩ : ∃ n : Nat, lim = n := ⟨lim.toNat, by omega⟩
  obtain ⟨r, rfl⟩ : ∃ r : Nat, rm = r := ⟨rm.toNat, by omega⟩
  simp (disch := first | omega | assumption) only [C.law5_spaces_gos, T.tv, ↓reduceIte, Nat.reduceEqDiff, reduceCtorEq, Nat.reduceLeDiff, Nat.reducePow, Int.reducePow, Int.reduceToNat, Nat.reduceAdd, c1, c2, c3, c4]
  refine eff_callF rfl ((sNew_any (n := n) (m := r) (by omega) (by omega)).mono ?_)
  rintro v1 h1 ⟨X1, pa, sa, rfl, Ga, _, fa⟩
  simp (disch := first | omega | assumption) only [C.law5_spaces_gos, T.tv, ↓reduceIte, Nat.reduceEqDiff, reduceCtorEq, Nat.reduceLeDiff, Nat.reducePow, Int.reducePow, Int.reduceToNat, Nat.reduceAdd]
  refine eff_callF rfl ((mNew_any (n := n) (by omega)).mono ?_)
  rintro v2 h2 ⟨X2, pm, m, rfl, Gm⟩
  simp (disch := first | omega | assumption) only [C.law5_spaces_gos, T.tv, ↓reduceIte, Nat.reduceEqDiff, reduceCtorEq, Nat.reduceLeDiff, Nat.reducePow, Int.reducePow, Int.reduceToNat, Nat.reduceAdd]
  refine eff_box ?_
  simp (disch := first | omega | assumption) only [C.law5_spaces_gos, T.tv, ↓reduceIte, Nat.reduceEqDiff, reduceCtorEq, Nat.reduceLeDiff, Nat.reducePow, Int.reducePow, Int.reduceToNat, Nat.reduceAdd]
  have X3 := Ext.push h2 (.cells #[ptr pa.S 0, ptr pm.M 0] 29 (0, 0))
  have hw : (h2.push (.cells #[ptr pa.S 0, ptr pm.M 0] 29 (0, 0)))[h2.size]? = some (.cells #[ptr pa.S 0, ptr pm.M 0] 29 (0, 0)) := by simp
  have Ga2 := Ga.ext X2
  have T : Two h0 (h2.push (.cells #[ptr pa.S 0, ptr pm.M 0] 29 (0, 0))) h2.size pa sa (a0 n) pm m (a0 n) :=
    ⟨Ga2.ext X3, ⟨(Gm.base X1.size).r.ext X3, Gm.i, Nat.le_trans (Gm.base X1.size).b X3.size⟩, fun k hk hm => by have := (Ga.r.lt hk).2; have := (Gm.r.lt hm).1; omega, hw, fun hk => by have := (Ga2.r.lt hk).2; omega, fun hk => by have := (Gm.r.lt hk).2; omega, (X1.trans X2).trans X3⟩
  exact .inr ⟨n, h2.size, pa, sa, pm, m, rfl, rfl, T⟩
set_option maxHeartbeats 4000000 in
theorem heapSteps_any {h0 : Heap} {lim rm : Int} {ops : List OpP} {v : Value} (SL : SlN h0 5 v ops.length (ops.flatMap OpP.row)) :
    HCalls Try.prog 3 #[.int .i64 lim, .int .i64 rm, v] h0 fun r h' => Ext h0 h' ∧ r = .bool true := by
  obtain ⟨hlen, av, ac, rfl, hav⟩ := id SL
  refine C.law5_HeapSteps_calls (args := [.int .i64 lim, .int .i64 rm, .slice av ops.length ac]) rfl ?_
  simp (disch := first | omega | assumption) only [C.law5_HeapSteps_gos, T.tv, ↓reduceIte, Nat.reduceEqDiff, reduceCtorEq, Nat.reduceLeDiff, Nat.reducePow, Int.reducePow, Int.reduceToNat, Nat.reduceAdd]
  refine eff_callF rfl (spaces_any.mono ?_)
  rintro v1 h1 (⟨⟨rfl, _⟩, rfl⟩ | ⟨n, wb, pa, sa, pm, m, rfl, rfl, T0⟩)
  · simp (disch := first | omega | assumption) only [C.law5_HeapSteps_gos, T.tv, ↓reduceIte, Nat.reduceEqDiff, reduceCtorEq, Nat.reduceLeDiff, Nat.reducePow, Int.reducePow, Int.reduceToNat, Nat.reduceAdd]
    first | exact Ext.refl _ | exact ⟨Ext.refl _, rfl⟩
  by_cases c5 : (16384 : Int) < (ops.length : Int)
  · simp (disch := first | omega | assumption) only [C.law5_HeapSteps_gos, T.tv, ↓reduceIte, Nat.reduceEqDiff, reduceCtorEq, Nat.reduceLeDiff, Nat.reducePow, Int.reducePow, Int.reduceToNat, Nat.reduceAdd, c5]
    first | exact T0.x | exact ⟨T0.x, rfl⟩
  have w0 := T0.w0
  simp (disch := first | omega | assumption) only [C.law5_HeapSteps_gos, T.tv, ↓reduceIte, Nat.reduceEqDiff, reduceCtorEq, Nat.reduceLeDiff, Nat.reducePow, Int.reducePow, Int.reduceToNat, Nat.reduceAdd, c5, w0, pn, Option.isNone_some]
  refine loop_intro [2, 6, 7, 29, 30, 31] (fun mm ρ hc => ∃ i pa sa pm m A, mm = ops.length - i ∧ i ≤ ops.length ∧ ρ = [(2, .slice av ops.length ac), (6, .bool false), (7, ptr wb 0), (29, .slice av ops.length ac), (30, .int .i64 (ops.length : Int)), (31, .int .i64 (i : Int))] ∧
    Two h0 hc wb pa sa A pm m A ∧ A.things.length ≤ i + 1) ?_ ?_
  · simp (disch := first | omega | assumption) only [C.law5_HeapSteps_gos, T.tv, ↓reduceIte, Nat.reduceEqDiff, reduceCtorEq, Nat.reduceLeDiff, Nat.reducePow, Int.reducePow, Int.reduceToNat, Nat.reduceAdd]
    exact ⟨_, 0, pa, sa, pm, m, a0 n, rfl, Nat.zero_le _, rfl, T0, Nat.le_refl _⟩
  clear T0 w0
  rintro mm ρ hc1 ⟨i, pa, sa, pm, m, A, rfl, hi, rfl, TW, hA⟩
  have hk : m.L.length ≤ 16385 := by rw [TW.b.i.len]; omega
  by_cases c1 : i < ops.length
  · obtain ⟨bb, oo, rfl, hrd⟩ : ∃ bb oo, av = some ⟨bb, oo, none⟩ ∧ Rd h0 bb oo (ops.flatMap OpP.row) := by
      rcases hav with h | ⟨b, o, h1, h2⟩
      · omega
      · exact ⟨b, o, h1, h2⟩
    have c2 : (i : Int) < (ops.length : Int) := by omega
    have b1 : (0 : Int) ≤ (i : Int) := by omega
    have w : IntKind.i64.wrap ((i : Int) + 1) = ((i + 1 : Nat) : Int) := by rw [wrap_i64 (by omega) (by omega)]; omega
    have hoi : ops[i]? = some ops[i] := by simp
    generalize ops[i] = o at hoi
    have hsub := hrd.sub (i * 5) 5
    rw [flat5 ops i o hoi] at hsub
    have hbl : bb < h0.size := hrd.lt (fun e => by rw [e] at hlen; simp only [List.length_nil] at hlen; omega)
    have lr : ld Try.prog 32 ⟨bb, oo + i * 5, none⟩ hc1 = some (.agg o.row.toArray) := by
      rw [TW.x.ld hbl]
      exact ld_agg T.ag_32 (vs := o.row) hsub rfl
    simp (disch := first | omega | assumption) only [C.law5_HeapSteps_gos, T.tv, ↓reduceIte, Nat.reduceEqDiff, reduceCtorEq, Nat.reduceLeDiff, Nat.reducePow, Int.reducePow, Int.reduceToNat, Nat.reduceAdd, c2, b1, lr]
    refine eff_alloc_z T.zr_32 ?_
    simp (disch := first | omega | assumption) only [C.law5_HeapSteps_gos, T.tv, ↓reduceIte, Nat.reduceEqDiff, reduceCtorEq, Nat.reduceLeDiff, Nat.reducePow, Int.reducePow, Int.reduceToNat, Nat.reduceAdd]
    refine eff_store_new_z T.zr_32 rfl rfl rfl (by intro u hu; simp only [Value.cells, OpP.row, List.mem_cons, List.not_mem_nil, or_false] at hu; rcases hu with rfl | rfl | rfl | rfl | rfl <;> rfl) rfl ?_
    intro h3 X3 s3 rd3 g3
    have T3 := TW.ext X3
    have lq : ld Try.prog 32 ⟨hc1.size, 0, none⟩ h3 = some (.agg o.row.toArray) := ld_agg T.ag_32 (vs := o.row) rd3 rfl
    simp (disch := first | omega | assumption) only [C.law5_HeapSteps_gos, T.tv, ↓reduceIte, Nat.reduceEqDiff, reduceCtorEq, Nat.reduceLeDiff, Nat.reducePow, Int.reducePow, Int.reduceToNat, Nat.reduceAdd, lq]
    refine eff_callF rfl ((step_any T3 hk o).mono ?_)
    rintro v4 h4 ⟨⟨pa4, sa4, pm4, m4, T4⟩, rfl⟩
    simp (disch := first | omega | assumption) only [C.law5_HeapSteps_gos, T.tv, ↓reduceIte, Nat.reduceEqDiff, reduceCtorEq, Nat.reduceLeDiff, Nat.reducePow, Int.reducePow, Int.reduceToNat, Nat.reduceAdd, w]
    have al := ans_len A o
    exact ⟨_, by omega, i + 1, pa4, sa4, pm4, m4, (ans A o).1, rfl, by omega, rfl, T4, by omega⟩
  · have c2 : ¬ (i : Int) < (ops.length : Int) := by omega
    have w0 := TW.w0
    have w1 := TW.w1
    simp (disch := first | omega | assumption) only [C.law5_HeapSteps_gos, T.tv, ↓reduceIte, Nat.reduceEqDiff, reduceCtorEq, Nat.reduceLeDiff, Nat.reducePow, Int.reducePow, Int.reduceToNat, Nat.reduceAdd, c2, w0, w1]
    refine eff_callF rfl ((sMajor_any TW.a).mono ?_)
    rintro v4 h4 ⟨N4, n1, t1, rfl⟩
    obtain ⟨pa4, sa4, T4, e4, _⟩ := TW.left N4
    have u0 := T4.w0
    have u1 := T4.w1
    rw [e4] at u0
    simp (disch := first | omega | assumption) only [C.law5_HeapSteps_gos, T.tv, ↓reduceIte, Nat.reduceEqDiff, reduceCtorEq, Nat.reduceLeDiff, Nat.reducePow, Int.reducePow, Int.reduceToNat, Nat.reduceAdd, u0, u1]
    refine eff_callF rfl ((mMajor_any T4.b hk).mono ?_)
    rintro v5 h5 ⟨n2, m2, t2, rfl, S, I, _, _⟩
    obtain ⟨pm5, m5, T5, _⟩ := T4.right ⟨_, _, S, rfl, I⟩
    have e := t1.uniq t2
    subst e
    simp (disch := first | omega | assumption) only [C.law5_HeapSteps_gos, T.tv, ↓reduceIte, Nat.reduceEqDiff, reduceCtorEq, Nat.reduceLeDiff, Nat.reducePow, Int.reducePow, Int.reduceToNat, Nat.reduceAdd]
    first | exact T5.x | exact ⟨T5.x, rfl⟩
end Go.Proofs.Ytidkokdkldfglaa
