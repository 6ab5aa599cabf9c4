/- The reference's map. -/
import Derived.Test.YthhfbnkmhgadaaaM7
namespace Go.Proofs.Ythhfbnkmhgadaaa
open Go.Vc
set_option maxRecDepth 100000
set_option linter.unusedSimpArgs false
set_option linter.unusedVariables false
theorem like_same {L loc : List VT} (hn : L.length = loc.length) : likeS L loc = decide (L = loc) := by
  unfold likeS
  have h1 : min L.length loc.length = L.length := by omega
  rw [h1, List.take_length, hn, List.take_length]
theorem like_short {L loc : List VT} (hn : L.length ≤ loc.length) : likeS L loc = decide (L = loc.take L.length) := by
  unfold likeS
  have h1 : min L.length loc.length = L.length := by omega
  rw [h1, List.take_length]
theorem like_long {L loc : List VT} (hn : loc.length ≤ L.length) : likeS L loc = decide (L.take loc.length = loc) := by
  unfold likeS
  have h1 : min L.length loc.length = loc.length := by omega
  rw [h1, List.take_length]

set_option maxHeartbeats 16000000 in
theorem rmapWrite_any (l : List Frm) (p : List Cst) (first : List VT) (v vp vf : Value) (h : Heap) (hl : FrsC h v l) (hlf : ∀ f ∈ l, f.Fit) (hll : l.length ≤ 1073741824) (hfl : first.length ≤ 1073741824)
    (hLl : ∀ f ∈ l, f.L.length ≤ 1073741824 ∧ f.S.length ≤ 1073741824)
    (hp : SlN h 5 vp p.length (flatS p)) (hpf : ∀ c ∈ p, c.Fit) (hpl : p.length ≤ 1099511627776) (hf : SlN h 3 vf first.length (flatV first)) (hfc : capOk vf) :
    HCalls Try.prog 9 #[v, vp, vf] h fun r h' => Ext h h' ∧ r = mapV (mapS p first l) := by
  refine C.ref3_WriteMap_calls (args := [v, vp, vf]) rfl ?_
  obtain ⟨rows, hr1, hr2, hr3⟩ := id hl
  have hr2' := hr2
  have hp' := hp
  have hf' := hf
  obtain ⟨_, a, c, rfl, _⟩ := hr2'
  obtain ⟨_, ap, cp, rfl, _⟩ := hp'
  obtain ⟨_, af, cf, rfl, _⟩ := hf'
  by_cases hbig : 65535 < l.length
  · have hbig' : (65535 : Int) < l.length := by omega
    have hS : mapS p first l = ([], 12, 0) := if_pos hbig
    rw [hS]
    simp (disch := first | omega | assumption) only [C.ref3_WriteMap_gos, vs, T.ts, and_true, true_and, List.getElem?_toArray, List.getElem?_cons_zero, List.getElem?_cons_succ, ↓reduceIte, Nat.reduceEqDiff, Option.bind_some, Option.map_some, Option.isSome_some, ne_eq, Bool.not_true, Bool.not_false, Bool.true_eq_false, Bool.false_eq_true, Bool.not_eq_true', Bool.not_eq_false', reduceCtorEq, Option.some.injEq, decide_eq_true_eq, decide_eq_false_iff_not, not_true_eq_false, not_false_eq_true, decide_true, decide_false, List.size_toArray, List.length_cons, List.length_nil, List.cons_append, List.nil_append, List.append_nil, List.map_cons, List.map_nil, Array.size_push, Int.toNat_natCast, List.toList_toArray, Nat.min_def, Nat.reduceLeDiff, Nat.reducePow, Int.reducePow, Int.reduceToNat, Int.tdiv_eq_ediv_of_nonneg, Int.tmod_eq_emod_of_nonneg, Int.fdiv_eq_ediv_of_nonneg, Nat.mul_one, Nat.reduceAdd, Nat.zero_add, Nat.add_zero, implies_true, false_implies, true_implies, hbig']
    exact ⟨Ext.refl _, rfl⟩
  have hbig' : ¬ (65535 : Int) < l.length := by omega
  have hS : mapS p first l = mapR p l (-1) first 0 (bigS l.length 2) := if_neg hbig
  rw [hS]
  generalize hX : mapR p l (-1) first 0 (bigS l.length 2) = X
  have hwl : IntKind.u64.wrap (l.length : Int) = (l.length : Int) := wrap_u64 (by omega) (by omega)
  simp (disch := first | omega | assumption) only [C.ref3_WriteMap_gos, vs, T.ts, and_true, true_and, List.getElem?_toArray, List.getElem?_cons_zero, List.getElem?_cons_succ, ↓reduceIte, Nat.reduceEqDiff, Option.bind_some, Option.map_some, Option.isSome_some, ne_eq, Bool.not_true, Bool.not_false, Bool.true_eq_false, Bool.false_eq_true, Bool.not_eq_true', Bool.not_eq_false', reduceCtorEq, Option.some.injEq, decide_eq_true_eq, decide_eq_false_iff_not, not_true_eq_false, not_false_eq_true, decide_true, decide_false, List.size_toArray, List.length_cons, List.length_nil, List.cons_append, List.nil_append, List.append_nil, List.map_cons, List.map_nil, Array.size_push, Int.toNat_natCast, List.toList_toArray, Nat.min_def, Nat.reduceLeDiff, Nat.reducePow, Int.reducePow, Int.reduceToNat, Int.tdiv_eq_ediv_of_nonneg, Int.tmod_eq_emod_of_nonneg, Int.fdiv_eq_ediv_of_nonneg, Nat.mul_one, Nat.reduceAdd, Nat.zero_add, Nat.add_zero, implies_true, false_implies, true_implies, hbig', hwl]
  refine eff_call_of ?_
  simp (disch := first | omega | assumption) only [C.ref3_WriteMap_gos, vs, T.ts, and_true, true_and, List.getElem?_toArray, List.getElem?_cons_zero, List.getElem?_cons_succ, ↓reduceIte, Nat.reduceEqDiff, Option.bind_some, Option.map_some, Option.isSome_some, ne_eq, Bool.not_true, Bool.not_false, Bool.true_eq_false, Bool.false_eq_true, Bool.not_eq_true', Bool.not_eq_false', reduceCtorEq, Option.some.injEq, decide_eq_true_eq, decide_eq_false_iff_not, not_true_eq_false, not_false_eq_true, decide_true, decide_false, List.size_toArray, List.length_cons, List.length_nil, List.cons_append, List.nil_append, List.append_nil, List.map_cons, List.map_nil, Array.size_push, Int.toNat_natCast, List.toList_toArray, Nat.min_def, Nat.reduceLeDiff, Nat.reducePow, Int.reducePow, Int.reduceToNat, Int.tdiv_eq_ediv_of_nonneg, Int.tmod_eq_emod_of_nonneg, Int.fdiv_eq_ediv_of_nonneg, Nat.mul_one, Nat.reduceAdd, Nat.zero_add, Nat.add_zero, implies_true, false_implies, true_implies]
  have hbg := rbig_any l.length 2 h (by omega) (by omega)
  rw [show ((2 : Nat) : Int) = 2 from rfl] at hbg
  refine hbg.mono ?_
  rintro v1 h1 ⟨x1, rfl⟩
  simp (disch := first | omega | assumption) only [C.ref3_WriteMap_gos, vs, T.ts, and_true, true_and, List.getElem?_toArray, List.getElem?_cons_zero, List.getElem?_cons_succ, ↓reduceIte, Nat.reduceEqDiff, Option.bind_some, Option.map_some, Option.isSome_some, ne_eq, Bool.not_true, Bool.not_false, Bool.true_eq_false, Bool.false_eq_true, Bool.not_eq_true', Bool.not_eq_false', reduceCtorEq, Option.some.injEq, decide_eq_true_eq, decide_eq_false_iff_not, not_true_eq_false, not_false_eq_true, decide_true, decide_false, List.size_toArray, List.length_cons, List.length_nil, List.cons_append, List.nil_append, List.append_nil, List.map_cons, List.map_nil, Array.size_push, Int.toNat_natCast, List.toList_toArray, Nat.min_def, Nat.reduceLeDiff, Nat.reducePow, Int.reducePow, Int.reduceToNat, Int.tdiv_eq_ediv_of_nonneg, Int.tmod_eq_emod_of_nonneg, Int.fdiv_eq_ediv_of_nonneg, Nat.mul_one, Nat.reduceAdd, Nat.zero_add, Nat.add_zero, implies_true, false_implies, true_implies]
  refine eff_bytes_of (base := h.size) Try.underlying9 Try.underlying43 Try.underlying5 rfl x1.size (by rw [bigS_len]; decide) ?_
  intro sv h2 own2 x2
  simp (disch := first | omega | assumption) only [C.ref3_WriteMap_gos, vs, T.ts, and_true, true_and, List.getElem?_toArray, List.getElem?_cons_zero, List.getElem?_cons_succ, ↓reduceIte, Nat.reduceEqDiff, Option.bind_some, Option.map_some, Option.isSome_some, ne_eq, Bool.not_true, Bool.not_false, Bool.true_eq_false, Bool.false_eq_true, Bool.not_eq_true', Bool.not_eq_false', reduceCtorEq, Option.some.injEq, decide_eq_true_eq, decide_eq_false_iff_not, not_true_eq_false, not_false_eq_true, decide_true, decide_false, List.size_toArray, List.length_cons, List.length_nil, List.cons_append, List.nil_append, List.append_nil, List.map_cons, List.map_nil, Array.size_push, Int.toNat_natCast, List.toList_toArray, Nat.min_def, Nat.reduceLeDiff, Nat.reducePow, Int.reducePow, Int.reduceToNat, Int.tdiv_eq_ediv_of_nonneg, Int.tmod_eq_emod_of_nonneg, Int.fdiv_eq_ediv_of_nonneg, Nat.mul_one, Nat.reduceAdd, Nat.zero_add, Nat.add_zero, implies_true, false_implies, true_implies]
  refine loop_intro [1, 9, 10, 11, 33, 34, 35] (fun m ρ hc => ∃ (i : Nat) (place : Int) (loc : List VT) (vl sv : Value) (out : List UInt8), m = l.length - i ∧ i ≤ l.length ∧
      ρ = [(1, .slice ap p.length cp), (9, sv), (10, vl), (11, .int .i64 place), (33, .slice a l.length c), (34, .int .i64 l.length), (35, .int .i64 i)] ∧
      Own hc h.size 5 1 sv out.length (bytesV out) ∧ Ext h hc ∧ SlN h 3 vl loc.length (flatV loc) ∧ capOk vl ∧ loc.length ≤ 1073741824 ∧ -1 ≤ place ∧ place ≤ 65535 ∧ out.length ≤ 2 + i * 400000 ∧ mapR p (l.drop i) place loc i out = X) ?_ ?_
  · simp (disch := first | omega | assumption) only [C.ref3_WriteMap_gos, vs, T.ts, and_true, true_and, List.getElem?_toArray, List.getElem?_cons_zero, List.getElem?_cons_succ, ↓reduceIte, Nat.reduceEqDiff, Option.bind_some, Option.map_some, Option.isSome_some, ne_eq, Bool.not_true, Bool.not_false, Bool.true_eq_false, Bool.false_eq_true, Bool.not_eq_true', Bool.not_eq_false', reduceCtorEq, Option.some.injEq, decide_eq_true_eq, decide_eq_false_iff_not, not_true_eq_false, not_false_eq_true, decide_true, decide_false, List.size_toArray, List.length_cons, List.length_nil, List.cons_append, List.nil_append, List.append_nil, List.map_cons, List.map_nil, Array.size_push, Int.toNat_natCast, List.toList_toArray, Nat.min_def, Nat.reduceLeDiff, Nat.reducePow, Int.reducePow, Int.reduceToNat, Int.tdiv_eq_ediv_of_nonneg, Int.tmod_eq_emod_of_nonneg, Int.fdiv_eq_ediv_of_nonneg, Nat.mul_one, Nat.reduceAdd, Nat.zero_add, Nat.add_zero, implies_true, false_implies, true_implies]
    exact ⟨_, 0, -1, first, _, _, _, rfl, Nat.zero_le _, rfl, own2, x1.trans x2, hf, hfc, hfl, by omega, by omega, by rw [bigS_len]; omega, hX⟩
  rintro m ρ hc ⟨i, place, loc, vl, sv, out, rfl, hi, rfl, hown, hx, hloc, hlocc, hlocl, hpl1, hpl2, hout, hR⟩
  have hlocv := hloc
  obtain ⟨_, al, cl, rfl, _⟩ := hlocv
  have hcl : loc.length ≤ cl := hlocc
  rcases Nat.lt_or_ge i l.length with hlt | hge
  case inr =>
    have hlt' : ¬ (i : Int) < l.length := by omega
    have hd : l.drop i = [] := by rw [List.drop_eq_nil_iff]; omega
    rw [hd] at hR
    have hX2 : X = (out, 0, 0) := hR.symm
    subst hX2
    simp (disch := first | omega | assumption) only [C.ref3_WriteMap_gos, vs, T.ts, and_true, true_and, List.getElem?_toArray, List.getElem?_cons_zero, List.getElem?_cons_succ, ↓reduceIte, Nat.reduceEqDiff, Option.bind_some, Option.map_some, Option.isSome_some, ne_eq, Bool.not_true, Bool.not_false, Bool.true_eq_false, Bool.false_eq_true, Bool.not_eq_true', Bool.not_eq_false', reduceCtorEq, Option.some.injEq, decide_eq_true_eq, decide_eq_false_iff_not, not_true_eq_false, not_false_eq_true, decide_true, decide_false, List.size_toArray, List.length_cons, List.length_nil, List.cons_append, List.nil_append, List.append_nil, List.map_cons, List.map_nil, Array.size_push, Int.toNat_natCast, List.toList_toArray, Nat.min_def, Nat.reduceLeDiff, Nat.reducePow, Int.reducePow, Int.reduceToNat, Int.tdiv_eq_ediv_of_nonneg, Int.tmod_eq_emod_of_nonneg, Int.fdiv_eq_ediv_of_nonneg, Nat.mul_one, Nat.reduceAdd, Nat.zero_add, Nat.add_zero, implies_true, false_implies, true_implies, hlt', T.cvo_43_9 hown]
    exact ⟨hx, rfl⟩
  have hlt' : (i : Int) < l.length := by omega
  rw [mapR_step hlt] at hR
  simp only at hR
  obtain ⟨b, o, c', vL, vS, heq, hrd0, sL, cL, sS, cS⟩ := hl.at hlt
  cases heq
  have hfit : (l.getD i ⟨0, [], []⟩).Fit := hlf _ (by simp [hlt])
  have hll2 := hLl (l.getD i ⟨0, [], []⟩) (by simp [hlt])
  generalize l.getD i ⟨0, [], []⟩ = f at *
  obtain ⟨fat, L, S⟩ := f
  simp only at hrd0 sL sS hR hll2
  have hrd : Rd hc b (o + i * 3) [.int .i64 fat, vL, vS] := hx.rd hrd0 (hrd0.lt (by simp)) id
  have hld := ld_agg T.ag_41 hrd rfl
  have sL' := sL
  have sS' := sS
  obtain ⟨_, aL, kL, rfl, _⟩ := sL'
  obtain ⟨_, aS, kS, rfl, _⟩ := sS'
  have hcL : L.length ≤ kL := cL
  have hflo : -9223372036854775808 ≤ fat := hfit.lo
  have hfhi : fat < 9223372036854775808 := hfit.hi
  simp (disch := first | omega | assumption) only [C.ref3_WriteMap_gos, vs, T.ts, and_true, true_and, List.getElem?_toArray, List.getElem?_cons_zero, List.getElem?_cons_succ, ↓reduceIte, Nat.reduceEqDiff, Option.bind_some, Option.map_some, Option.isSome_some, ne_eq, Bool.not_true, Bool.not_false, Bool.true_eq_false, Bool.false_eq_true, Bool.not_eq_true', Bool.not_eq_false', reduceCtorEq, Option.some.injEq, decide_eq_true_eq, decide_eq_false_iff_not, not_true_eq_false, not_false_eq_true, decide_true, decide_false, List.size_toArray, List.length_cons, List.length_nil, List.cons_append, List.nil_append, List.append_nil, List.map_cons, List.map_nil, Array.size_push, Int.toNat_natCast, List.toList_toArray, Nat.min_def, Nat.reduceLeDiff, Nat.reducePow, Int.reducePow, Int.reduceToNat, Int.tdiv_eq_ediv_of_nonneg, Int.tmod_eq_emod_of_nonneg, Int.fdiv_eq_ediv_of_nonneg, Nat.mul_one, Nat.reduceAdd, Nat.zero_add, Nat.add_zero, implies_true, false_implies, true_implies, hlt', hld]
  refine eff_alloc_z T.zr_41 ?_
  simp (disch := first | omega | assumption) only [C.ref3_WriteMap_gos, vs, T.ts, and_true, true_and, List.getElem?_toArray, List.getElem?_cons_zero, List.getElem?_cons_succ, ↓reduceIte, Nat.reduceEqDiff, Option.bind_some, Option.map_some, Option.isSome_some, ne_eq, Bool.not_true, Bool.not_false, Bool.true_eq_false, Bool.false_eq_true, Bool.not_eq_true', Bool.not_eq_false', reduceCtorEq, Option.some.injEq, decide_eq_true_eq, decide_eq_false_iff_not, not_true_eq_false, not_false_eq_true, decide_true, decide_false, List.size_toArray, List.length_cons, List.length_nil, List.cons_append, List.nil_append, List.append_nil, List.map_cons, List.map_nil, Array.size_push, Int.toNat_natCast, List.toList_toArray, Nat.min_def, Nat.reduceLeDiff, Nat.reducePow, Int.reducePow, Int.reduceToNat, Int.tdiv_eq_ediv_of_nonneg, Int.tmod_eq_emod_of_nonneg, Int.fdiv_eq_ediv_of_nonneg, Nat.mul_one, Nat.reduceAdd, Nat.zero_add, Nat.add_zero, implies_true, false_implies, true_implies]
  refine eff_store_new_z T.zr_41 rfl rfl rfl (by simp [Value.cells, oneCell]) rfl ?_
  intro h3 x3 hlt3 hrd3 b3
  change h3[hc.size]? = some (.cells #[.int .i64 fat, .slice aL L.length kL, .slice aS S.length kS] 41 (0, 0)) at b3
  have c0 : cellAt h3 ⟨hc.size, 0, none⟩ = some (.int .i64 fat) := hrd3 0 _ rfl
  have c1 : cellAt h3 ⟨hc.size, 1, none⟩ = some (.slice aL L.length kL) := hrd3 1 _ rfl
  have c2 : cellAt h3 ⟨hc.size, 2, none⟩ = some (.slice aS S.length kS) := hrd3 2 _ rfl
  have hx3 := hx.trans x3
  have own3 := hown.ext x3
  clear hld hrd hrd3 hown
  generalize hc.size = q at *
  by_cases hbad : fat ≤ place ∨ 65535 < fat ∨ 65535 < L.length ∨ 65535 < S.length
  · rw [if_pos hbad] at hR
    subst hR
    by_cases g1 : fat ≤ place
    · simp (disch := first | omega | assumption) only [C.ref3_WriteMap_gos, vs, T.ts, and_true, true_and, List.getElem?_toArray, List.getElem?_cons_zero, List.getElem?_cons_succ, ↓reduceIte, Nat.reduceEqDiff, Option.bind_some, Option.map_some, Option.isSome_some, ne_eq, Bool.not_true, Bool.not_false, Bool.true_eq_false, Bool.false_eq_true, Bool.not_eq_true', Bool.not_eq_false', reduceCtorEq, Option.some.injEq, decide_eq_true_eq, decide_eq_false_iff_not, not_true_eq_false, not_false_eq_true, decide_true, decide_false, List.size_toArray, List.length_cons, List.length_nil, List.cons_append, List.nil_append, List.append_nil, List.map_cons, List.map_nil, Array.size_push, Int.toNat_natCast, List.toList_toArray, Nat.min_def, Nat.reduceLeDiff, Nat.reducePow, Int.reducePow, Int.reduceToNat, Int.tdiv_eq_ediv_of_nonneg, Int.tmod_eq_emod_of_nonneg, Int.fdiv_eq_ediv_of_nonneg, Nat.mul_one, Nat.reduceAdd, Nat.zero_add, Nat.add_zero, implies_true, false_implies, true_implies, c0, c1, c2, g1]
      exact ⟨hx3, rfl⟩
    by_cases g2 : 65535 < fat
    · simp (disch := first | omega | assumption) only [C.ref3_WriteMap_gos, vs, T.ts, and_true, true_and, List.getElem?_toArray, List.getElem?_cons_zero, List.getElem?_cons_succ, ↓reduceIte, Nat.reduceEqDiff, Option.bind_some, Option.map_some, Option.isSome_some, ne_eq, Bool.not_true, Bool.not_false, Bool.true_eq_false, Bool.false_eq_true, Bool.not_eq_true', Bool.not_eq_false', reduceCtorEq, Option.some.injEq, decide_eq_true_eq, decide_eq_false_iff_not, not_true_eq_false, not_false_eq_true, decide_true, decide_false, List.size_toArray, List.length_cons, List.length_nil, List.cons_append, List.nil_append, List.append_nil, List.map_cons, List.map_nil, Array.size_push, Int.toNat_natCast, List.toList_toArray, Nat.min_def, Nat.reduceLeDiff, Nat.reducePow, Int.reducePow, Int.reduceToNat, Int.tdiv_eq_ediv_of_nonneg, Int.tmod_eq_emod_of_nonneg, Int.fdiv_eq_ediv_of_nonneg, Nat.mul_one, Nat.reduceAdd, Nat.zero_add, Nat.add_zero, implies_true, false_implies, true_implies, c0, c1, c2, g1, g2]
      exact ⟨hx3, rfl⟩
    by_cases g3 : 65535 < L.length
    · have g3' : (65535 : Int) < L.length := by omega
      simp (disch := first | omega | assumption) only [C.ref3_WriteMap_gos, vs, T.ts, and_true, true_and, List.getElem?_toArray, List.getElem?_cons_zero, List.getElem?_cons_succ, ↓reduceIte, Nat.reduceEqDiff, Option.bind_some, Option.map_some, Option.isSome_some, ne_eq, Bool.not_true, Bool.not_false, Bool.true_eq_false, Bool.false_eq_true, Bool.not_eq_true', Bool.not_eq_false', reduceCtorEq, Option.some.injEq, decide_eq_true_eq, decide_eq_false_iff_not, not_true_eq_false, not_false_eq_true, decide_true, decide_false, List.size_toArray, List.length_cons, List.length_nil, List.cons_append, List.nil_append, List.append_nil, List.map_cons, List.map_nil, Array.size_push, Int.toNat_natCast, List.toList_toArray, Nat.min_def, Nat.reduceLeDiff, Nat.reducePow, Int.reducePow, Int.reduceToNat, Int.tdiv_eq_ediv_of_nonneg, Int.tmod_eq_emod_of_nonneg, Int.fdiv_eq_ediv_of_nonneg, Nat.mul_one, Nat.reduceAdd, Nat.zero_add, Nat.add_zero, implies_true, false_implies, true_implies, c0, c1, c2, g1, g2, g3']
      exact ⟨hx3, rfl⟩
    have g3' : ¬ (65535 : Int) < L.length := by omega
    have g4' : (65535 : Int) < S.length := by omega
    simp (disch := first | omega | assumption) only [C.ref3_WriteMap_gos, vs, T.ts, and_true, true_and, List.getElem?_toArray, List.getElem?_cons_zero, List.getElem?_cons_succ, ↓reduceIte, Nat.reduceEqDiff, Option.bind_some, Option.map_some, Option.isSome_some, ne_eq, Bool.not_true, Bool.not_false, Bool.true_eq_false, Bool.false_eq_true, Bool.not_eq_true', Bool.not_eq_false', reduceCtorEq, Option.some.injEq, decide_eq_true_eq, decide_eq_false_iff_not, not_true_eq_false, not_false_eq_true, decide_true, decide_false, List.size_toArray, List.length_cons, List.length_nil, List.cons_append, List.nil_append, List.append_nil, List.map_cons, List.map_nil, Array.size_push, Int.toNat_natCast, List.toList_toArray, Nat.min_def, Nat.reduceLeDiff, Nat.reducePow, Int.reducePow, Int.reduceToNat, Int.tdiv_eq_ediv_of_nonneg, Int.tmod_eq_emod_of_nonneg, Int.fdiv_eq_ediv_of_nonneg, Nat.mul_one, Nat.reduceAdd, Nat.zero_add, Nat.add_zero, implies_true, false_implies, true_implies, c0, c1, c2, g1, g2, g3', g4']
    exact ⟨hx3, rfl⟩
  rw [if_neg hbad] at hR
  have g1 : ¬ fat ≤ place := fun h => hbad (.inl h)
  have g2 : ¬ 65535 < fat := fun h => hbad (.inr (.inl h))
  have g3 : ¬ 65535 < L.length := fun h => hbad (.inr (.inr (.inl h)))
  have g4 : ¬ 65535 < S.length := fun h => hbad (.inr (.inr (.inr h)))
  have g3' : ¬ (65535 : Int) < L.length := by omega
  have g4' : ¬ (65535 : Int) < S.length := by omega
  obtain ⟨d, hd⟩ : ∃ d : Nat, d = (fat - place - 1).toNat := ⟨_, rfl⟩
  have hdd : fat - place - 1 = (d : Int) := by omega
  have hd16 : d < 65536 := by omega
  rw [← hd] at hR
  have hvS := valsS_len p S
  have hvL := valsS_len p L
  simp (disch := first | omega | assumption) only [C.ref3_WriteMap_gos, vs, T.ts, and_true, true_and, List.getElem?_toArray, List.getElem?_cons_zero, List.getElem?_cons_succ, ↓reduceIte, Nat.reduceEqDiff, Option.bind_some, Option.map_some, Option.isSome_some, ne_eq, Bool.not_true, Bool.not_false, Bool.true_eq_false, Bool.false_eq_true, Bool.not_eq_true', Bool.not_eq_false', reduceCtorEq, Option.some.injEq, decide_eq_true_eq, decide_eq_false_iff_not, not_true_eq_false, not_false_eq_true, decide_true, decide_false, List.size_toArray, List.length_cons, List.length_nil, List.cons_append, List.nil_append, List.append_nil, List.map_cons, List.map_nil, Array.size_push, Int.toNat_natCast, List.toList_toArray, Nat.min_def, Nat.reduceLeDiff, Nat.reducePow, Int.reducePow, Int.reduceToNat, Int.tdiv_eq_ediv_of_nonneg, Int.tmod_eq_emod_of_nonneg, Int.fdiv_eq_ediv_of_nonneg, Nat.mul_one, Nat.reduceAdd, Nat.zero_add, Nat.add_zero, implies_true, false_implies, true_implies, c0, c1, c2, g1, g2, g3', g4', hdd]
  refine eff_call_of ?_
  simp (disch := first | omega | assumption) only [C.ref3_WriteMap_gos, vs, T.ts, and_true, true_and, List.getElem?_toArray, List.getElem?_cons_zero, List.getElem?_cons_succ, ↓reduceIte, Nat.reduceEqDiff, Option.bind_some, Option.map_some, Option.isSome_some, ne_eq, Bool.not_true, Bool.not_false, Bool.true_eq_false, Bool.false_eq_true, Bool.not_eq_true', Bool.not_eq_false', reduceCtorEq, Option.some.injEq, decide_eq_true_eq, decide_eq_false_iff_not, not_true_eq_false, not_false_eq_true, decide_true, decide_false, List.size_toArray, List.length_cons, List.length_nil, List.cons_append, List.nil_append, List.append_nil, List.map_cons, List.map_nil, Array.size_push, Int.toNat_natCast, List.toList_toArray, Nat.min_def, Nat.reduceLeDiff, Nat.reducePow, Int.reducePow, Int.reduceToNat, Int.tdiv_eq_ediv_of_nonneg, Int.tmod_eq_emod_of_nonneg, Int.fdiv_eq_ediv_of_nonneg, Nat.mul_one, Nat.reduceAdd, Nat.zero_add, Nat.add_zero, implies_true, false_implies, true_implies]
  refine (told_any S p _ _ h3 (sS.ext (by decide) hx3) hfit.S (by omega) (hp.ext (by decide) hx3) hpf hpl).mono ?_
  rintro v4 h4 ⟨x4, rfl⟩
  have b4 := Fr_blk x4 b3 id
  have own4 := own3.ext x4
  have hx4 := hx3.trans x4
  have d1 : cellAt h4 ⟨q, 1, none⟩ = some (.slice aL L.length kL) := by rw [cellAt_of b4]; rfl
  have hwd : IntKind.u64.wrap (d : Int) = (d : Int) := wrap_u64 (by omega) (by omega)
  simp (disch := first | omega | assumption) only [C.ref3_WriteMap_gos, vs, T.ts, and_true, true_and, List.getElem?_toArray, List.getElem?_cons_zero, List.getElem?_cons_succ, ↓reduceIte, Nat.reduceEqDiff, Option.bind_some, Option.map_some, Option.isSome_some, ne_eq, Bool.not_true, Bool.not_false, Bool.true_eq_false, Bool.false_eq_true, Bool.not_eq_true', Bool.not_eq_false', reduceCtorEq, Option.some.injEq, decide_eq_true_eq, decide_eq_false_iff_not, not_true_eq_false, not_false_eq_true, decide_true, decide_false, List.size_toArray, List.length_cons, List.length_nil, List.cons_append, List.nil_append, List.append_nil, List.map_cons, List.map_nil, Array.size_push, Int.toNat_natCast, List.toList_toArray, Nat.min_def, Nat.reduceLeDiff, Nat.reducePow, Int.reducePow, Int.reduceToNat, Int.tdiv_eq_ediv_of_nonneg, Int.tmod_eq_emod_of_nonneg, Int.fdiv_eq_ediv_of_nonneg, Nat.mul_one, Nat.reduceAdd, Nat.zero_add, Nat.add_zero, implies_true, false_implies, true_implies, d1, hwd]
  refine eff_call_of ?_
  simp (disch := first | omega | assumption) only [C.ref3_WriteMap_gos, vs, T.ts, and_true, true_and, List.getElem?_toArray, List.getElem?_cons_zero, List.getElem?_cons_succ, ↓reduceIte, Nat.reduceEqDiff, Option.bind_some, Option.map_some, Option.isSome_some, ne_eq, Bool.not_true, Bool.not_false, Bool.true_eq_false, Bool.false_eq_true, Bool.not_eq_true', Bool.not_eq_false', reduceCtorEq, Option.some.injEq, decide_eq_true_eq, decide_eq_false_iff_not, not_true_eq_false, not_false_eq_true, decide_true, decide_false, List.size_toArray, List.length_cons, List.length_nil, List.cons_append, List.nil_append, List.append_nil, List.map_cons, List.map_nil, Array.size_push, Int.toNat_natCast, List.toList_toArray, Nat.min_def, Nat.reduceLeDiff, Nat.reducePow, Int.reducePow, Int.reduceToNat, Int.tdiv_eq_ediv_of_nonneg, Int.tmod_eq_emod_of_nonneg, Int.fdiv_eq_ediv_of_nonneg, Nat.mul_one, Nat.reduceAdd, Nat.zero_add, Nat.add_zero, implies_true, false_implies, true_implies]
  refine (rbig_any d 2 h4 (by omega) (by omega)).mono ?_
  rintro v5 h5 ⟨x5, rfl⟩
  have b5 := Fr_blk x5 b4 id
  have own5 := own4.ext x5
  have hx5 := hx4.trans x5
  have e0 : cellAt h5 ⟨q, 0, none⟩ = some (.int .i64 fat) := by rw [cellAt_of b5]; rfl
  have e1 : cellAt h5 ⟨q, 1, none⟩ = some (.slice aL L.length kL) := by rw [cellAt_of b5]; rfl
  have e2 : cellAt h5 ⟨q, 2, none⟩ = some (.slice aS S.length kS) := by rw [cellAt_of b5]; rfl
  have sL5 := sL.ext (by decide) hx5
  have sl5 := hloc.ext (by decide) hx5
  clear b3 b4 own3 own4 c0 c1 c2 d1 x3 x4 x5 hx3 hx4 hlt3 hx
  have hone : ∀ n : Nat, (bigS d 2).length = 2 := fun _ => bigS_len
  have hlen2 : (bigS d 2).length = 2 := bigS_len
  simp (disch := first | omega | assumption) only [C.ref3_WriteMap_gos, vs, T.ts, and_true, true_and, List.getElem?_toArray, List.getElem?_cons_zero, List.getElem?_cons_succ, ↓reduceIte, Nat.reduceEqDiff, Option.bind_some, Option.map_some, Option.isSome_some, ne_eq, Bool.not_true, Bool.not_false, Bool.true_eq_false, Bool.false_eq_true, Bool.not_eq_true', Bool.not_eq_false', reduceCtorEq, Option.some.injEq, decide_eq_true_eq, decide_eq_false_iff_not, not_true_eq_false, not_false_eq_true, decide_true, decide_false, List.size_toArray, List.length_cons, List.length_nil, List.cons_append, List.nil_append, List.append_nil, List.map_cons, List.map_nil, Array.size_push, Int.toNat_natCast, List.toList_toArray, Nat.min_def, Nat.reduceLeDiff, Nat.reducePow, Int.reducePow, Int.reduceToNat, Int.tdiv_eq_ediv_of_nonneg, Int.tmod_eq_emod_of_nonneg, Int.fdiv_eq_ediv_of_nonneg, Nat.mul_one, Nat.reduceAdd, Nat.zero_add, Nat.add_zero, implies_true, false_implies, true_implies, e1, e2]
  refine eff_call_of ?_
  simp (disch := first | omega | assumption) only [C.ref3_WriteMap_gos, vs, T.ts, and_true, true_and, List.getElem?_toArray, List.getElem?_cons_zero, List.getElem?_cons_succ, ↓reduceIte, Nat.reduceEqDiff, Option.bind_some, Option.map_some, Option.isSome_some, ne_eq, Bool.not_true, Bool.not_false, Bool.true_eq_false, Bool.false_eq_true, Bool.not_eq_true', Bool.not_eq_false', reduceCtorEq, Option.some.injEq, decide_eq_true_eq, decide_eq_false_iff_not, not_true_eq_false, not_false_eq_true, decide_true, decide_false, List.size_toArray, List.length_cons, List.length_nil, List.cons_append, List.nil_append, List.append_nil, List.map_cons, List.map_nil, Array.size_push, Int.toNat_natCast, List.toList_toArray, Nat.min_def, Nat.reduceLeDiff, Nat.reducePow, Int.reducePow, Int.reduceToNat, Int.tdiv_eq_ediv_of_nonneg, Int.tmod_eq_emod_of_nonneg, Int.fdiv_eq_ediv_of_nonneg, Nat.mul_one, Nat.reduceAdd, Nat.zero_add, Nat.add_zero, implies_true, false_implies, true_implies]
  refine (same3_any L loc _ _ _ _ rfl rfl sL5 sl5 (by omega)).mono ?_
  rintro v6 h6 ⟨rfl, rfl⟩
  by_cases hsame : L = loc
  case pos =>
    have hdt : decide (L = loc) = true := decide_eq_true hsame
    rw [hdt]
    have hn : L.length = loc.length := by rw [hsame]
    have hk : likeS L loc = true := by rw [like_same hn, hdt]
    by_cases hs0 : S.length = 0
    case pos =>
      have hs0' : (S.length : Int) = 0 := by omega
      have hSn : S = [] := List.length_eq_zero_iff.1 hs0
      have hSe : (valsS p S).2 = 0 := by rw [hSn]; rfl
      rw [hSe]
      by_cases hd64 : d < 64
      case pos =>
        have hd' : (d : Int) < 64 := by omega
        have hw8 : IntKind.u8.wrap (d : Int) = (d : Int) := wrap_u8 (by omega) (by omega)
        simp (disch := first | omega | assumption) only [C.ref3_WriteMap_gos, vs, T.ts, and_true, true_and, List.getElem?_toArray, List.getElem?_cons_zero, List.getElem?_cons_succ, ↓reduceIte, Nat.reduceEqDiff, Option.bind_some, Option.map_some, Option.isSome_some, ne_eq, Bool.not_true, Bool.not_false, Bool.true_eq_false, Bool.false_eq_true, Bool.not_eq_true', Bool.not_eq_false', reduceCtorEq, Option.some.injEq, decide_eq_true_eq, decide_eq_false_iff_not, not_true_eq_false, not_false_eq_true, decide_true, decide_false, List.size_toArray, List.length_cons, List.length_nil, List.cons_append, List.nil_append, List.append_nil, List.map_cons, List.map_nil, Array.size_push, Int.toNat_natCast, List.toList_toArray, Nat.min_def, Nat.reduceLeDiff, Nat.reducePow, Int.reducePow, Int.reduceToNat, Int.tdiv_eq_ediv_of_nonneg, Int.tmod_eq_emod_of_nonneg, Int.fdiv_eq_ediv_of_nonneg, Nat.mul_one, Nat.reduceAdd, Nat.zero_add, Nat.add_zero, implies_true, false_implies, true_implies, e1, e2, Int.reduceEq, Int.reduceNeg, Int.reduceLT, decide_true, decide_false, eq_true hs0', hd', hw8]
        refine eff_lits T.slT_43 rfl rfl (by decide) ?_
        simp (disch := first | omega | assumption) only [C.ref3_WriteMap_gos, vs, T.ts, and_true, true_and, List.getElem?_toArray, List.getElem?_cons_zero, List.getElem?_cons_succ, ↓reduceIte, Nat.reduceEqDiff, Option.bind_some, Option.map_some, Option.isSome_some, ne_eq, Bool.not_true, Bool.not_false, Bool.true_eq_false, Bool.false_eq_true, Bool.not_eq_true', Bool.not_eq_false', reduceCtorEq, Option.some.injEq, decide_eq_true_eq, decide_eq_false_iff_not, not_true_eq_false, not_false_eq_true, decide_true, decide_false, List.size_toArray, List.length_cons, List.length_nil, List.cons_append, List.nil_append, List.append_nil, List.map_cons, List.map_nil, Array.size_push, Int.toNat_natCast, List.toList_toArray, Nat.min_def, Nat.reduceLeDiff, Nat.reducePow, Int.reducePow, Int.reduceToNat, Int.tdiv_eq_ediv_of_nonneg, Int.tmod_eq_emod_of_nonneg, Int.fdiv_eq_ediv_of_nonneg, Nat.mul_one, Nat.reduceAdd, Nat.zero_add, Nat.add_zero, implies_true, false_implies, true_implies, Int.toNat_natCast, show ((0 : Nat) : Int) = 0 from rfl]
        have ownP := own5.push (.cells #[.int .u8 (d : Int)] 5)
        have hxP : Ext h (h6.push (.cells #[.int .u8 (d : Int)] 5)) := hx5.trans (Ext.push _ _)
        have bP := push_blk (o' := .cells #[.int .u8 (d : Int)] 5) b5
        generalize hhP : h6.push (.cells #[.int .u8 (d : Int)] 5) = hP at *
        have hfr : frS p ⟨fat, L, S⟩ d loc = ([UInt8.ofNat d], 0) := by unfold frS; simp only [hk, hn, hs0, hd64, if_true]
        rw [hfr] at hR
        simp only at hR
        have f0 : cellAt hP ⟨q, 0, none⟩ = some (.int .i64 fat) := by rw [cellAt_of bP]; rfl
        have f1 : cellAt hP ⟨q, 1, none⟩ = some (.slice aL L.length kL) := by rw [cellAt_of bP]; rfl
        rw [if_neg (by simp)] at hR
        have hez' : (0 : Int) = 0 := rfl
        have hbl : ([UInt8.ofNat d]).length ≤ 400000 := by
          have := frS_len p ⟨fat, L, S⟩ d loc (by simp only; omega) (by simp only; omega)
          rw [hfr] at this
          exact this
        refine eff_append_str (l := [UInt8.ofNat d]) T.slT_43 Try.underlying9 rfl rfl ownP (by omega) (by omega) hxP.size ?_
        intro v9 h9 own9 fr9
        have hx9 : Ext h h9 := Ext.app hxP fr9 (fun k hk => (ownP.lt k hk).1)
        have b9 := Fr_blk fr9 bP (Own_ne ownP bP (by decide))
        have i0 : cellAt h9 ⟨q, 0, none⟩ = some (.int .i64 fat) := by rw [cellAt_of b9]; rfl
        have i1 : cellAt h9 ⟨q, 1, none⟩ = some (.slice aL L.length kL) := by rw [cellAt_of b9]; rfl
        simp (disch := first | omega | assumption) only [C.ref3_WriteMap_gos, vs, T.ts, and_true, true_and, List.getElem?_toArray, List.getElem?_cons_zero, List.getElem?_cons_succ, ↓reduceIte, Nat.reduceEqDiff, Option.bind_some, Option.map_some, Option.isSome_some, ne_eq, Bool.not_true, Bool.not_false, Bool.true_eq_false, Bool.false_eq_true, Bool.not_eq_true', Bool.not_eq_false', reduceCtorEq, Option.some.injEq, decide_eq_true_eq, decide_eq_false_iff_not, not_true_eq_false, not_false_eq_true, decide_true, decide_false, List.size_toArray, List.length_cons, List.length_nil, List.cons_append, List.nil_append, List.append_nil, List.map_cons, List.map_nil, Array.size_push, Int.toNat_natCast, List.toList_toArray, Nat.min_def, Nat.reduceLeDiff, Nat.reducePow, Int.reducePow, Int.reduceToNat, Int.tdiv_eq_ediv_of_nonneg, Int.tmod_eq_emod_of_nonneg, Int.fdiv_eq_ediv_of_nonneg, Nat.mul_one, Nat.reduceAdd, Nat.zero_add, Nat.add_zero, implies_true, false_implies, true_implies, i0, i1]
        exact ⟨_, by omega, i + 1, fat, L, _, _, _, rfl, by omega, by simp, Own_cast own9 (by simp) (by simp [bytesV]), hx9, sL, cL, hll2.1, by omega, by omega, by rw [List.length_append]; omega, hR⟩
      have hd' : ¬ (d : Int) < 64 := by omega
      have a1 : [(251 : UInt8)].length + (bigS d 2).length ≤ 9223372036854775807 := by rw [bigS_len]; simp
      simp (disch := first | omega | assumption) only [C.ref3_WriteMap_gos, vs, T.ts, and_true, true_and, List.getElem?_toArray, List.getElem?_cons_zero, List.getElem?_cons_succ, ↓reduceIte, Nat.reduceEqDiff, Option.bind_some, Option.map_some, Option.isSome_some, ne_eq, Bool.not_true, Bool.not_false, Bool.true_eq_false, Bool.false_eq_true, Bool.not_eq_true', Bool.not_eq_false', reduceCtorEq, Option.some.injEq, decide_eq_true_eq, decide_eq_false_iff_not, not_true_eq_false, not_false_eq_true, decide_true, decide_false, List.size_toArray, List.length_cons, List.length_nil, List.cons_append, List.nil_append, List.append_nil, List.map_cons, List.map_nil, Array.size_push, Int.toNat_natCast, List.toList_toArray, Nat.min_def, Nat.reduceLeDiff, Nat.reducePow, Int.reducePow, Int.reduceToNat, Int.tdiv_eq_ediv_of_nonneg, Int.tmod_eq_emod_of_nonneg, Int.fdiv_eq_ediv_of_nonneg, Nat.mul_one, Nat.reduceAdd, Nat.zero_add, Nat.add_zero, implies_true, false_implies, true_implies, e1, e2, Int.reduceEq, Int.reduceNeg, Int.reduceLT, decide_true, decide_false, eq_true hs0', hd']
      refine eff_call_of ?_
      simp (disch := first | omega | assumption) only [C.ref3_WriteMap_gos, vs, T.ts, and_true, true_and, List.getElem?_toArray, List.getElem?_cons_zero, List.getElem?_cons_succ, ↓reduceIte, Nat.reduceEqDiff, Option.bind_some, Option.map_some, Option.isSome_some, ne_eq, Bool.not_true, Bool.not_false, Bool.true_eq_false, Bool.false_eq_true, Bool.not_eq_true', Bool.not_eq_false', reduceCtorEq, Option.some.injEq, decide_eq_true_eq, decide_eq_false_iff_not, not_true_eq_false, not_false_eq_true, decide_true, decide_false, List.size_toArray, List.length_cons, List.length_nil, List.cons_append, List.nil_append, List.append_nil, List.map_cons, List.map_nil, Array.size_push, Int.toNat_natCast, List.toList_toArray, Nat.min_def, Nat.reduceLeDiff, Nat.reducePow, Int.reducePow, Int.reduceToNat, Int.tdiv_eq_ediv_of_nonneg, Int.tmod_eq_emod_of_nonneg, Int.fdiv_eq_ediv_of_nonneg, Nat.mul_one, Nat.reduceAdd, Nat.zero_add, Nat.add_zero, implies_true, false_implies, true_implies]
      refine (same3_any L loc _ _ _ _ rfl rfl sL5 sl5 (by omega)).mono ?_
      rintro v6 h6 ⟨rfl, rfl⟩
      rw [hdt]
      simp (disch := first | omega | assumption) only [C.ref3_WriteMap_gos, vs, T.ts, and_true, true_and, List.getElem?_toArray, List.getElem?_cons_zero, List.getElem?_cons_succ, ↓reduceIte, Nat.reduceEqDiff, Option.bind_some, Option.map_some, Option.isSome_some, ne_eq, Bool.not_true, Bool.not_false, Bool.true_eq_false, Bool.false_eq_true, Bool.not_eq_true', Bool.not_eq_false', reduceCtorEq, Option.some.injEq, decide_eq_true_eq, decide_eq_false_iff_not, not_true_eq_false, not_false_eq_true, decide_true, decide_false, List.size_toArray, List.length_cons, List.length_nil, List.cons_append, List.nil_append, List.append_nil, List.map_cons, List.map_nil, Array.size_push, Int.toNat_natCast, List.toList_toArray, Nat.min_def, Nat.reduceLeDiff, Nat.reducePow, Int.reducePow, Int.reduceToNat, Int.tdiv_eq_ediv_of_nonneg, Int.tmod_eq_emod_of_nonneg, Int.fdiv_eq_ediv_of_nonneg, Nat.mul_one, Nat.reduceAdd, Nat.zero_add, Nat.add_zero, implies_true, false_implies, true_implies, e1, e2, Int.reduceEq, Int.reduceNeg, Int.reduceLT, decide_true, decide_false, eq_true hs0', hd', a1, show ((0 : Nat) : Int) = 0 from rfl]
      have hfr : frS p ⟨fat, L, S⟩ d loc = ((251 : UInt8) :: bigS d 2, 0) := by unfold frS; simp only [hk, hn, hs0, hd64, if_true, if_false]; rfl
      rw [hfr] at hR
      simp only at hR
      have f0 : cellAt h6 ⟨q, 0, none⟩ = some (.int .i64 fat) := by rw [cellAt_of b5]; rfl
      have f1 : cellAt h6 ⟨q, 1, none⟩ = some (.slice aL L.length kL) := by rw [cellAt_of b5]; rfl
      rw [if_neg (by simp)] at hR
      have hez' : (0 : Int) = 0 := rfl
      have hbl : ((251 : UInt8) :: bigS d 2).length ≤ 400000 := by
        have := frS_len p ⟨fat, L, S⟩ d loc (by simp only; omega) (by simp only; omega)
        rw [hfr] at this
        exact this
      refine eff_append_str (l := (251 : UInt8) :: bigS d 2) T.slT_43 Try.underlying9 rfl rfl own5 (by omega) (by omega) hx5.size ?_
      intro v9 h9 own9 fr9
      have hx9 : Ext h h9 := Ext.app hx5 fr9 (fun k hk => (own5.lt k hk).1)
      have b9 := Fr_blk fr9 b5 (Own_ne own5 b5 (by decide))
      have i0 : cellAt h9 ⟨q, 0, none⟩ = some (.int .i64 fat) := by rw [cellAt_of b9]; rfl
      have i1 : cellAt h9 ⟨q, 1, none⟩ = some (.slice aL L.length kL) := by rw [cellAt_of b9]; rfl
      simp (disch := first | omega | assumption) only [C.ref3_WriteMap_gos, vs, T.ts, and_true, true_and, List.getElem?_toArray, List.getElem?_cons_zero, List.getElem?_cons_succ, ↓reduceIte, Nat.reduceEqDiff, Option.bind_some, Option.map_some, Option.isSome_some, ne_eq, Bool.not_true, Bool.not_false, Bool.true_eq_false, Bool.false_eq_true, Bool.not_eq_true', Bool.not_eq_false', reduceCtorEq, Option.some.injEq, decide_eq_true_eq, decide_eq_false_iff_not, not_true_eq_false, not_false_eq_true, decide_true, decide_false, List.size_toArray, List.length_cons, List.length_nil, List.cons_append, List.nil_append, List.append_nil, List.map_cons, List.map_nil, Array.size_push, Int.toNat_natCast, List.toList_toArray, Nat.min_def, Nat.reduceLeDiff, Nat.reducePow, Int.reducePow, Int.reduceToNat, Int.tdiv_eq_ediv_of_nonneg, Int.tmod_eq_emod_of_nonneg, Int.fdiv_eq_ediv_of_nonneg, Nat.mul_one, Nat.reduceAdd, Nat.zero_add, Nat.add_zero, implies_true, false_implies, true_implies, i0, i1]
      exact ⟨_, by omega, i + 1, fat, L, _, _, _, rfl, by omega, by simp, Own_cast own9 (by simp) (by simp [bytesV]), hx9, sL, cL, hll2.1, by omega, by omega, by rw [List.length_append]; omega, hR⟩
    have hs0' : ¬ (S.length : Int) = 0 := by omega
    simp (disch := first | omega | assumption) only [C.ref3_WriteMap_gos, vs, T.ts, and_true, true_and, List.getElem?_toArray, List.getElem?_cons_zero, List.getElem?_cons_succ, ↓reduceIte, Nat.reduceEqDiff, Option.bind_some, Option.map_some, Option.isSome_some, ne_eq, Bool.not_true, Bool.not_false, Bool.true_eq_false, Bool.false_eq_true, Bool.not_eq_true', Bool.not_eq_false', reduceCtorEq, Option.some.injEq, decide_eq_true_eq, decide_eq_false_iff_not, not_true_eq_false, not_false_eq_true, decide_true, decide_false, List.size_toArray, List.length_cons, List.length_nil, List.cons_append, List.nil_append, List.append_nil, List.map_cons, List.map_nil, Array.size_push, Int.toNat_natCast, List.toList_toArray, Nat.min_def, Nat.reduceLeDiff, Nat.reducePow, Int.reducePow, Int.reduceToNat, Int.tdiv_eq_ediv_of_nonneg, Int.tmod_eq_emod_of_nonneg, Int.fdiv_eq_ediv_of_nonneg, Nat.mul_one, Nat.reduceAdd, Nat.zero_add, Nat.add_zero, implies_true, false_implies, true_implies, e1, e2, Int.reduceEq, Int.reduceNeg, Int.reduceLT, decide_true, decide_false, eq_false hs0']
    refine eff_call_of ?_
    simp (disch := first | omega | assumption) only [C.ref3_WriteMap_gos, vs, T.ts, and_true, true_and, List.getElem?_toArray, List.getElem?_cons_zero, List.getElem?_cons_succ, ↓reduceIte, Nat.reduceEqDiff, Option.bind_some, Option.map_some, Option.isSome_some, ne_eq, Bool.not_true, Bool.not_false, Bool.true_eq_false, Bool.false_eq_true, Bool.not_eq_true', Bool.not_eq_false', reduceCtorEq, Option.some.injEq, decide_eq_true_eq, decide_eq_false_iff_not, not_true_eq_false, not_false_eq_true, decide_true, decide_false, List.size_toArray, List.length_cons, List.length_nil, List.cons_append, List.nil_append, List.append_nil, List.map_cons, List.map_nil, Array.size_push, Int.toNat_natCast, List.toList_toArray, Nat.min_def, Nat.reduceLeDiff, Nat.reducePow, Int.reducePow, Int.reduceToNat, Int.tdiv_eq_ediv_of_nonneg, Int.tmod_eq_emod_of_nonneg, Int.fdiv_eq_ediv_of_nonneg, Nat.mul_one, Nat.reduceAdd, Nat.zero_add, Nat.add_zero, implies_true, false_implies, true_implies]
    refine (same3_any L loc _ _ _ _ rfl rfl sL5 sl5 (by omega)).mono ?_
    rintro v6 h6 ⟨rfl, rfl⟩
    rw [hdt]
    simp (disch := first | omega | assumption) only [C.ref3_WriteMap_gos, vs, T.ts, and_true, true_and, List.getElem?_toArray, List.getElem?_cons_zero, List.getElem?_cons_succ, ↓reduceIte, Nat.reduceEqDiff, Option.bind_some, Option.map_some, Option.isSome_some, ne_eq, Bool.not_true, Bool.not_false, Bool.true_eq_false, Bool.false_eq_true, Bool.not_eq_true', Bool.not_eq_false', reduceCtorEq, Option.some.injEq, decide_eq_true_eq, decide_eq_false_iff_not, not_true_eq_false, not_false_eq_true, decide_true, decide_false, List.size_toArray, List.length_cons, List.length_nil, List.cons_append, List.nil_append, List.append_nil, List.map_cons, List.map_nil, Array.size_push, Int.toNat_natCast, List.toList_toArray, Nat.min_def, Nat.reduceLeDiff, Nat.reducePow, Int.reducePow, Int.reduceToNat, Int.tdiv_eq_ediv_of_nonneg, Int.tmod_eq_emod_of_nonneg, Int.fdiv_eq_ediv_of_nonneg, Nat.mul_one, Nat.reduceAdd, Nat.zero_add, Nat.add_zero, implies_true, false_implies, true_implies, e1, e2, Int.reduceEq, Int.reduceNeg, Int.reduceLT, decide_true, decide_false, eq_false hs0']
    refine eff_call_of ?_
    simp (disch := first | omega | assumption) only [C.ref3_WriteMap_gos, vs, T.ts, and_true, true_and, List.getElem?_toArray, List.getElem?_cons_zero, List.getElem?_cons_succ, ↓reduceIte, Nat.reduceEqDiff, Option.bind_some, Option.map_some, Option.isSome_some, ne_eq, Bool.not_true, Bool.not_false, Bool.true_eq_false, Bool.false_eq_true, Bool.not_eq_true', Bool.not_eq_false', reduceCtorEq, Option.some.injEq, decide_eq_true_eq, decide_eq_false_iff_not, not_true_eq_false, not_false_eq_true, decide_true, decide_false, List.size_toArray, List.length_cons, List.length_nil, List.cons_append, List.nil_append, List.append_nil, List.map_cons, List.map_nil, Array.size_push, Int.toNat_natCast, List.toList_toArray, Nat.min_def, Nat.reduceLeDiff, Nat.reducePow, Int.reducePow, Int.reduceToNat, Int.tdiv_eq_ediv_of_nonneg, Int.tmod_eq_emod_of_nonneg, Int.fdiv_eq_ediv_of_nonneg, Nat.mul_one, Nat.reduceAdd, Nat.zero_add, Nat.add_zero, implies_true, false_implies, true_implies]
    refine (same3_any L loc _ _ _ _ rfl rfl sL5 sl5 (by omega)).mono ?_
    rintro v6 h6 ⟨rfl, rfl⟩
    rw [hdt]
    by_cases hs1 : S.length = 1
    case pos =>
      have hs1' : (S.length : Int) = 1 := by omega
      by_cases hd64 : d < 64
      case pos =>
        have hd' : (d : Int) < 64 := by omega
        have hwd8 : (64 : Int) + (d : Int) = ((64 + d : Nat) : Int) := by omega
        have hw8 : IntKind.u8.wrap ((64 + d : Nat) : Int) = ((64 + d : Nat) : Int) := wrap_u8 (by omega) (by omega)
        have a1 : [UInt8.ofNat (64 + d)].length + (valsS p S).1.length ≤ 9223372036854775807 := by simp only [List.length_cons, List.length_nil]; omega
        simp (disch := first | omega | assumption) only [C.ref3_WriteMap_gos, vs, T.ts, and_true, true_and, List.getElem?_toArray, List.getElem?_cons_zero, List.getElem?_cons_succ, ↓reduceIte, Nat.reduceEqDiff, Option.bind_some, Option.map_some, Option.isSome_some, ne_eq, Bool.not_true, Bool.not_false, Bool.true_eq_false, Bool.false_eq_true, Bool.not_eq_true', Bool.not_eq_false', reduceCtorEq, Option.some.injEq, decide_eq_true_eq, decide_eq_false_iff_not, not_true_eq_false, not_false_eq_true, decide_true, decide_false, List.size_toArray, List.length_cons, List.length_nil, List.cons_append, List.nil_append, List.append_nil, List.map_cons, List.map_nil, Array.size_push, Int.toNat_natCast, List.toList_toArray, Nat.min_def, Nat.reduceLeDiff, Nat.reducePow, Int.reducePow, Int.reduceToNat, Int.tdiv_eq_ediv_of_nonneg, Int.tmod_eq_emod_of_nonneg, Int.fdiv_eq_ediv_of_nonneg, Nat.mul_one, Nat.reduceAdd, Nat.zero_add, Nat.add_zero, implies_true, false_implies, true_implies, e1, e2, Int.reduceEq, Int.reduceNeg, Int.reduceLT, decide_true, decide_false, eq_true hs1', hd', hwd8, hw8]
        refine eff_lits T.slT_43 rfl rfl (by decide) ?_
        simp (disch := first | omega | assumption) only [C.ref3_WriteMap_gos, vs, T.ts, and_true, true_and, List.getElem?_toArray, List.getElem?_cons_zero, List.getElem?_cons_succ, ↓reduceIte, Nat.reduceEqDiff, Option.bind_some, Option.map_some, Option.isSome_some, ne_eq, Bool.not_true, Bool.not_false, Bool.true_eq_false, Bool.false_eq_true, Bool.not_eq_true', Bool.not_eq_false', reduceCtorEq, Option.some.injEq, decide_eq_true_eq, decide_eq_false_iff_not, not_true_eq_false, not_false_eq_true, decide_true, decide_false, List.size_toArray, List.length_cons, List.length_nil, List.cons_append, List.nil_append, List.append_nil, List.map_cons, List.map_nil, Array.size_push, Int.toNat_natCast, List.toList_toArray, Nat.min_def, Nat.reduceLeDiff, Nat.reducePow, Int.reducePow, Int.reduceToNat, Int.tdiv_eq_ediv_of_nonneg, Int.tmod_eq_emod_of_nonneg, Int.fdiv_eq_ediv_of_nonneg, Nat.mul_one, Nat.reduceAdd, Nat.zero_add, Nat.add_zero, implies_true, false_implies, true_implies, Int.toNat_natCast, a1]
        have ownP := own5.push (.cells #[.int .u8 ((64 + d : Nat) : Int)] 5)
        have hxP : Ext h (h6.push (.cells #[.int .u8 ((64 + d : Nat) : Int)] 5)) := hx5.trans (Ext.push _ _)
        have bP := push_blk (o' := .cells #[.int .u8 ((64 + d : Nat) : Int)] 5) b5
        generalize hhP : h6.push (.cells #[.int .u8 ((64 + d : Nat) : Int)] 5) = hP at *
        have hfr : frS p ⟨fat, L, S⟩ d loc = (UInt8.ofNat (64 + d) :: (valsS p S).1, (valsS p S).2) := by unfold frS; simp only [hk, hn, hs0, hs1, hd64, if_true, if_false, Nat.one_ne_zero]
        rw [hfr] at hR
        simp only at hR
        have f0 : cellAt hP ⟨q, 0, none⟩ = some (.int .i64 fat) := by rw [cellAt_of bP]; rfl
        have f1 : cellAt hP ⟨q, 1, none⟩ = some (.slice aL L.length kL) := by rw [cellAt_of bP]; rfl
        by_cases hez : (valsS p S).2 = 0
        case neg =>
          have hez' : ¬ (((valsS p S).2 : Nat) : Int) = 0 := by omega
          rw [if_pos hez] at hR
          subst hR
          simp (disch := first | omega | assumption) only [C.ref3_WriteMap_gos, vs, T.ts, and_true, true_and, List.getElem?_toArray, List.getElem?_cons_zero, List.getElem?_cons_succ, ↓reduceIte, Nat.reduceEqDiff, Option.bind_some, Option.map_some, Option.isSome_some, ne_eq, Bool.not_true, Bool.not_false, Bool.true_eq_false, Bool.false_eq_true, Bool.not_eq_true', Bool.not_eq_false', reduceCtorEq, Option.some.injEq, decide_eq_true_eq, decide_eq_false_iff_not, not_true_eq_false, not_false_eq_true, decide_true, decide_false, List.size_toArray, List.length_cons, List.length_nil, List.cons_append, List.nil_append, List.append_nil, List.map_cons, List.map_nil, Array.size_push, Int.toNat_natCast, List.toList_toArray, Nat.min_def, Nat.reduceLeDiff, Nat.reducePow, Int.reducePow, Int.reduceToNat, Int.tdiv_eq_ediv_of_nonneg, Int.tmod_eq_emod_of_nonneg, Int.fdiv_eq_ediv_of_nonneg, Nat.mul_one, Nat.reduceAdd, Nat.zero_add, Nat.add_zero, implies_true, false_implies, true_implies, eq_false hez']
          exact ⟨hxP, rfl⟩
        have hez' : (((valsS p S).2 : Nat) : Int) = 0 := by omega
        rw [if_neg (by rw [hez]; simp)] at hR
        simp (disch := first | omega | assumption) only [C.ref3_WriteMap_gos, vs, T.ts, and_true, true_and, List.getElem?_toArray, List.getElem?_cons_zero, List.getElem?_cons_succ, ↓reduceIte, Nat.reduceEqDiff, Option.bind_some, Option.map_some, Option.isSome_some, ne_eq, Bool.not_true, Bool.not_false, Bool.true_eq_false, Bool.false_eq_true, Bool.not_eq_true', Bool.not_eq_false', reduceCtorEq, Option.some.injEq, decide_eq_true_eq, decide_eq_false_iff_not, not_true_eq_false, not_false_eq_true, decide_true, decide_false, List.size_toArray, List.length_cons, List.length_nil, List.cons_append, List.nil_append, List.append_nil, List.map_cons, List.map_nil, Array.size_push, Int.toNat_natCast, List.toList_toArray, Nat.min_def, Nat.reduceLeDiff, Nat.reducePow, Int.reducePow, Int.reduceToNat, Int.tdiv_eq_ediv_of_nonneg, Int.tmod_eq_emod_of_nonneg, Int.fdiv_eq_ediv_of_nonneg, Nat.mul_one, Nat.reduceAdd, Nat.zero_add, Nat.add_zero, implies_true, false_implies, true_implies, eq_true hez']
        have hbl : (UInt8.ofNat (64 + d) :: (valsS p S).1).length ≤ 400000 := by
          have := frS_len p ⟨fat, L, S⟩ d loc (by simp only; omega) (by simp only; omega)
          rw [hfr] at this
          exact this
        refine eff_append_str (l := UInt8.ofNat (64 + d) :: (valsS p S).1) T.slT_43 Try.underlying9 rfl rfl ownP (by omega) (by omega) hxP.size ?_
        intro v9 h9 own9 fr9
        have hx9 : Ext h h9 := Ext.app hxP fr9 (fun k hk => (ownP.lt k hk).1)
        have b9 := Fr_blk fr9 bP (Own_ne ownP bP (by decide))
        have i0 : cellAt h9 ⟨q, 0, none⟩ = some (.int .i64 fat) := by rw [cellAt_of b9]; rfl
        have i1 : cellAt h9 ⟨q, 1, none⟩ = some (.slice aL L.length kL) := by rw [cellAt_of b9]; rfl
        simp (disch := first | omega | assumption) only [C.ref3_WriteMap_gos, vs, T.ts, and_true, true_and, List.getElem?_toArray, List.getElem?_cons_zero, List.getElem?_cons_succ, ↓reduceIte, Nat.reduceEqDiff, Option.bind_some, Option.map_some, Option.isSome_some, ne_eq, Bool.not_true, Bool.not_false, Bool.true_eq_false, Bool.false_eq_true, Bool.not_eq_true', Bool.not_eq_false', reduceCtorEq, Option.some.injEq, decide_eq_true_eq, decide_eq_false_iff_not, not_true_eq_false, not_false_eq_true, decide_true, decide_false, List.size_toArray, List.length_cons, List.length_nil, List.cons_append, List.nil_append, List.append_nil, List.map_cons, List.map_nil, Array.size_push, Int.toNat_natCast, List.toList_toArray, Nat.min_def, Nat.reduceLeDiff, Nat.reducePow, Int.reducePow, Int.reduceToNat, Int.tdiv_eq_ediv_of_nonneg, Int.tmod_eq_emod_of_nonneg, Int.fdiv_eq_ediv_of_nonneg, Nat.mul_one, Nat.reduceAdd, Nat.zero_add, Nat.add_zero, implies_true, false_implies, true_implies, i0, i1]
        exact ⟨_, by omega, i + 1, fat, L, _, _, _, rfl, by omega, by simp, Own_cast own9 (by simp) (by simp [bytesV]), hx9, sL, cL, hll2.1, by omega, by omega, by rw [List.length_append]; omega, hR⟩
      have hd' : ¬ (d : Int) < 64 := by omega
      simp (disch := first | omega | assumption) only [C.ref3_WriteMap_gos, vs, T.ts, and_true, true_and, List.getElem?_toArray, List.getElem?_cons_zero, List.getElem?_cons_succ, ↓reduceIte, Nat.reduceEqDiff, Option.bind_some, Option.map_some, Option.isSome_some, ne_eq, Bool.not_true, Bool.not_false, Bool.true_eq_false, Bool.false_eq_true, Bool.not_eq_true', Bool.not_eq_false', reduceCtorEq, Option.some.injEq, decide_eq_true_eq, decide_eq_false_iff_not, not_true_eq_false, not_false_eq_true, decide_true, decide_false, List.size_toArray, List.length_cons, List.length_nil, List.cons_append, List.nil_append, List.append_nil, List.map_cons, List.map_nil, Array.size_push, Int.toNat_natCast, List.toList_toArray, Nat.min_def, Nat.reduceLeDiff, Nat.reducePow, Int.reducePow, Int.reduceToNat, Int.tdiv_eq_ediv_of_nonneg, Int.tmod_eq_emod_of_nonneg, Int.fdiv_eq_ediv_of_nonneg, Nat.mul_one, Nat.reduceAdd, Nat.zero_add, Nat.add_zero, implies_true, false_implies, true_implies, e1, e2, Int.reduceEq, Int.reduceNeg, Int.reduceLT, decide_true, decide_false, eq_true hs1', hd']
      refine eff_call_of ?_
      simp (disch := first | omega | assumption) only [C.ref3_WriteMap_gos, vs, T.ts, and_true, true_and, List.getElem?_toArray, List.getElem?_cons_zero, List.getElem?_cons_succ, ↓reduceIte, Nat.reduceEqDiff, Option.bind_some, Option.map_some, Option.isSome_some, ne_eq, Bool.not_true, Bool.not_false, Bool.true_eq_false, Bool.false_eq_true, Bool.not_eq_true', Bool.not_eq_false', reduceCtorEq, Option.some.injEq, decide_eq_true_eq, decide_eq_false_iff_not, not_true_eq_false, not_false_eq_true, decide_true, decide_false, List.size_toArray, List.length_cons, List.length_nil, List.cons_append, List.nil_append, List.append_nil, List.map_cons, List.map_nil, Array.size_push, Int.toNat_natCast, List.toList_toArray, Nat.min_def, Nat.reduceLeDiff, Nat.reducePow, Int.reducePow, Int.reduceToNat, Int.tdiv_eq_ediv_of_nonneg, Int.tmod_eq_emod_of_nonneg, Int.fdiv_eq_ediv_of_nonneg, Nat.mul_one, Nat.reduceAdd, Nat.zero_add, Nat.add_zero, implies_true, false_implies, true_implies]
      refine (same3_any L loc _ _ _ _ rfl rfl sL5 sl5 (by omega)).mono ?_
      rintro v6 h6 ⟨rfl, rfl⟩
      rw [hdt]
      have a1 : [(247 : UInt8)].length + (bigS d 2).length ≤ 9223372036854775807 := by rw [bigS_len]; simp
      have a2 : ((247 : UInt8) :: bigS d 2).length + (valsS p S).1.length ≤ 9223372036854775807 := by simp only [List.length_cons]; omega
      simp (disch := first | omega | assumption) only [C.ref3_WriteMap_gos, vs, T.ts, and_true, true_and, List.getElem?_toArray, List.getElem?_cons_zero, List.getElem?_cons_succ, ↓reduceIte, Nat.reduceEqDiff, Option.bind_some, Option.map_some, Option.isSome_some, ne_eq, Bool.not_true, Bool.not_false, Bool.true_eq_false, Bool.false_eq_true, Bool.not_eq_true', Bool.not_eq_false', reduceCtorEq, Option.some.injEq, decide_eq_true_eq, decide_eq_false_iff_not, not_true_eq_false, not_false_eq_true, decide_true, decide_false, List.size_toArray, List.length_cons, List.length_nil, List.cons_append, List.nil_append, List.append_nil, List.map_cons, List.map_nil, Array.size_push, Int.toNat_natCast, List.toList_toArray, Nat.min_def, Nat.reduceLeDiff, Nat.reducePow, Int.reducePow, Int.reduceToNat, Int.tdiv_eq_ediv_of_nonneg, Int.tmod_eq_emod_of_nonneg, Int.fdiv_eq_ediv_of_nonneg, Nat.mul_one, Nat.reduceAdd, Nat.zero_add, Nat.add_zero, implies_true, false_implies, true_implies, e1, e2, Int.reduceEq, Int.reduceNeg, Int.reduceLT, decide_true, decide_false, eq_true hs1', hd', a1, a2]
      have hfr : frS p ⟨fat, L, S⟩ d loc = ((247 : UInt8) :: (bigS d 2 ++ (valsS p S).1), (valsS p S).2) := by unfold frS; simp only [hk, hn, hs0, hs1, hd64, if_true, if_false, Nat.one_ne_zero]; rfl
      rw [hfr] at hR
      simp only at hR
      have f0 : cellAt h6 ⟨q, 0, none⟩ = some (.int .i64 fat) := by rw [cellAt_of b5]; rfl
      have f1 : cellAt h6 ⟨q, 1, none⟩ = some (.slice aL L.length kL) := by rw [cellAt_of b5]; rfl
      by_cases hez : (valsS p S).2 = 0
      case neg =>
        have hez' : ¬ (((valsS p S).2 : Nat) : Int) = 0 := by omega
        rw [if_pos hez] at hR
        subst hR
        simp (disch := first | omega | assumption) only [C.ref3_WriteMap_gos, vs, T.ts, and_true, true_and, List.getElem?_toArray, List.getElem?_cons_zero, List.getElem?_cons_succ, ↓reduceIte, Nat.reduceEqDiff, Option.bind_some, Option.map_some, Option.isSome_some, ne_eq, Bool.not_true, Bool.not_false, Bool.true_eq_false, Bool.false_eq_true, Bool.not_eq_true', Bool.not_eq_false', reduceCtorEq, Option.some.injEq, decide_eq_true_eq, decide_eq_false_iff_not, not_true_eq_false, not_false_eq_true, decide_true, decide_false, List.size_toArray, List.length_cons, List.length_nil, List.cons_append, List.nil_append, List.append_nil, List.map_cons, List.map_nil, Array.size_push, Int.toNat_natCast, List.toList_toArray, Nat.min_def, Nat.reduceLeDiff, Nat.reducePow, Int.reducePow, Int.reduceToNat, Int.tdiv_eq_ediv_of_nonneg, Int.tmod_eq_emod_of_nonneg, Int.fdiv_eq_ediv_of_nonneg, Nat.mul_one, Nat.reduceAdd, Nat.zero_add, Nat.add_zero, implies_true, false_implies, true_implies, eq_false hez']
        exact ⟨hx5, rfl⟩
      have hez' : (((valsS p S).2 : Nat) : Int) = 0 := by omega
      rw [if_neg (by rw [hez]; simp)] at hR
      simp (disch := first | omega | assumption) only [C.ref3_WriteMap_gos, vs, T.ts, and_true, true_and, List.getElem?_toArray, List.getElem?_cons_zero, List.getElem?_cons_succ, ↓reduceIte, Nat.reduceEqDiff, Option.bind_some, Option.map_some, Option.isSome_some, ne_eq, Bool.not_true, Bool.not_false, Bool.true_eq_false, Bool.false_eq_true, Bool.not_eq_true', Bool.not_eq_false', reduceCtorEq, Option.some.injEq, decide_eq_true_eq, decide_eq_false_iff_not, not_true_eq_false, not_false_eq_true, decide_true, decide_false, List.size_toArray, List.length_cons, List.length_nil, List.cons_append, List.nil_append, List.append_nil, List.map_cons, List.map_nil, Array.size_push, Int.toNat_natCast, List.toList_toArray, Nat.min_def, Nat.reduceLeDiff, Nat.reducePow, Int.reducePow, Int.reduceToNat, Int.tdiv_eq_ediv_of_nonneg, Int.tmod_eq_emod_of_nonneg, Int.fdiv_eq_ediv_of_nonneg, Nat.mul_one, Nat.reduceAdd, Nat.zero_add, Nat.add_zero, implies_true, false_implies, true_implies, eq_true hez']
      have hbl : ((247 : UInt8) :: (bigS d 2 ++ (valsS p S).1)).length ≤ 400000 := by
        have := frS_len p ⟨fat, L, S⟩ d loc (by simp only; omega) (by simp only; omega)
        rw [hfr] at this
        exact this
      refine eff_append_str (l := (247 : UInt8) :: (bigS d 2 ++ (valsS p S).1)) T.slT_43 Try.underlying9 rfl rfl own5 (by omega) (by omega) hx5.size ?_
      intro v9 h9 own9 fr9
      have hx9 : Ext h h9 := Ext.app hx5 fr9 (fun k hk => (own5.lt k hk).1)
      have b9 := Fr_blk fr9 b5 (Own_ne own5 b5 (by decide))
      have i0 : cellAt h9 ⟨q, 0, none⟩ = some (.int .i64 fat) := by rw [cellAt_of b9]; rfl
      have i1 : cellAt h9 ⟨q, 1, none⟩ = some (.slice aL L.length kL) := by rw [cellAt_of b9]; rfl
      simp (disch := first | omega | assumption) only [C.ref3_WriteMap_gos, vs, T.ts, and_true, true_and, List.getElem?_toArray, List.getElem?_cons_zero, List.getElem?_cons_succ, ↓reduceIte, Nat.reduceEqDiff, Option.bind_some, Option.map_some, Option.isSome_some, ne_eq, Bool.not_true, Bool.not_false, Bool.true_eq_false, Bool.false_eq_true, Bool.not_eq_true', Bool.not_eq_false', reduceCtorEq, Option.some.injEq, decide_eq_true_eq, decide_eq_false_iff_not, not_true_eq_false, not_false_eq_true, decide_true, decide_false, List.size_toArray, List.length_cons, List.length_nil, List.cons_append, List.nil_append, List.append_nil, List.map_cons, List.map_nil, Array.size_push, Int.toNat_natCast, List.toList_toArray, Nat.min_def, Nat.reduceLeDiff, Nat.reducePow, Int.reducePow, Int.reduceToNat, Int.tdiv_eq_ediv_of_nonneg, Int.tmod_eq_emod_of_nonneg, Int.fdiv_eq_ediv_of_nonneg, Nat.mul_one, Nat.reduceAdd, Nat.zero_add, Nat.add_zero, implies_true, false_implies, true_implies, i0, i1]
      exact ⟨_, by omega, i + 1, fat, L, _, _, _, rfl, by omega, by simp, Own_cast own9 (by simp) (by simp [bytesV]), hx9, sL, cL, hll2.1, by omega, by omega, by rw [List.length_append]; omega, hR⟩
    have hs1' : ¬ (S.length : Int) = 1 := by omega
    simp (disch := first | omega | assumption) only [C.ref3_WriteMap_gos, vs, T.ts, and_true, true_and, List.getElem?_toArray, List.getElem?_cons_zero, List.getElem?_cons_succ, ↓reduceIte, Nat.reduceEqDiff, Option.bind_some, Option.map_some, Option.isSome_some, ne_eq, Bool.not_true, Bool.not_false, Bool.true_eq_false, Bool.false_eq_true, Bool.not_eq_true', Bool.not_eq_false', reduceCtorEq, Option.some.injEq, decide_eq_true_eq, decide_eq_false_iff_not, not_true_eq_false, not_false_eq_true, decide_true, decide_false, List.size_toArray, List.length_cons, List.length_nil, List.cons_append, List.nil_append, List.append_nil, List.map_cons, List.map_nil, Array.size_push, Int.toNat_natCast, List.toList_toArray, Nat.min_def, Nat.reduceLeDiff, Nat.reducePow, Int.reducePow, Int.reduceToNat, Int.tdiv_eq_ediv_of_nonneg, Int.tmod_eq_emod_of_nonneg, Int.fdiv_eq_ediv_of_nonneg, Nat.mul_one, Nat.reduceAdd, Nat.zero_add, Nat.add_zero, implies_true, false_implies, true_implies, e1, e2, Int.reduceEq, Int.reduceNeg, Int.reduceLT, decide_true, decide_false, eq_false hs1']
    refine eff_call_of ?_
    simp (disch := first | omega | assumption) only [C.ref3_WriteMap_gos, vs, T.ts, and_true, true_and, List.getElem?_toArray, List.getElem?_cons_zero, List.getElem?_cons_succ, ↓reduceIte, Nat.reduceEqDiff, Option.bind_some, Option.map_some, Option.isSome_some, ne_eq, Bool.not_true, Bool.not_false, Bool.true_eq_false, Bool.false_eq_true, Bool.not_eq_true', Bool.not_eq_false', reduceCtorEq, Option.some.injEq, decide_eq_true_eq, decide_eq_false_iff_not, not_true_eq_false, not_false_eq_true, decide_true, decide_false, List.size_toArray, List.length_cons, List.length_nil, List.cons_append, List.nil_append, List.append_nil, List.map_cons, List.map_nil, Array.size_push, Int.toNat_natCast, List.toList_toArray, Nat.min_def, Nat.reduceLeDiff, Nat.reducePow, Int.reducePow, Int.reduceToNat, Int.tdiv_eq_ediv_of_nonneg, Int.tmod_eq_emod_of_nonneg, Int.fdiv_eq_ediv_of_nonneg, Nat.mul_one, Nat.reduceAdd, Nat.zero_add, Nat.add_zero, implies_true, false_implies, true_implies]
    refine (same3_any L loc _ _ _ _ rfl rfl sL5 sl5 (by omega)).mono ?_
    rintro v6 h6 ⟨rfl, rfl⟩
    rw [hdt]
    have m1 : ¬ (L.length : Int) - loc.length < 0 := by omega
    have m2 : ¬ (0 : Int) < (L.length : Int) - loc.length := by omega
    simp (disch := first | omega | assumption) only [C.ref3_WriteMap_gos, vs, T.ts, and_true, true_and, List.getElem?_toArray, List.getElem?_cons_zero, List.getElem?_cons_succ, ↓reduceIte, Nat.reduceEqDiff, Option.bind_some, Option.map_some, Option.isSome_some, ne_eq, Bool.not_true, Bool.not_false, Bool.true_eq_false, Bool.false_eq_true, Bool.not_eq_true', Bool.not_eq_false', reduceCtorEq, Option.some.injEq, decide_eq_true_eq, decide_eq_false_iff_not, not_true_eq_false, not_false_eq_true, decide_true, decide_false, List.size_toArray, List.length_cons, List.length_nil, List.cons_append, List.nil_append, List.append_nil, List.map_cons, List.map_nil, Array.size_push, Int.toNat_natCast, List.toList_toArray, Nat.min_def, Nat.reduceLeDiff, Nat.reducePow, Int.reducePow, Int.reduceToNat, Int.tdiv_eq_ediv_of_nonneg, Int.tmod_eq_emod_of_nonneg, Int.fdiv_eq_ediv_of_nonneg, Nat.mul_one, Nat.reduceAdd, Nat.zero_add, Nat.add_zero, implies_true, false_implies, true_implies, e1, e2, Int.reduceEq, Int.reduceNeg, Int.reduceLT, decide_true, decide_false, eq_false hs1', m1, m2]
    refine eff_call_of ?_
    simp (disch := first | omega | assumption) only [C.ref3_WriteMap_gos, vs, T.ts, and_true, true_and, List.getElem?_toArray, List.getElem?_cons_zero, List.getElem?_cons_succ, ↓reduceIte, Nat.reduceEqDiff, Option.bind_some, Option.map_some, Option.isSome_some, ne_eq, Bool.not_true, Bool.not_false, Bool.true_eq_false, Bool.false_eq_true, Bool.not_eq_true', Bool.not_eq_false', reduceCtorEq, Option.some.injEq, decide_eq_true_eq, decide_eq_false_iff_not, not_true_eq_false, not_false_eq_true, decide_true, decide_false, List.size_toArray, List.length_cons, List.length_nil, List.cons_append, List.nil_append, List.append_nil, List.map_cons, List.map_nil, Array.size_push, Int.toNat_natCast, List.toList_toArray, Nat.min_def, Nat.reduceLeDiff, Nat.reducePow, Int.reducePow, Int.reduceToNat, Int.tdiv_eq_ediv_of_nonneg, Int.tmod_eq_emod_of_nonneg, Int.fdiv_eq_ediv_of_nonneg, Nat.mul_one, Nat.reduceAdd, Nat.zero_add, Nat.add_zero, implies_true, false_implies, true_implies]
    refine (told_any L p _ _ _ sL5 hfit.L (by omega) (hp.ext (by decide) hx5) hpf hpl).mono ?_
    rintro v7 h7 ⟨x7, rfl⟩
    have b7 := Fr_blk x7 b5 id
    have own7 := own5.ext x7
    have hx7 := hx5.trans x7
    have j1 : cellAt h7 ⟨q, 1, none⟩ = some (.slice aL L.length kL) := by rw [cellAt_of b7]; rfl
    have j2 : cellAt h7 ⟨q, 2, none⟩ = some (.slice aS S.length kS) := by rw [cellAt_of b7]; rfl
    have hwL : IntKind.u64.wrap (L.length : Int) = (L.length : Int) := wrap_u64 (by omega) (by omega)
    have hwS : IntKind.u64.wrap (S.length : Int) = (S.length : Int) := wrap_u64 (by omega) (by omega)
    have hlL : (bigS L.length 2).length = 2 := bigS_len
    have hlS : (bigS S.length 2).length = 2 := bigS_len
    have a1 : [(255 : UInt8)].length + (bigS d 2).length ≤ 9223372036854775807 := by simp only [List.length_cons, List.length_append, List.length_nil]; omega
    have a2 : ((255 : UInt8) :: bigS d 2).length + (bigS L.length 2).length ≤ 9223372036854775807 := by simp only [List.length_cons, List.length_append, List.length_nil]; omega
    have a3 : ((255 : UInt8) :: (bigS d 2 ++ bigS L.length 2)).length + (valsS p L).1.length ≤ 9223372036854775807 := by simp only [List.length_cons, List.length_append, List.length_nil]; omega
    have a4 : ((255 : UInt8) :: (bigS d 2 ++ bigS L.length 2 ++ (valsS p L).1)).length + (bigS S.length 2).length ≤ 9223372036854775807 := by simp only [List.length_cons, List.length_append, List.length_nil]; omega
    have a5 : ((255 : UInt8) :: (bigS d 2 ++ bigS L.length 2 ++ (valsS p L).1 ++ bigS S.length 2)).length + (valsS p S).1.length ≤ 9223372036854775807 := by simp only [List.length_cons, List.length_append, List.length_nil]; omega
    have hw0 : frS p ⟨fat, L, S⟩ d loc = defS p ⟨fat, L, S⟩ d := by unfold frS; simp only [hk, hn, hs0, hs1, if_true, if_false]
    by_cases heL : (valsS p L).2 = 0
    case' pos =>
      have heL' : (((valsS p L).2 : Nat) : Int) = 0 := by omega
      have hth : thenE (valsS p L).2 (valsS p S).2 = (valsS p S).2 := by rw [heL]; rfl
      simp (disch := first | omega | assumption) only [C.ref3_WriteMap_gos, vs, T.ts, and_true, true_and, List.getElem?_toArray, List.getElem?_cons_zero, List.getElem?_cons_succ, ↓reduceIte, Nat.reduceEqDiff, Option.bind_some, Option.map_some, Option.isSome_some, ne_eq, Bool.not_true, Bool.not_false, Bool.true_eq_false, Bool.false_eq_true, Bool.not_eq_true', Bool.not_eq_false', reduceCtorEq, Option.some.injEq, decide_eq_true_eq, decide_eq_false_iff_not, not_true_eq_false, not_false_eq_true, decide_true, decide_false, List.size_toArray, List.length_cons, List.length_nil, List.cons_append, List.nil_append, List.append_nil, List.map_cons, List.map_nil, Array.size_push, Int.toNat_natCast, List.toList_toArray, Nat.min_def, Nat.reduceLeDiff, Nat.reducePow, Int.reducePow, Int.reduceToNat, Int.tdiv_eq_ediv_of_nonneg, Int.tmod_eq_emod_of_nonneg, Int.fdiv_eq_ediv_of_nonneg, Nat.mul_one, Nat.reduceAdd, Nat.zero_add, Nat.add_zero, implies_true, false_implies, true_implies, eq_true heL', j1, j2, hwL, hwS, a1]
    case' neg =>
      have heL' : ¬ (((valsS p L).2 : Nat) : Int) = 0 := by omega
      have hth : thenE (valsS p L).2 (valsS p S).2 = (valsS p L).2 := by unfold thenE; rw [if_neg heL]
      simp (disch := first | omega | assumption) only [C.ref3_WriteMap_gos, vs, T.ts, and_true, true_and, List.getElem?_toArray, List.getElem?_cons_zero, List.getElem?_cons_succ, ↓reduceIte, Nat.reduceEqDiff, Option.bind_some, Option.map_some, Option.isSome_some, ne_eq, Bool.not_true, Bool.not_false, Bool.true_eq_false, Bool.false_eq_true, Bool.not_eq_true', Bool.not_eq_false', reduceCtorEq, Option.some.injEq, decide_eq_true_eq, decide_eq_false_iff_not, not_true_eq_false, not_false_eq_true, decide_true, decide_false, List.size_toArray, List.length_cons, List.length_nil, List.cons_append, List.nil_append, List.append_nil, List.map_cons, List.map_nil, Array.size_push, Int.toNat_natCast, List.toList_toArray, Nat.min_def, Nat.reduceLeDiff, Nat.reducePow, Int.reducePow, Int.reduceToNat, Int.tdiv_eq_ediv_of_nonneg, Int.tmod_eq_emod_of_nonneg, Int.fdiv_eq_ediv_of_nonneg, Nat.mul_one, Nat.reduceAdd, Nat.zero_add, Nat.add_zero, implies_true, false_implies, true_implies, eq_false heL', j1, j2, hwL, hwS, a1]
    all_goals
      refine eff_call_of ?_
      simp (disch := first | omega | assumption) only [C.ref3_WriteMap_gos, vs, T.ts, and_true, true_and, List.getElem?_toArray, List.getElem?_cons_zero, List.getElem?_cons_succ, ↓reduceIte, Nat.reduceEqDiff, Option.bind_some, Option.map_some, Option.isSome_some, ne_eq, Bool.not_true, Bool.not_false, Bool.true_eq_false, Bool.false_eq_true, Bool.not_eq_true', Bool.not_eq_false', reduceCtorEq, Option.some.injEq, decide_eq_true_eq, decide_eq_false_iff_not, not_true_eq_false, not_false_eq_true, decide_true, decide_false, List.size_toArray, List.length_cons, List.length_nil, List.cons_append, List.nil_append, List.append_nil, List.map_cons, List.map_nil, Array.size_push, Int.toNat_natCast, List.toList_toArray, Nat.min_def, Nat.reduceLeDiff, Nat.reducePow, Int.reducePow, Int.reduceToNat, Int.tdiv_eq_ediv_of_nonneg, Int.tmod_eq_emod_of_nonneg, Int.fdiv_eq_ediv_of_nonneg, Nat.mul_one, Nat.reduceAdd, Nat.zero_add, Nat.add_zero, implies_true, false_implies, true_implies]
      refine (rbig_any L.length 2 h7 (by omega) (by omega)).mono ?_
      rintro v8 h8 ⟨x8, rfl⟩
      have b8 := Fr_blk x8 b7 id
      have own8 := own7.ext x8
      have hx8 := hx7.trans x8
      have j3 : cellAt h8 ⟨q, 2, none⟩ = some (.slice aS S.length kS) := by rw [cellAt_of b8]; rfl
      simp (disch := first | omega | assumption) only [C.ref3_WriteMap_gos, vs, T.ts, and_true, true_and, List.getElem?_toArray, List.getElem?_cons_zero, List.getElem?_cons_succ, ↓reduceIte, Nat.reduceEqDiff, Option.bind_some, Option.map_some, Option.isSome_some, ne_eq, Bool.not_true, Bool.not_false, Bool.true_eq_false, Bool.false_eq_true, Bool.not_eq_true', Bool.not_eq_false', reduceCtorEq, Option.some.injEq, decide_eq_true_eq, decide_eq_false_iff_not, not_true_eq_false, not_false_eq_true, decide_true, decide_false, List.size_toArray, List.length_cons, List.length_nil, List.cons_append, List.nil_append, List.append_nil, List.map_cons, List.map_nil, Array.size_push, Int.toNat_natCast, List.toList_toArray, Nat.min_def, Nat.reduceLeDiff, Nat.reducePow, Int.reducePow, Int.reduceToNat, Int.tdiv_eq_ediv_of_nonneg, Int.tmod_eq_emod_of_nonneg, Int.fdiv_eq_ediv_of_nonneg, Nat.mul_one, Nat.reduceAdd, Nat.zero_add, Nat.add_zero, implies_true, false_implies, true_implies, j3, hwS, a1, a2, a3]
      refine eff_call_of ?_
      simp (disch := first | omega | assumption) only [C.ref3_WriteMap_gos, vs, T.ts, and_true, true_and, List.getElem?_toArray, List.getElem?_cons_zero, List.getElem?_cons_succ, ↓reduceIte, Nat.reduceEqDiff, Option.bind_some, Option.map_some, Option.isSome_some, ne_eq, Bool.not_true, Bool.not_false, Bool.true_eq_false, Bool.false_eq_true, Bool.not_eq_true', Bool.not_eq_false', reduceCtorEq, Option.some.injEq, decide_eq_true_eq, decide_eq_false_iff_not, not_true_eq_false, not_false_eq_true, decide_true, decide_false, List.size_toArray, List.length_cons, List.length_nil, List.cons_append, List.nil_append, List.append_nil, List.map_cons, List.map_nil, Array.size_push, Int.toNat_natCast, List.toList_toArray, Nat.min_def, Nat.reduceLeDiff, Nat.reducePow, Int.reducePow, Int.reduceToNat, Int.tdiv_eq_ediv_of_nonneg, Int.tmod_eq_emod_of_nonneg, Int.fdiv_eq_ediv_of_nonneg, Nat.mul_one, Nat.reduceAdd, Nat.zero_add, Nat.add_zero, implies_true, false_implies, true_implies, a1, a2, a3]
      refine (rbig_any S.length 2 h8 (by omega) (by omega)).mono ?_
      rintro v88 h88 ⟨x88, rfl⟩
      have b88 := Fr_blk x88 b8 id
      have own88 := own8.ext x88
      have hx88 := hx8.trans x88
      have hfr : frS p ⟨fat, L, S⟩ d loc = ((255 : UInt8) :: (bigS d 2 ++ bigS L.length 2 ++ (valsS p L).1 ++ bigS S.length 2 ++ (valsS p S).1), thenE (valsS p L).2 (valsS p S).2) := by rw [hw0]; rfl
      rw [hfr, hth] at hR
      simp only at hR
      have f0 : cellAt h88 ⟨q, 0, none⟩ = some (.int .i64 fat) := by rw [cellAt_of b88]; rfl
      have f1 : cellAt h88 ⟨q, 1, none⟩ = some (.slice aL L.length kL) := by rw [cellAt_of b88]; rfl
      have hbl : ((255 : UInt8) :: (bigS d 2 ++ bigS L.length 2 ++ (valsS p L).1 ++ bigS S.length 2 ++ (valsS p S).1)).length ≤ 400000 := by
        have := frS_len p ⟨fat, L, S⟩ d loc (by simp only; omega) (by simp only; omega)
        rw [hfr] at this
        exact this
    case' pos =>
      by_cases hez : (valsS p S).2 = 0
      case neg =>
        have hez' : ¬ (((valsS p S).2 : Nat) : Int) = 0 := by omega
        rw [if_pos hez] at hR
        subst hR
        simp (disch := first | omega | assumption) only [C.ref3_WriteMap_gos, vs, T.ts, and_true, true_and, List.getElem?_toArray, List.getElem?_cons_zero, List.getElem?_cons_succ, ↓reduceIte, Nat.reduceEqDiff, Option.bind_some, Option.map_some, Option.isSome_some, ne_eq, Bool.not_true, Bool.not_false, Bool.true_eq_false, Bool.false_eq_true, Bool.not_eq_true', Bool.not_eq_false', reduceCtorEq, Option.some.injEq, decide_eq_true_eq, decide_eq_false_iff_not, not_true_eq_false, not_false_eq_true, decide_true, decide_false, List.size_toArray, List.length_cons, List.length_nil, List.cons_append, List.nil_append, List.append_nil, List.map_cons, List.map_nil, Array.size_push, Int.toNat_natCast, List.toList_toArray, Nat.min_def, Nat.reduceLeDiff, Nat.reducePow, Int.reducePow, Int.reduceToNat, Int.tdiv_eq_ediv_of_nonneg, Int.tmod_eq_emod_of_nonneg, Int.fdiv_eq_ediv_of_nonneg, Nat.mul_one, Nat.reduceAdd, Nat.zero_add, Nat.add_zero, implies_true, false_implies, true_implies, a1, a2, a3, a4, a5, eq_false hez']
        exact ⟨hx88, rfl⟩
      have hez' : (((valsS p S).2 : Nat) : Int) = 0 := by omega
      rw [if_neg (by rw [hez]; simp)] at hR
      simp (disch := first | omega | assumption) only [C.ref3_WriteMap_gos, vs, T.ts, and_true, true_and, List.getElem?_toArray, List.getElem?_cons_zero, List.getElem?_cons_succ, ↓reduceIte, Nat.reduceEqDiff, Option.bind_some, Option.map_some, Option.isSome_some, ne_eq, Bool.not_true, Bool.not_false, Bool.true_eq_false, Bool.false_eq_true, Bool.not_eq_true', Bool.not_eq_false', reduceCtorEq, Option.some.injEq, decide_eq_true_eq, decide_eq_false_iff_not, not_true_eq_false, not_false_eq_true, decide_true, decide_false, List.size_toArray, List.length_cons, List.length_nil, List.cons_append, List.nil_append, List.append_nil, List.map_cons, List.map_nil, Array.size_push, Int.toNat_natCast, List.toList_toArray, Nat.min_def, Nat.reduceLeDiff, Nat.reducePow, Int.reducePow, Int.reduceToNat, Int.tdiv_eq_ediv_of_nonneg, Int.tmod_eq_emod_of_nonneg, Int.fdiv_eq_ediv_of_nonneg, Nat.mul_one, Nat.reduceAdd, Nat.zero_add, Nat.add_zero, implies_true, false_implies, true_implies, a1, a2, a3, a4, a5, eq_true hez']
    case neg =>
      rw [if_pos heL] at hR
      subst hR
      simp (disch := first | omega | assumption) only [C.ref3_WriteMap_gos, vs, T.ts, and_true, true_and, List.getElem?_toArray, List.getElem?_cons_zero, List.getElem?_cons_succ, ↓reduceIte, Nat.reduceEqDiff, Option.bind_some, Option.map_some, Option.isSome_some, ne_eq, Bool.not_true, Bool.not_false, Bool.true_eq_false, Bool.false_eq_true, Bool.not_eq_true', Bool.not_eq_false', reduceCtorEq, Option.some.injEq, decide_eq_true_eq, decide_eq_false_iff_not, not_true_eq_false, not_false_eq_true, decide_true, decide_false, List.size_toArray, List.length_cons, List.length_nil, List.cons_append, List.nil_append, List.append_nil, List.map_cons, List.map_nil, Array.size_push, Int.toNat_natCast, List.toList_toArray, Nat.min_def, Nat.reduceLeDiff, Nat.reducePow, Int.reducePow, Int.reduceToNat, Int.tdiv_eq_ediv_of_nonneg, Int.tmod_eq_emod_of_nonneg, Int.fdiv_eq_ediv_of_nonneg, Nat.mul_one, Nat.reduceAdd, Nat.zero_add, Nat.add_zero, implies_true, false_implies, true_implies, a1, a2, a3, a4, a5, eq_false heL']
      exact ⟨hx88, rfl⟩
    refine eff_append_str (l := (255 : UInt8) :: (bigS d 2 ++ bigS L.length 2 ++ (valsS p L).1 ++ bigS S.length 2 ++ (valsS p S).1)) T.slT_43 Try.underlying9 rfl rfl own88 (by omega) (by omega) hx88.size ?_
    intro v9 h9 own9 fr9
    have hx9 : Ext h h9 := Ext.app hx88 fr9 (fun k hk => (own88.lt k hk).1)
    have b9 := Fr_blk fr9 b88 (Own_ne own88 b88 (by decide))
    have i0 : cellAt h9 ⟨q, 0, none⟩ = some (.int .i64 fat) := by rw [cellAt_of b9]; rfl
    have i1 : cellAt h9 ⟨q, 1, none⟩ = some (.slice aL L.length kL) := by rw [cellAt_of b9]; rfl
    simp (disch := first | omega | assumption) only [C.ref3_WriteMap_gos, vs, T.ts, and_true, true_and, List.getElem?_toArray, List.getElem?_cons_zero, List.getElem?_cons_succ, ↓reduceIte, Nat.reduceEqDiff, Option.bind_some, Option.map_some, Option.isSome_some, ne_eq, Bool.not_true, Bool.not_false, Bool.true_eq_false, Bool.false_eq_true, Bool.not_eq_true', Bool.not_eq_false', reduceCtorEq, Option.some.injEq, decide_eq_true_eq, decide_eq_false_iff_not, not_true_eq_false, not_false_eq_true, decide_true, decide_false, List.size_toArray, List.length_cons, List.length_nil, List.cons_append, List.nil_append, List.append_nil, List.map_cons, List.map_nil, Array.size_push, Int.toNat_natCast, List.toList_toArray, Nat.min_def, Nat.reduceLeDiff, Nat.reducePow, Int.reducePow, Int.reduceToNat, Int.tdiv_eq_ediv_of_nonneg, Int.tmod_eq_emod_of_nonneg, Int.fdiv_eq_ediv_of_nonneg, Nat.mul_one, Nat.reduceAdd, Nat.zero_add, Nat.add_zero, implies_true, false_implies, true_implies, i0, i1]
    exact ⟨_, by omega, i + 1, fat, L, _, _, _, rfl, by omega, by simp, Own_cast own9 (by simp) (by simp [bytesV]), hx9, sL, cL, hll2.1, by omega, by omega, by rw [List.length_append]; omega, hR⟩
  have hdf : decide (L = loc) = false := decide_eq_false hsame
  rw [hdf]
  simp (disch := first | omega | assumption) only [C.ref3_WriteMap_gos, vs, T.ts, and_true, true_and, List.getElem?_toArray, List.getElem?_cons_zero, List.getElem?_cons_succ, ↓reduceIte, Nat.reduceEqDiff, Option.bind_some, Option.map_some, Option.isSome_some, ne_eq, Bool.not_true, Bool.not_false, Bool.true_eq_false, Bool.false_eq_true, Bool.not_eq_true', Bool.not_eq_false', reduceCtorEq, Option.some.injEq, decide_eq_true_eq, decide_eq_false_iff_not, not_true_eq_false, not_false_eq_true, decide_true, decide_false, List.size_toArray, List.length_cons, List.length_nil, List.cons_append, List.nil_append, List.append_nil, List.map_cons, List.map_nil, Array.size_push, Int.toNat_natCast, List.toList_toArray, Nat.min_def, Nat.reduceLeDiff, Nat.reducePow, Int.reducePow, Int.reduceToNat, Int.tdiv_eq_ediv_of_nonneg, Int.tmod_eq_emod_of_nonneg, Int.fdiv_eq_ediv_of_nonneg, Nat.mul_one, Nat.reduceAdd, Nat.zero_add, Nat.add_zero, implies_true, false_implies, true_implies, e1, e2, Int.reduceEq, Int.reduceNeg, Int.reduceLT, decide_true, decide_false]
  refine eff_call_of ?_
  simp (disch := first | omega | assumption) only [C.ref3_WriteMap_gos, vs, T.ts, and_true, true_and, List.getElem?_toArray, List.getElem?_cons_zero, List.getElem?_cons_succ, ↓reduceIte, Nat.reduceEqDiff, Option.bind_some, Option.map_some, Option.isSome_some, ne_eq, Bool.not_true, Bool.not_false, Bool.true_eq_false, Bool.false_eq_true, Bool.not_eq_true', Bool.not_eq_false', reduceCtorEq, Option.some.injEq, decide_eq_true_eq, decide_eq_false_iff_not, not_true_eq_false, not_false_eq_true, decide_true, decide_false, List.size_toArray, List.length_cons, List.length_nil, List.cons_append, List.nil_append, List.append_nil, List.map_cons, List.map_nil, Array.size_push, Int.toNat_natCast, List.toList_toArray, Nat.min_def, Nat.reduceLeDiff, Nat.reducePow, Int.reducePow, Int.reduceToNat, Int.tdiv_eq_ediv_of_nonneg, Int.tmod_eq_emod_of_nonneg, Int.fdiv_eq_ediv_of_nonneg, Nat.mul_one, Nat.reduceAdd, Nat.zero_add, Nat.add_zero, implies_true, false_implies, true_implies]
  refine (same3_any L loc _ _ _ _ rfl rfl sL5 sl5 (by omega)).mono ?_
  rintro v6 h6 ⟨rfl, rfl⟩
  rw [hdf]
  simp (disch := first | omega | assumption) only [C.ref3_WriteMap_gos, vs, T.ts, and_true, true_and, List.getElem?_toArray, List.getElem?_cons_zero, List.getElem?_cons_succ, ↓reduceIte, Nat.reduceEqDiff, Option.bind_some, Option.map_some, Option.isSome_some, ne_eq, Bool.not_true, Bool.not_false, Bool.true_eq_false, Bool.false_eq_true, Bool.not_eq_true', Bool.not_eq_false', reduceCtorEq, Option.some.injEq, decide_eq_true_eq, decide_eq_false_iff_not, not_true_eq_false, not_false_eq_true, decide_true, decide_false, List.size_toArray, List.length_cons, List.length_nil, List.cons_append, List.nil_append, List.append_nil, List.map_cons, List.map_nil, Array.size_push, Int.toNat_natCast, List.toList_toArray, Nat.min_def, Nat.reduceLeDiff, Nat.reducePow, Int.reducePow, Int.reduceToNat, Int.tdiv_eq_ediv_of_nonneg, Int.tmod_eq_emod_of_nonneg, Int.fdiv_eq_ediv_of_nonneg, Nat.mul_one, Nat.reduceAdd, Nat.zero_add, Nat.add_zero, implies_true, false_implies, true_implies, e1, e2, Int.reduceEq, Int.reduceNeg, Int.reduceLT, decide_true, decide_false]
  refine eff_call_of ?_
  simp (disch := first | omega | assumption) only [C.ref3_WriteMap_gos, vs, T.ts, and_true, true_and, List.getElem?_toArray, List.getElem?_cons_zero, List.getElem?_cons_succ, ↓reduceIte, Nat.reduceEqDiff, Option.bind_some, Option.map_some, Option.isSome_some, ne_eq, Bool.not_true, Bool.not_false, Bool.true_eq_false, Bool.false_eq_true, Bool.not_eq_true', Bool.not_eq_false', reduceCtorEq, Option.some.injEq, decide_eq_true_eq, decide_eq_false_iff_not, not_true_eq_false, not_false_eq_true, decide_true, decide_false, List.size_toArray, List.length_cons, List.length_nil, List.cons_append, List.nil_append, List.append_nil, List.map_cons, List.map_nil, Array.size_push, Int.toNat_natCast, List.toList_toArray, Nat.min_def, Nat.reduceLeDiff, Nat.reducePow, Int.reducePow, Int.reduceToNat, Int.tdiv_eq_ediv_of_nonneg, Int.tmod_eq_emod_of_nonneg, Int.fdiv_eq_ediv_of_nonneg, Nat.mul_one, Nat.reduceAdd, Nat.zero_add, Nat.add_zero, implies_true, false_implies, true_implies]
  refine (same3_any L loc _ _ _ _ rfl rfl sL5 sl5 (by omega)).mono ?_
  rintro v6 h6 ⟨rfl, rfl⟩
  rw [hdf]
  simp (disch := first | omega | assumption) only [C.ref3_WriteMap_gos, vs, T.ts, and_true, true_and, List.getElem?_toArray, List.getElem?_cons_zero, List.getElem?_cons_succ, ↓reduceIte, Nat.reduceEqDiff, Option.bind_some, Option.map_some, Option.isSome_some, ne_eq, Bool.not_true, Bool.not_false, Bool.true_eq_false, Bool.false_eq_true, Bool.not_eq_true', Bool.not_eq_false', reduceCtorEq, Option.some.injEq, decide_eq_true_eq, decide_eq_false_iff_not, not_true_eq_false, not_false_eq_true, decide_true, decide_false, List.size_toArray, List.length_cons, List.length_nil, List.cons_append, List.nil_append, List.append_nil, List.map_cons, List.map_nil, Array.size_push, Int.toNat_natCast, List.toList_toArray, Nat.min_def, Nat.reduceLeDiff, Nat.reducePow, Int.reducePow, Int.reduceToNat, Int.tdiv_eq_ediv_of_nonneg, Int.tmod_eq_emod_of_nonneg, Int.fdiv_eq_ediv_of_nonneg, Nat.mul_one, Nat.reduceAdd, Nat.zero_add, Nat.add_zero, implies_true, false_implies, true_implies, e1, e2, Int.reduceEq, Int.reduceNeg, Int.reduceLT, decide_true, decide_false]
  refine eff_call_of ?_
  simp (disch := first | omega | assumption) only [C.ref3_WriteMap_gos, vs, T.ts, and_true, true_and, List.getElem?_toArray, List.getElem?_cons_zero, List.getElem?_cons_succ, ↓reduceIte, Nat.reduceEqDiff, Option.bind_some, Option.map_some, Option.isSome_some, ne_eq, Bool.not_true, Bool.not_false, Bool.true_eq_false, Bool.false_eq_true, Bool.not_eq_true', Bool.not_eq_false', reduceCtorEq, Option.some.injEq, decide_eq_true_eq, decide_eq_false_iff_not, not_true_eq_false, not_false_eq_true, decide_true, decide_false, List.size_toArray, List.length_cons, List.length_nil, List.cons_append, List.nil_append, List.append_nil, List.map_cons, List.map_nil, Array.size_push, Int.toNat_natCast, List.toList_toArray, Nat.min_def, Nat.reduceLeDiff, Nat.reducePow, Int.reducePow, Int.reduceToNat, Int.tdiv_eq_ediv_of_nonneg, Int.tmod_eq_emod_of_nonneg, Int.fdiv_eq_ediv_of_nonneg, Nat.mul_one, Nat.reduceAdd, Nat.zero_add, Nat.add_zero, implies_true, false_implies, true_implies]
  refine (same3_any L loc _ _ _ _ rfl rfl sL5 sl5 (by omega)).mono ?_
  rintro v6 h6 ⟨rfl, rfl⟩
  rw [hdf]
  have hne : L.length = loc.length → likeS L loc = false := fun hn => by rw [like_same hn, hdf]
  by_cases hlt2 : L.length < loc.length
  case pos =>
    have m1 : (L.length : Int) - loc.length < 0 := by omega
    have m2 : ¬ (0 : Int) < (L.length : Int) - loc.length := by omega
    have hnn : ¬ L.length = loc.length := by omega
    by_cases h3 : (-3 : Int) ≤ (L.length : Int) - loc.length
    case neg =>
      have h3' : ¬ loc.length ≤ L.length + 3 := by omega
      simp (disch := first | omega | assumption) only [C.ref3_WriteMap_gos, vs, T.ts, and_true, true_and, List.getElem?_toArray, List.getElem?_cons_zero, List.getElem?_cons_succ, ↓reduceIte, Nat.reduceEqDiff, Option.bind_some, Option.map_some, Option.isSome_some, ne_eq, Bool.not_true, Bool.not_false, Bool.true_eq_false, Bool.false_eq_true, Bool.not_eq_true', Bool.not_eq_false', reduceCtorEq, Option.some.injEq, decide_eq_true_eq, decide_eq_false_iff_not, not_true_eq_false, not_false_eq_true, decide_true, decide_false, List.size_toArray, List.length_cons, List.length_nil, List.cons_append, List.nil_append, List.append_nil, List.map_cons, List.map_nil, Array.size_push, Int.toNat_natCast, List.toList_toArray, Nat.min_def, Nat.reduceLeDiff, Nat.reducePow, Int.reducePow, Int.reduceToNat, Int.tdiv_eq_ediv_of_nonneg, Int.tmod_eq_emod_of_nonneg, Int.fdiv_eq_ediv_of_nonneg, Nat.mul_one, Nat.reduceAdd, Nat.zero_add, Nat.add_zero, implies_true, false_implies, true_implies, e1, e2, Int.reduceEq, Int.reduceNeg, Int.reduceLT, decide_true, decide_false, m1, m2, h3]
      refine eff_call_of ?_
      simp (disch := first | omega | assumption) only [C.ref3_WriteMap_gos, vs, T.ts, and_true, true_and, List.getElem?_toArray, List.getElem?_cons_zero, List.getElem?_cons_succ, ↓reduceIte, Nat.reduceEqDiff, Option.bind_some, Option.map_some, Option.isSome_some, ne_eq, Bool.not_true, Bool.not_false, Bool.true_eq_false, Bool.false_eq_true, Bool.not_eq_true', Bool.not_eq_false', reduceCtorEq, Option.some.injEq, decide_eq_true_eq, decide_eq_false_iff_not, not_true_eq_false, not_false_eq_true, decide_true, decide_false, List.size_toArray, List.length_cons, List.length_nil, List.cons_append, List.nil_append, List.append_nil, List.map_cons, List.map_nil, Array.size_push, Int.toNat_natCast, List.toList_toArray, Nat.min_def, Nat.reduceLeDiff, Nat.reducePow, Int.reducePow, Int.reduceToNat, Int.tdiv_eq_ediv_of_nonneg, Int.tmod_eq_emod_of_nonneg, Int.fdiv_eq_ediv_of_nonneg, Nat.mul_one, Nat.reduceAdd, Nat.zero_add, Nat.add_zero, implies_true, false_implies, true_implies]
      refine (told_any L p _ _ _ sL5 hfit.L (by omega) (hp.ext (by decide) hx5) hpf hpl).mono ?_
      rintro v7 h7 ⟨x7, rfl⟩
      have b7 := Fr_blk x7 b5 id
      have own7 := own5.ext x7
      have hx7 := hx5.trans x7
      have j1 : cellAt h7 ⟨q, 1, none⟩ = some (.slice aL L.length kL) := by rw [cellAt_of b7]; rfl
      have j2 : cellAt h7 ⟨q, 2, none⟩ = some (.slice aS S.length kS) := by rw [cellAt_of b7]; rfl
      have hwL : IntKind.u64.wrap (L.length : Int) = (L.length : Int) := wrap_u64 (by omega) (by omega)
      have hwS : IntKind.u64.wrap (S.length : Int) = (S.length : Int) := wrap_u64 (by omega) (by omega)
      have hlL : (bigS L.length 2).length = 2 := bigS_len
      have hlS : (bigS S.length 2).length = 2 := bigS_len
      have a1 : [(255 : UInt8)].length + (bigS d 2).length ≤ 9223372036854775807 := by simp only [List.length_cons, List.length_append, List.length_nil]; omega
      have a2 : ((255 : UInt8) :: bigS d 2).length + (bigS L.length 2).length ≤ 9223372036854775807 := by simp only [List.length_cons, List.length_append, List.length_nil]; omega
      have a3 : ((255 : UInt8) :: (bigS d 2 ++ bigS L.length 2)).length + (valsS p L).1.length ≤ 9223372036854775807 := by simp only [List.length_cons, List.length_append, List.length_nil]; omega
      have a4 : ((255 : UInt8) :: (bigS d 2 ++ bigS L.length 2 ++ (valsS p L).1)).length + (bigS S.length 2).length ≤ 9223372036854775807 := by simp only [List.length_cons, List.length_append, List.length_nil]; omega
      have a5 : ((255 : UInt8) :: (bigS d 2 ++ bigS L.length 2 ++ (valsS p L).1 ++ bigS S.length 2)).length + (valsS p S).1.length ≤ 9223372036854775807 := by simp only [List.length_cons, List.length_append, List.length_nil]; omega
      have hw0 : frS p ⟨fat, L, S⟩ d loc = defS p ⟨fat, L, S⟩ d := by unfold frS; simp only [hnn, hlt2, h3', if_true, if_false, ite_self]
      by_cases heL : (valsS p L).2 = 0
      case' pos =>
        have heL' : (((valsS p L).2 : Nat) : Int) = 0 := by omega
        have hth : thenE (valsS p L).2 (valsS p S).2 = (valsS p S).2 := by rw [heL]; rfl
        simp (disch := first | omega | assumption) only [C.ref3_WriteMap_gos, vs, T.ts, and_true, true_and, List.getElem?_toArray, List.getElem?_cons_zero, List.getElem?_cons_succ, ↓reduceIte, Nat.reduceEqDiff, Option.bind_some, Option.map_some, Option.isSome_some, ne_eq, Bool.not_true, Bool.not_false, Bool.true_eq_false, Bool.false_eq_true, Bool.not_eq_true', Bool.not_eq_false', reduceCtorEq, Option.some.injEq, decide_eq_true_eq, decide_eq_false_iff_not, not_true_eq_false, not_false_eq_true, decide_true, decide_false, List.size_toArray, List.length_cons, List.length_nil, List.cons_append, List.nil_append, List.append_nil, List.map_cons, List.map_nil, Array.size_push, Int.toNat_natCast, List.toList_toArray, Nat.min_def, Nat.reduceLeDiff, Nat.reducePow, Int.reducePow, Int.reduceToNat, Int.tdiv_eq_ediv_of_nonneg, Int.tmod_eq_emod_of_nonneg, Int.fdiv_eq_ediv_of_nonneg, Nat.mul_one, Nat.reduceAdd, Nat.zero_add, Nat.add_zero, implies_true, false_implies, true_implies, eq_true heL', j1, j2, hwL, hwS, a1]
      case' neg =>
        have heL' : ¬ (((valsS p L).2 : Nat) : Int) = 0 := by omega
        have hth : thenE (valsS p L).2 (valsS p S).2 = (valsS p L).2 := by unfold thenE; rw [if_neg heL]
        simp (disch := first | omega | assumption) only [C.ref3_WriteMap_gos, vs, T.ts, and_true, true_and, List.getElem?_toArray, List.getElem?_cons_zero, List.getElem?_cons_succ, ↓reduceIte, Nat.reduceEqDiff, Option.bind_some, Option.map_some, Option.isSome_some, ne_eq, Bool.not_true, Bool.not_false, Bool.true_eq_false, Bool.false_eq_true, Bool.not_eq_true', Bool.not_eq_false', reduceCtorEq, Option.some.injEq, decide_eq_true_eq, decide_eq_false_iff_not, not_true_eq_false, not_false_eq_true, decide_true, decide_false, List.size_toArray, List.length_cons, List.length_nil, List.cons_append, List.nil_append, List.append_nil, List.map_cons, List.map_nil, Array.size_push, Int.toNat_natCast, List.toList_toArray, Nat.min_def, Nat.reduceLeDiff, Nat.reducePow, Int.reducePow, Int.reduceToNat, Int.tdiv_eq_ediv_of_nonneg, Int.tmod_eq_emod_of_nonneg, Int.fdiv_eq_ediv_of_nonneg, Nat.mul_one, Nat.reduceAdd, Nat.zero_add, Nat.add_zero, implies_true, false_implies, true_implies, eq_false heL', j1, j2, hwL, hwS, a1]
      all_goals
        refine eff_call_of ?_
        simp (disch := first | omega | assumption) only [C.ref3_WriteMap_gos, vs, T.ts, and_true, true_and, List.getElem?_toArray, List.getElem?_cons_zero, List.getElem?_cons_succ, ↓reduceIte, Nat.reduceEqDiff, Option.bind_some, Option.map_some, Option.isSome_some, ne_eq, Bool.not_true, Bool.not_false, Bool.true_eq_false, Bool.false_eq_true, Bool.not_eq_true', Bool.not_eq_false', reduceCtorEq, Option.some.injEq, decide_eq_true_eq, decide_eq_false_iff_not, not_true_eq_false, not_false_eq_true, decide_true, decide_false, List.size_toArray, List.length_cons, List.length_nil, List.cons_append, List.nil_append, List.append_nil, List.map_cons, List.map_nil, Array.size_push, Int.toNat_natCast, List.toList_toArray, Nat.min_def, Nat.reduceLeDiff, Nat.reducePow, Int.reducePow, Int.reduceToNat, Int.tdiv_eq_ediv_of_nonneg, Int.tmod_eq_emod_of_nonneg, Int.fdiv_eq_ediv_of_nonneg, Nat.mul_one, Nat.reduceAdd, Nat.zero_add, Nat.add_zero, implies_true, false_implies, true_implies]
        refine (rbig_any L.length 2 h7 (by omega) (by omega)).mono ?_
        rintro v8 h8 ⟨x8, rfl⟩
        have b8 := Fr_blk x8 b7 id
        have own8 := own7.ext x8
        have hx8 := hx7.trans x8
        have j3 : cellAt h8 ⟨q, 2, none⟩ = some (.slice aS S.length kS) := by rw [cellAt_of b8]; rfl
        simp (disch := first | omega | assumption) only [C.ref3_WriteMap_gos, vs, T.ts, and_true, true_and, List.getElem?_toArray, List.getElem?_cons_zero, List.getElem?_cons_succ, ↓reduceIte, Nat.reduceEqDiff, Option.bind_some, Option.map_some, Option.isSome_some, ne_eq, Bool.not_true, Bool.not_false, Bool.true_eq_false, Bool.false_eq_true, Bool.not_eq_true', Bool.not_eq_false', reduceCtorEq, Option.some.injEq, decide_eq_true_eq, decide_eq_false_iff_not, not_true_eq_false, not_false_eq_true, decide_true, decide_false, List.size_toArray, List.length_cons, List.length_nil, List.cons_append, List.nil_append, List.append_nil, List.map_cons, List.map_nil, Array.size_push, Int.toNat_natCast, List.toList_toArray, Nat.min_def, Nat.reduceLeDiff, Nat.reducePow, Int.reducePow, Int.reduceToNat, Int.tdiv_eq_ediv_of_nonneg, Int.tmod_eq_emod_of_nonneg, Int.fdiv_eq_ediv_of_nonneg, Nat.mul_one, Nat.reduceAdd, Nat.zero_add, Nat.add_zero, implies_true, false_implies, true_implies, j3, hwS, a1, a2, a3]
        refine eff_call_of ?_
        simp (disch := first | omega | assumption) only [C.ref3_WriteMap_gos, vs, T.ts, and_true, true_and, List.getElem?_toArray, List.getElem?_cons_zero, List.getElem?_cons_succ, ↓reduceIte, Nat.reduceEqDiff, Option.bind_some, Option.map_some, Option.isSome_some, ne_eq, Bool.not_true, Bool.not_false, Bool.true_eq_false, Bool.false_eq_true, Bool.not_eq_true', Bool.not_eq_false', reduceCtorEq, Option.some.injEq, decide_eq_true_eq, decide_eq_false_iff_not, not_true_eq_false, not_false_eq_true, decide_true, decide_false, List.size_toArray, List.length_cons, List.length_nil, List.cons_append, List.nil_append, List.append_nil, List.map_cons, List.map_nil, Array.size_push, Int.toNat_natCast, List.toList_toArray, Nat.min_def, Nat.reduceLeDiff, Nat.reducePow, Int.reducePow, Int.reduceToNat, Int.tdiv_eq_ediv_of_nonneg, Int.tmod_eq_emod_of_nonneg, Int.fdiv_eq_ediv_of_nonneg, Nat.mul_one, Nat.reduceAdd, Nat.zero_add, Nat.add_zero, implies_true, false_implies, true_implies, a1, a2, a3]
        refine (rbig_any S.length 2 h8 (by omega) (by omega)).mono ?_
        rintro v88 h88 ⟨x88, rfl⟩
        have b88 := Fr_blk x88 b8 id
        have own88 := own8.ext x88
        have hx88 := hx8.trans x88
        have hfr : frS p ⟨fat, L, S⟩ d loc = ((255 : UInt8) :: (bigS d 2 ++ bigS L.length 2 ++ (valsS p L).1 ++ bigS S.length 2 ++ (valsS p S).1), thenE (valsS p L).2 (valsS p S).2) := by rw [hw0]; rfl
        rw [hfr, hth] at hR
        simp only at hR
        have f0 : cellAt h88 ⟨q, 0, none⟩ = some (.int .i64 fat) := by rw [cellAt_of b88]; rfl
        have f1 : cellAt h88 ⟨q, 1, none⟩ = some (.slice aL L.length kL) := by rw [cellAt_of b88]; rfl
        have hbl : ((255 : UInt8) :: (bigS d 2 ++ bigS L.length 2 ++ (valsS p L).1 ++ bigS S.length 2 ++ (valsS p S).1)).length ≤ 400000 := by
          have := frS_len p ⟨fat, L, S⟩ d loc (by simp only; omega) (by simp only; omega)
          rw [hfr] at this
          exact this
      case' pos =>
        by_cases hez : (valsS p S).2 = 0
        case neg =>
          have hez' : ¬ (((valsS p S).2 : Nat) : Int) = 0 := by omega
          rw [if_pos hez] at hR
          subst hR
          simp (disch := first | omega | assumption) only [C.ref3_WriteMap_gos, vs, T.ts, and_true, true_and, List.getElem?_toArray, List.getElem?_cons_zero, List.getElem?_cons_succ, ↓reduceIte, Nat.reduceEqDiff, Option.bind_some, Option.map_some, Option.isSome_some, ne_eq, Bool.not_true, Bool.not_false, Bool.true_eq_false, Bool.false_eq_true, Bool.not_eq_true', Bool.not_eq_false', reduceCtorEq, Option.some.injEq, decide_eq_true_eq, decide_eq_false_iff_not, not_true_eq_false, not_false_eq_true, decide_true, decide_false, List.size_toArray, List.length_cons, List.length_nil, List.cons_append, List.nil_append, List.append_nil, List.map_cons, List.map_nil, Array.size_push, Int.toNat_natCast, List.toList_toArray, Nat.min_def, Nat.reduceLeDiff, Nat.reducePow, Int.reducePow, Int.reduceToNat, Int.tdiv_eq_ediv_of_nonneg, Int.tmod_eq_emod_of_nonneg, Int.fdiv_eq_ediv_of_nonneg, Nat.mul_one, Nat.reduceAdd, Nat.zero_add, Nat.add_zero, implies_true, false_implies, true_implies, a1, a2, a3, a4, a5, eq_false hez']
          exact ⟨hx88, rfl⟩
        have hez' : (((valsS p S).2 : Nat) : Int) = 0 := by omega
        rw [if_neg (by rw [hez]; simp)] at hR
        simp (disch := first | omega | assumption) only [C.ref3_WriteMap_gos, vs, T.ts, and_true, true_and, List.getElem?_toArray, List.getElem?_cons_zero, List.getElem?_cons_succ, ↓reduceIte, Nat.reduceEqDiff, Option.bind_some, Option.map_some, Option.isSome_some, ne_eq, Bool.not_true, Bool.not_false, Bool.true_eq_false, Bool.false_eq_true, Bool.not_eq_true', Bool.not_eq_false', reduceCtorEq, Option.some.injEq, decide_eq_true_eq, decide_eq_false_iff_not, not_true_eq_false, not_false_eq_true, decide_true, decide_false, List.size_toArray, List.length_cons, List.length_nil, List.cons_append, List.nil_append, List.append_nil, List.map_cons, List.map_nil, Array.size_push, Int.toNat_natCast, List.toList_toArray, Nat.min_def, Nat.reduceLeDiff, Nat.reducePow, Int.reducePow, Int.reduceToNat, Int.tdiv_eq_ediv_of_nonneg, Int.tmod_eq_emod_of_nonneg, Int.fdiv_eq_ediv_of_nonneg, Nat.mul_one, Nat.reduceAdd, Nat.zero_add, Nat.add_zero, implies_true, false_implies, true_implies, a1, a2, a3, a4, a5, eq_true hez']
      case neg =>
        rw [if_pos heL] at hR
        subst hR
        simp (disch := first | omega | assumption) only [C.ref3_WriteMap_gos, vs, T.ts, and_true, true_and, List.getElem?_toArray, List.getElem?_cons_zero, List.getElem?_cons_succ, ↓reduceIte, Nat.reduceEqDiff, Option.bind_some, Option.map_some, Option.isSome_some, ne_eq, Bool.not_true, Bool.not_false, Bool.true_eq_false, Bool.false_eq_true, Bool.not_eq_true', Bool.not_eq_false', reduceCtorEq, Option.some.injEq, decide_eq_true_eq, decide_eq_false_iff_not, not_true_eq_false, not_false_eq_true, decide_true, decide_false, List.size_toArray, List.length_cons, List.length_nil, List.cons_append, List.nil_append, List.append_nil, List.map_cons, List.map_nil, Array.size_push, Int.toNat_natCast, List.toList_toArray, Nat.min_def, Nat.reduceLeDiff, Nat.reducePow, Int.reducePow, Int.reduceToNat, Int.tdiv_eq_ediv_of_nonneg, Int.tmod_eq_emod_of_nonneg, Int.fdiv_eq_ediv_of_nonneg, Nat.mul_one, Nat.reduceAdd, Nat.zero_add, Nat.add_zero, implies_true, false_implies, true_implies, a1, a2, a3, a4, a5, eq_false heL']
        exact ⟨hx88, rfl⟩
      refine eff_append_str (l := (255 : UInt8) :: (bigS d 2 ++ bigS L.length 2 ++ (valsS p L).1 ++ bigS S.length 2 ++ (valsS p S).1)) T.slT_43 Try.underlying9 rfl rfl own88 (by omega) (by omega) hx88.size ?_
      intro v9 h9 own9 fr9
      have hx9 : Ext h h9 := Ext.app hx88 fr9 (fun k hk => (own88.lt k hk).1)
      have b9 := Fr_blk fr9 b88 (Own_ne own88 b88 (by decide))
      have i0 : cellAt h9 ⟨q, 0, none⟩ = some (.int .i64 fat) := by rw [cellAt_of b9]; rfl
      have i1 : cellAt h9 ⟨q, 1, none⟩ = some (.slice aL L.length kL) := by rw [cellAt_of b9]; rfl
      simp (disch := first | omega | assumption) only [C.ref3_WriteMap_gos, vs, T.ts, and_true, true_and, List.getElem?_toArray, List.getElem?_cons_zero, List.getElem?_cons_succ, ↓reduceIte, Nat.reduceEqDiff, Option.bind_some, Option.map_some, Option.isSome_some, ne_eq, Bool.not_true, Bool.not_false, Bool.true_eq_false, Bool.false_eq_true, Bool.not_eq_true', Bool.not_eq_false', reduceCtorEq, Option.some.injEq, decide_eq_true_eq, decide_eq_false_iff_not, not_true_eq_false, not_false_eq_true, decide_true, decide_false, List.size_toArray, List.length_cons, List.length_nil, List.cons_append, List.nil_append, List.append_nil, List.map_cons, List.map_nil, Array.size_push, Int.toNat_natCast, List.toList_toArray, Nat.min_def, Nat.reduceLeDiff, Nat.reducePow, Int.reducePow, Int.reduceToNat, Int.tdiv_eq_ediv_of_nonneg, Int.tmod_eq_emod_of_nonneg, Int.fdiv_eq_ediv_of_nonneg, Nat.mul_one, Nat.reduceAdd, Nat.zero_add, Nat.add_zero, implies_true, false_implies, true_implies, i0, i1]
      exact ⟨_, by omega, i + 1, fat, L, _, _, _, rfl, by omega, by simp, Own_cast own9 (by simp) (by simp [bytesV]), hx9, sL, cL, hll2.1, by omega, by omega, by rw [List.length_append]; omega, hR⟩
    have h3' : loc.length ≤ L.length + 3 := by omega
    have hlc : (L.length : Int) ≤ cl := by omega
    have sub := SlN.sub (lo := 0) (hi := L.length) sl5 (Nat.zero_le _) (by omega) hcl
    rw [flatV_take, Nat.zero_mul, List.drop_zero] at sub
    simp (disch := first | omega | assumption) only [C.ref3_WriteMap_gos, vs, T.ts, and_true, true_and, List.getElem?_toArray, List.getElem?_cons_zero, List.getElem?_cons_succ, ↓reduceIte, Nat.reduceEqDiff, Option.bind_some, Option.map_some, Option.isSome_some, ne_eq, Bool.not_true, Bool.not_false, Bool.true_eq_false, Bool.false_eq_true, Bool.not_eq_true', Bool.not_eq_false', reduceCtorEq, Option.some.injEq, decide_eq_true_eq, decide_eq_false_iff_not, not_true_eq_false, not_false_eq_true, decide_true, decide_false, List.size_toArray, List.length_cons, List.length_nil, List.cons_append, List.nil_append, List.append_nil, List.map_cons, List.map_nil, Array.size_push, Int.toNat_natCast, List.toList_toArray, Nat.min_def, Nat.reduceLeDiff, Nat.reducePow, Int.reducePow, Int.reduceToNat, Int.tdiv_eq_ediv_of_nonneg, Int.tmod_eq_emod_of_nonneg, Int.fdiv_eq_ediv_of_nonneg, Nat.mul_one, Nat.reduceAdd, Nat.zero_add, Nat.add_zero, implies_true, false_implies, true_implies, e1, e2, Int.reduceEq, Int.reduceNeg, Int.reduceLT, decide_true, decide_false, m1, h3, hlc, Int.toNat_natCast]
    refine eff_call_of ?_
    simp (disch := first | omega | assumption) only [C.ref3_WriteMap_gos, vs, T.ts, and_true, true_and, List.getElem?_toArray, List.getElem?_cons_zero, List.getElem?_cons_succ, ↓reduceIte, Nat.reduceEqDiff, Option.bind_some, Option.map_some, Option.isSome_some, ne_eq, Bool.not_true, Bool.not_false, Bool.true_eq_false, Bool.false_eq_true, Bool.not_eq_true', Bool.not_eq_false', reduceCtorEq, Option.some.injEq, decide_eq_true_eq, decide_eq_false_iff_not, not_true_eq_false, not_false_eq_true, decide_true, decide_false, List.size_toArray, List.length_cons, List.length_nil, List.cons_append, List.nil_append, List.append_nil, List.map_cons, List.map_nil, Array.size_push, Int.toNat_natCast, List.toList_toArray, Nat.min_def, Nat.reduceLeDiff, Nat.reducePow, Int.reducePow, Int.reduceToNat, Int.tdiv_eq_ediv_of_nonneg, Int.tmod_eq_emod_of_nonneg, Int.fdiv_eq_ediv_of_nonneg, Nat.mul_one, Nat.reduceAdd, Nat.zero_add, Nat.add_zero, implies_true, false_implies, true_implies]
    refine (same3_any L (loc.take L.length) _ _ L.length (L.length - 0) rfl (by simp; omega) sL5 sub (by omega)).mono ?_
    rintro v6 h6 ⟨rfl, rfl⟩
    rw [← like_short (by omega)]
    by_cases hk : likeS L loc = true
    case neg =>
      have hk' : likeS L loc = false := by simpa using hk
      rw [hk']
      simp (disch := first | omega | assumption) only [C.ref3_WriteMap_gos, vs, T.ts, and_true, true_and, List.getElem?_toArray, List.getElem?_cons_zero, List.getElem?_cons_succ, ↓reduceIte, Nat.reduceEqDiff, Option.bind_some, Option.map_some, Option.isSome_some, ne_eq, Bool.not_true, Bool.not_false, Bool.true_eq_false, Bool.false_eq_true, Bool.not_eq_true', Bool.not_eq_false', reduceCtorEq, Option.some.injEq, decide_eq_true_eq, decide_eq_false_iff_not, not_true_eq_false, not_false_eq_true, decide_true, decide_false, List.size_toArray, List.length_cons, List.length_nil, List.cons_append, List.nil_append, List.append_nil, List.map_cons, List.map_nil, Array.size_push, Int.toNat_natCast, List.toList_toArray, Nat.min_def, Nat.reduceLeDiff, Nat.reducePow, Int.reducePow, Int.reduceToNat, Int.tdiv_eq_ediv_of_nonneg, Int.tmod_eq_emod_of_nonneg, Int.fdiv_eq_ediv_of_nonneg, Nat.mul_one, Nat.reduceAdd, Nat.zero_add, Nat.add_zero, implies_true, false_implies, true_implies, e1, e2, Int.reduceEq, Int.reduceNeg, Int.reduceLT, decide_true, decide_false, m1, m2, h3]
      refine eff_call_of ?_
      simp (disch := first | omega | assumption) only [C.ref3_WriteMap_gos, vs, T.ts, and_true, true_and, List.getElem?_toArray, List.getElem?_cons_zero, List.getElem?_cons_succ, ↓reduceIte, Nat.reduceEqDiff, Option.bind_some, Option.map_some, Option.isSome_some, ne_eq, Bool.not_true, Bool.not_false, Bool.true_eq_false, Bool.false_eq_true, Bool.not_eq_true', Bool.not_eq_false', reduceCtorEq, Option.some.injEq, decide_eq_true_eq, decide_eq_false_iff_not, not_true_eq_false, not_false_eq_true, decide_true, decide_false, List.size_toArray, List.length_cons, List.length_nil, List.cons_append, List.nil_append, List.append_nil, List.map_cons, List.map_nil, Array.size_push, Int.toNat_natCast, List.toList_toArray, Nat.min_def, Nat.reduceLeDiff, Nat.reducePow, Int.reducePow, Int.reduceToNat, Int.tdiv_eq_ediv_of_nonneg, Int.tmod_eq_emod_of_nonneg, Int.fdiv_eq_ediv_of_nonneg, Nat.mul_one, Nat.reduceAdd, Nat.zero_add, Nat.add_zero, implies_true, false_implies, true_implies]
      refine (told_any L p _ _ _ sL5 hfit.L (by omega) (hp.ext (by decide) hx5) hpf hpl).mono ?_
      rintro v7 h7 ⟨x7, rfl⟩
      have b7 := Fr_blk x7 b5 id
      have own7 := own5.ext x7
      have hx7 := hx5.trans x7
      have j1 : cellAt h7 ⟨q, 1, none⟩ = some (.slice aL L.length kL) := by rw [cellAt_of b7]; rfl
      have j2 : cellAt h7 ⟨q, 2, none⟩ = some (.slice aS S.length kS) := by rw [cellAt_of b7]; rfl
      have hwL : IntKind.u64.wrap (L.length : Int) = (L.length : Int) := wrap_u64 (by omega) (by omega)
      have hwS : IntKind.u64.wrap (S.length : Int) = (S.length : Int) := wrap_u64 (by omega) (by omega)
      have hlL : (bigS L.length 2).length = 2 := bigS_len
      have hlS : (bigS S.length 2).length = 2 := bigS_len
      have a1 : [(255 : UInt8)].length + (bigS d 2).length ≤ 9223372036854775807 := by simp only [List.length_cons, List.length_append, List.length_nil]; omega
      have a2 : ((255 : UInt8) :: bigS d 2).length + (bigS L.length 2).length ≤ 9223372036854775807 := by simp only [List.length_cons, List.length_append, List.length_nil]; omega
      have a3 : ((255 : UInt8) :: (bigS d 2 ++ bigS L.length 2)).length + (valsS p L).1.length ≤ 9223372036854775807 := by simp only [List.length_cons, List.length_append, List.length_nil]; omega
      have a4 : ((255 : UInt8) :: (bigS d 2 ++ bigS L.length 2 ++ (valsS p L).1)).length + (bigS S.length 2).length ≤ 9223372036854775807 := by simp only [List.length_cons, List.length_append, List.length_nil]; omega
      have a5 : ((255 : UInt8) :: (bigS d 2 ++ bigS L.length 2 ++ (valsS p L).1 ++ bigS S.length 2)).length + (valsS p S).1.length ≤ 9223372036854775807 := by simp only [List.length_cons, List.length_append, List.length_nil]; omega
      have hw0 : frS p ⟨fat, L, S⟩ d loc = defS p ⟨fat, L, S⟩ d := by unfold frS; simp only [hk, if_false, Bool.false_eq_true]
      by_cases heL : (valsS p L).2 = 0
      case' pos =>
        have heL' : (((valsS p L).2 : Nat) : Int) = 0 := by omega
        have hth : thenE (valsS p L).2 (valsS p S).2 = (valsS p S).2 := by rw [heL]; rfl
        simp (disch := first | omega | assumption) only [C.ref3_WriteMap_gos, vs, T.ts, and_true, true_and, List.getElem?_toArray, List.getElem?_cons_zero, List.getElem?_cons_succ, ↓reduceIte, Nat.reduceEqDiff, Option.bind_some, Option.map_some, Option.isSome_some, ne_eq, Bool.not_true, Bool.not_false, Bool.true_eq_false, Bool.false_eq_true, Bool.not_eq_true', Bool.not_eq_false', reduceCtorEq, Option.some.injEq, decide_eq_true_eq, decide_eq_false_iff_not, not_true_eq_false, not_false_eq_true, decide_true, decide_false, List.size_toArray, List.length_cons, List.length_nil, List.cons_append, List.nil_append, List.append_nil, List.map_cons, List.map_nil, Array.size_push, Int.toNat_natCast, List.toList_toArray, Nat.min_def, Nat.reduceLeDiff, Nat.reducePow, Int.reducePow, Int.reduceToNat, Int.tdiv_eq_ediv_of_nonneg, Int.tmod_eq_emod_of_nonneg, Int.fdiv_eq_ediv_of_nonneg, Nat.mul_one, Nat.reduceAdd, Nat.zero_add, Nat.add_zero, implies_true, false_implies, true_implies, eq_true heL', j1, j2, hwL, hwS, a1]
      case' neg =>
        have heL' : ¬ (((valsS p L).2 : Nat) : Int) = 0 := by omega
        have hth : thenE (valsS p L).2 (valsS p S).2 = (valsS p L).2 := by unfold thenE; rw [if_neg heL]
        simp (disch := first | omega | assumption) only [C.ref3_WriteMap_gos, vs, T.ts, and_true, true_and, List.getElem?_toArray, List.getElem?_cons_zero, List.getElem?_cons_succ, ↓reduceIte, Nat.reduceEqDiff, Option.bind_some, Option.map_some, Option.isSome_some, ne_eq, Bool.not_true, Bool.not_false, Bool.true_eq_false, Bool.false_eq_true, Bool.not_eq_true', Bool.not_eq_false', reduceCtorEq, Option.some.injEq, decide_eq_true_eq, decide_eq_false_iff_not, not_true_eq_false, not_false_eq_true, decide_true, decide_false, List.size_toArray, List.length_cons, List.length_nil, List.cons_append, List.nil_append, List.append_nil, List.map_cons, List.map_nil, Array.size_push, Int.toNat_natCast, List.toList_toArray, Nat.min_def, Nat.reduceLeDiff, Nat.reducePow, Int.reducePow, Int.reduceToNat, Int.tdiv_eq_ediv_of_nonneg, Int.tmod_eq_emod_of_nonneg, Int.fdiv_eq_ediv_of_nonneg, Nat.mul_one, Nat.reduceAdd, Nat.zero_add, Nat.add_zero, implies_true, false_implies, true_implies, eq_false heL', j1, j2, hwL, hwS, a1]
      all_goals
        refine eff_call_of ?_
        simp (disch := first | omega | assumption) only [C.ref3_WriteMap_gos, vs, T.ts, and_true, true_and, List.getElem?_toArray, List.getElem?_cons_zero, List.getElem?_cons_succ, ↓reduceIte, Nat.reduceEqDiff, Option.bind_some, Option.map_some, Option.isSome_some, ne_eq, Bool.not_true, Bool.not_false, Bool.true_eq_false, Bool.false_eq_true, Bool.not_eq_true', Bool.not_eq_false', reduceCtorEq, Option.some.injEq, decide_eq_true_eq, decide_eq_false_iff_not, not_true_eq_false, not_false_eq_true, decide_true, decide_false, List.size_toArray, List.length_cons, List.length_nil, List.cons_append, List.nil_append, List.append_nil, List.map_cons, List.map_nil, Array.size_push, Int.toNat_natCast, List.toList_toArray, Nat.min_def, Nat.reduceLeDiff, Nat.reducePow, Int.reducePow, Int.reduceToNat, Int.tdiv_eq_ediv_of_nonneg, Int.tmod_eq_emod_of_nonneg, Int.fdiv_eq_ediv_of_nonneg, Nat.mul_one, Nat.reduceAdd, Nat.zero_add, Nat.add_zero, implies_true, false_implies, true_implies]
        refine (rbig_any L.length 2 h7 (by omega) (by omega)).mono ?_
        rintro v8 h8 ⟨x8, rfl⟩
        have b8 := Fr_blk x8 b7 id
        have own8 := own7.ext x8
        have hx8 := hx7.trans x8
        have j3 : cellAt h8 ⟨q, 2, none⟩ = some (.slice aS S.length kS) := by rw [cellAt_of b8]; rfl
        simp (disch := first | omega | assumption) only [C.ref3_WriteMap_gos, vs, T.ts, and_true, true_and, List.getElem?_toArray, List.getElem?_cons_zero, List.getElem?_cons_succ, ↓reduceIte, Nat.reduceEqDiff, Option.bind_some, Option.map_some, Option.isSome_some, ne_eq, Bool.not_true, Bool.not_false, Bool.true_eq_false, Bool.false_eq_true, Bool.not_eq_true', Bool.not_eq_false', reduceCtorEq, Option.some.injEq, decide_eq_true_eq, decide_eq_false_iff_not, not_true_eq_false, not_false_eq_true, decide_true, decide_false, List.size_toArray, List.length_cons, List.length_nil, List.cons_append, List.nil_append, List.append_nil, List.map_cons, List.map_nil, Array.size_push, Int.toNat_natCast, List.toList_toArray, Nat.min_def, Nat.reduceLeDiff, Nat.reducePow, Int.reducePow, Int.reduceToNat, Int.tdiv_eq_ediv_of_nonneg, Int.tmod_eq_emod_of_nonneg, Int.fdiv_eq_ediv_of_nonneg, Nat.mul_one, Nat.reduceAdd, Nat.zero_add, Nat.add_zero, implies_true, false_implies, true_implies, j3, hwS, a1, a2, a3]
        refine eff_call_of ?_
        simp (disch := first | omega | assumption) only [C.ref3_WriteMap_gos, vs, T.ts, and_true, true_and, List.getElem?_toArray, List.getElem?_cons_zero, List.getElem?_cons_succ, ↓reduceIte, Nat.reduceEqDiff, Option.bind_some, Option.map_some, Option.isSome_some, ne_eq, Bool.not_true, Bool.not_false, Bool.true_eq_false, Bool.false_eq_true, Bool.not_eq_true', Bool.not_eq_false', reduceCtorEq, Option.some.injEq, decide_eq_true_eq, decide_eq_false_iff_not, not_true_eq_false, not_false_eq_true, decide_true, decide_false, List.size_toArray, List.length_cons, List.length_nil, List.cons_append, List.nil_append, List.append_nil, List.map_cons, List.map_nil, Array.size_push, Int.toNat_natCast, List.toList_toArray, Nat.min_def, Nat.reduceLeDiff, Nat.reducePow, Int.reducePow, Int.reduceToNat, Int.tdiv_eq_ediv_of_nonneg, Int.tmod_eq_emod_of_nonneg, Int.fdiv_eq_ediv_of_nonneg, Nat.mul_one, Nat.reduceAdd, Nat.zero_add, Nat.add_zero, implies_true, false_implies, true_implies, a1, a2, a3]
        refine (rbig_any S.length 2 h8 (by omega) (by omega)).mono ?_
        rintro v88 h88 ⟨x88, rfl⟩
        have b88 := Fr_blk x88 b8 id
        have own88 := own8.ext x88
        have hx88 := hx8.trans x88
        have hfr : frS p ⟨fat, L, S⟩ d loc = ((255 : UInt8) :: (bigS d 2 ++ bigS L.length 2 ++ (valsS p L).1 ++ bigS S.length 2 ++ (valsS p S).1), thenE (valsS p L).2 (valsS p S).2) := by rw [hw0]; rfl
        rw [hfr, hth] at hR
        simp only at hR
        have f0 : cellAt h88 ⟨q, 0, none⟩ = some (.int .i64 fat) := by rw [cellAt_of b88]; rfl
        have f1 : cellAt h88 ⟨q, 1, none⟩ = some (.slice aL L.length kL) := by rw [cellAt_of b88]; rfl
        have hbl : ((255 : UInt8) :: (bigS d 2 ++ bigS L.length 2 ++ (valsS p L).1 ++ bigS S.length 2 ++ (valsS p S).1)).length ≤ 400000 := by
          have := frS_len p ⟨fat, L, S⟩ d loc (by simp only; omega) (by simp only; omega)
          rw [hfr] at this
          exact this
      case' pos =>
        by_cases hez : (valsS p S).2 = 0
        case neg =>
          have hez' : ¬ (((valsS p S).2 : Nat) : Int) = 0 := by omega
          rw [if_pos hez] at hR
          subst hR
          simp (disch := first | omega | assumption) only [C.ref3_WriteMap_gos, vs, T.ts, and_true, true_and, List.getElem?_toArray, List.getElem?_cons_zero, List.getElem?_cons_succ, ↓reduceIte, Nat.reduceEqDiff, Option.bind_some, Option.map_some, Option.isSome_some, ne_eq, Bool.not_true, Bool.not_false, Bool.true_eq_false, Bool.false_eq_true, Bool.not_eq_true', Bool.not_eq_false', reduceCtorEq, Option.some.injEq, decide_eq_true_eq, decide_eq_false_iff_not, not_true_eq_false, not_false_eq_true, decide_true, decide_false, List.size_toArray, List.length_cons, List.length_nil, List.cons_append, List.nil_append, List.append_nil, List.map_cons, List.map_nil, Array.size_push, Int.toNat_natCast, List.toList_toArray, Nat.min_def, Nat.reduceLeDiff, Nat.reducePow, Int.reducePow, Int.reduceToNat, Int.tdiv_eq_ediv_of_nonneg, Int.tmod_eq_emod_of_nonneg, Int.fdiv_eq_ediv_of_nonneg, Nat.mul_one, Nat.reduceAdd, Nat.zero_add, Nat.add_zero, implies_true, false_implies, true_implies, a1, a2, a3, a4, a5, eq_false hez']
          exact ⟨hx88, rfl⟩
        have hez' : (((valsS p S).2 : Nat) : Int) = 0 := by omega
        rw [if_neg (by rw [hez]; simp)] at hR
        simp (disch := first | omega | assumption) only [C.ref3_WriteMap_gos, vs, T.ts, and_true, true_and, List.getElem?_toArray, List.getElem?_cons_zero, List.getElem?_cons_succ, ↓reduceIte, Nat.reduceEqDiff, Option.bind_some, Option.map_some, Option.isSome_some, ne_eq, Bool.not_true, Bool.not_false, Bool.true_eq_false, Bool.false_eq_true, Bool.not_eq_true', Bool.not_eq_false', reduceCtorEq, Option.some.injEq, decide_eq_true_eq, decide_eq_false_iff_not, not_true_eq_false, not_false_eq_true, decide_true, decide_false, List.size_toArray, List.length_cons, List.length_nil, List.cons_append, List.nil_append, List.append_nil, List.map_cons, List.map_nil, Array.size_push, Int.toNat_natCast, List.toList_toArray, Nat.min_def, Nat.reduceLeDiff, Nat.reducePow, Int.reducePow, Int.reduceToNat, Int.tdiv_eq_ediv_of_nonneg, Int.tmod_eq_emod_of_nonneg, Int.fdiv_eq_ediv_of_nonneg, Nat.mul_one, Nat.reduceAdd, Nat.zero_add, Nat.add_zero, implies_true, false_implies, true_implies, a1, a2, a3, a4, a5, eq_true hez']
      case neg =>
        rw [if_pos heL] at hR
        subst hR
        simp (disch := first | omega | assumption) only [C.ref3_WriteMap_gos, vs, T.ts, and_true, true_and, List.getElem?_toArray, List.getElem?_cons_zero, List.getElem?_cons_succ, ↓reduceIte, Nat.reduceEqDiff, Option.bind_some, Option.map_some, Option.isSome_some, ne_eq, Bool.not_true, Bool.not_false, Bool.true_eq_false, Bool.false_eq_true, Bool.not_eq_true', Bool.not_eq_false', reduceCtorEq, Option.some.injEq, decide_eq_true_eq, decide_eq_false_iff_not, not_true_eq_false, not_false_eq_true, decide_true, decide_false, List.size_toArray, List.length_cons, List.length_nil, List.cons_append, List.nil_append, List.append_nil, List.map_cons, List.map_nil, Array.size_push, Int.toNat_natCast, List.toList_toArray, Nat.min_def, Nat.reduceLeDiff, Nat.reducePow, Int.reducePow, Int.reduceToNat, Int.tdiv_eq_ediv_of_nonneg, Int.tmod_eq_emod_of_nonneg, Int.fdiv_eq_ediv_of_nonneg, Nat.mul_one, Nat.reduceAdd, Nat.zero_add, Nat.add_zero, implies_true, false_implies, true_implies, a1, a2, a3, a4, a5, eq_false heL']
        exact ⟨hx88, rfl⟩
      refine eff_append_str (l := (255 : UInt8) :: (bigS d 2 ++ bigS L.length 2 ++ (valsS p L).1 ++ bigS S.length 2 ++ (valsS p S).1)) T.slT_43 Try.underlying9 rfl rfl own88 (by omega) (by omega) hx88.size ?_
      intro v9 h9 own9 fr9
      have hx9 : Ext h h9 := Ext.app hx88 fr9 (fun k hk => (own88.lt k hk).1)
      have b9 := Fr_blk fr9 b88 (Own_ne own88 b88 (by decide))
      have i0 : cellAt h9 ⟨q, 0, none⟩ = some (.int .i64 fat) := by rw [cellAt_of b9]; rfl
      have i1 : cellAt h9 ⟨q, 1, none⟩ = some (.slice aL L.length kL) := by rw [cellAt_of b9]; rfl
      simp (disch := first | omega | assumption) only [C.ref3_WriteMap_gos, vs, T.ts, and_true, true_and, List.getElem?_toArray, List.getElem?_cons_zero, List.getElem?_cons_succ, ↓reduceIte, Nat.reduceEqDiff, Option.bind_some, Option.map_some, Option.isSome_some, ne_eq, Bool.not_true, Bool.not_false, Bool.true_eq_false, Bool.false_eq_true, Bool.not_eq_true', Bool.not_eq_false', reduceCtorEq, Option.some.injEq, decide_eq_true_eq, decide_eq_false_iff_not, not_true_eq_false, not_false_eq_true, decide_true, decide_false, List.size_toArray, List.length_cons, List.length_nil, List.cons_append, List.nil_append, List.append_nil, List.map_cons, List.map_nil, Array.size_push, Int.toNat_natCast, List.toList_toArray, Nat.min_def, Nat.reduceLeDiff, Nat.reducePow, Int.reducePow, Int.reduceToNat, Int.tdiv_eq_ediv_of_nonneg, Int.tmod_eq_emod_of_nonneg, Int.fdiv_eq_ediv_of_nonneg, Nat.mul_one, Nat.reduceAdd, Nat.zero_add, Nat.add_zero, implies_true, false_implies, true_implies, i0, i1]
      exact ⟨_, by omega, i + 1, fat, L, _, _, _, rfl, by omega, by simp, Own_cast own9 (by simp) (by simp [bytesV]), hx9, sL, cL, hll2.1, by omega, by omega, by rw [List.length_append]; omega, hR⟩
    rw [hk]
    by_cases hs0 : S.length = 0
    case neg =>
      have hs0' : ¬ (S.length : Int) = 0 := by omega
      simp (disch := first | omega | assumption) only [C.ref3_WriteMap_gos, vs, T.ts, and_true, true_and, List.getElem?_toArray, List.getElem?_cons_zero, List.getElem?_cons_succ, ↓reduceIte, Nat.reduceEqDiff, Option.bind_some, Option.map_some, Option.isSome_some, ne_eq, Bool.not_true, Bool.not_false, Bool.true_eq_false, Bool.false_eq_true, Bool.not_eq_true', Bool.not_eq_false', reduceCtorEq, Option.some.injEq, decide_eq_true_eq, decide_eq_false_iff_not, not_true_eq_false, not_false_eq_true, decide_true, decide_false, List.size_toArray, List.length_cons, List.length_nil, List.cons_append, List.nil_append, List.append_nil, List.map_cons, List.map_nil, Array.size_push, Int.toNat_natCast, List.toList_toArray, Nat.min_def, Nat.reduceLeDiff, Nat.reducePow, Int.reducePow, Int.reduceToNat, Int.tdiv_eq_ediv_of_nonneg, Int.tmod_eq_emod_of_nonneg, Int.fdiv_eq_ediv_of_nonneg, Nat.mul_one, Nat.reduceAdd, Nat.zero_add, Nat.add_zero, implies_true, false_implies, true_implies, e1, e2, Int.reduceEq, Int.reduceNeg, Int.reduceLT, decide_true, decide_false, m1, m2, h3, eq_false hs0']
      refine eff_call_of ?_
      simp (disch := first | omega | assumption) only [C.ref3_WriteMap_gos, vs, T.ts, and_true, true_and, List.getElem?_toArray, List.getElem?_cons_zero, List.getElem?_cons_succ, ↓reduceIte, Nat.reduceEqDiff, Option.bind_some, Option.map_some, Option.isSome_some, ne_eq, Bool.not_true, Bool.not_false, Bool.true_eq_false, Bool.false_eq_true, Bool.not_eq_true', Bool.not_eq_false', reduceCtorEq, Option.some.injEq, decide_eq_true_eq, decide_eq_false_iff_not, not_true_eq_false, not_false_eq_true, decide_true, decide_false, List.size_toArray, List.length_cons, List.length_nil, List.cons_append, List.nil_append, List.append_nil, List.map_cons, List.map_nil, Array.size_push, Int.toNat_natCast, List.toList_toArray, Nat.min_def, Nat.reduceLeDiff, Nat.reducePow, Int.reducePow, Int.reduceToNat, Int.tdiv_eq_ediv_of_nonneg, Int.tmod_eq_emod_of_nonneg, Int.fdiv_eq_ediv_of_nonneg, Nat.mul_one, Nat.reduceAdd, Nat.zero_add, Nat.add_zero, implies_true, false_implies, true_implies]
      refine (told_any L p _ _ _ sL5 hfit.L (by omega) (hp.ext (by decide) hx5) hpf hpl).mono ?_
      rintro v7 h7 ⟨x7, rfl⟩
      have b7 := Fr_blk x7 b5 id
      have own7 := own5.ext x7
      have hx7 := hx5.trans x7
      have j1 : cellAt h7 ⟨q, 1, none⟩ = some (.slice aL L.length kL) := by rw [cellAt_of b7]; rfl
      have j2 : cellAt h7 ⟨q, 2, none⟩ = some (.slice aS S.length kS) := by rw [cellAt_of b7]; rfl
      have hwL : IntKind.u64.wrap (L.length : Int) = (L.length : Int) := wrap_u64 (by omega) (by omega)
      have hwS : IntKind.u64.wrap (S.length : Int) = (S.length : Int) := wrap_u64 (by omega) (by omega)
      have hlL : (bigS L.length 2).length = 2 := bigS_len
      have hlS : (bigS S.length 2).length = 2 := bigS_len
      have a1 : [(255 : UInt8)].length + (bigS d 2).length ≤ 9223372036854775807 := by simp only [List.length_cons, List.length_append, List.length_nil]; omega
      have a2 : ((255 : UInt8) :: bigS d 2).length + (bigS L.length 2).length ≤ 9223372036854775807 := by simp only [List.length_cons, List.length_append, List.length_nil]; omega
      have a3 : ((255 : UInt8) :: (bigS d 2 ++ bigS L.length 2)).length + (valsS p L).1.length ≤ 9223372036854775807 := by simp only [List.length_cons, List.length_append, List.length_nil]; omega
      have a4 : ((255 : UInt8) :: (bigS d 2 ++ bigS L.length 2 ++ (valsS p L).1)).length + (bigS S.length 2).length ≤ 9223372036854775807 := by simp only [List.length_cons, List.length_append, List.length_nil]; omega
      have a5 : ((255 : UInt8) :: (bigS d 2 ++ bigS L.length 2 ++ (valsS p L).1 ++ bigS S.length 2)).length + (valsS p S).1.length ≤ 9223372036854775807 := by simp only [List.length_cons, List.length_append, List.length_nil]; omega
      have hw0 : frS p ⟨fat, L, S⟩ d loc = defS p ⟨fat, L, S⟩ d := by unfold frS; simp only [hk, hnn, hs0, if_true, if_false]
      by_cases heL : (valsS p L).2 = 0
      case' pos =>
        have heL' : (((valsS p L).2 : Nat) : Int) = 0 := by omega
        have hth : thenE (valsS p L).2 (valsS p S).2 = (valsS p S).2 := by rw [heL]; rfl
        simp (disch := first | omega | assumption) only [C.ref3_WriteMap_gos, vs, T.ts, and_true, true_and, List.getElem?_toArray, List.getElem?_cons_zero, List.getElem?_cons_succ, ↓reduceIte, Nat.reduceEqDiff, Option.bind_some, Option.map_some, Option.isSome_some, ne_eq, Bool.not_true, Bool.not_false, Bool.true_eq_false, Bool.false_eq_true, Bool.not_eq_true', Bool.not_eq_false', reduceCtorEq, Option.some.injEq, decide_eq_true_eq, decide_eq_false_iff_not, not_true_eq_false, not_false_eq_true, decide_true, decide_false, List.size_toArray, List.length_cons, List.length_nil, List.cons_append, List.nil_append, List.append_nil, List.map_cons, List.map_nil, Array.size_push, Int.toNat_natCast, List.toList_toArray, Nat.min_def, Nat.reduceLeDiff, Nat.reducePow, Int.reducePow, Int.reduceToNat, Int.tdiv_eq_ediv_of_nonneg, Int.tmod_eq_emod_of_nonneg, Int.fdiv_eq_ediv_of_nonneg, Nat.mul_one, Nat.reduceAdd, Nat.zero_add, Nat.add_zero, implies_true, false_implies, true_implies, eq_true heL', j1, j2, hwL, hwS, a1]
      case' neg =>
        have heL' : ¬ (((valsS p L).2 : Nat) : Int) = 0 := by omega
        have hth : thenE (valsS p L).2 (valsS p S).2 = (valsS p L).2 := by unfold thenE; rw [if_neg heL]
        simp (disch := first | omega | assumption) only [C.ref3_WriteMap_gos, vs, T.ts, and_true, true_and, List.getElem?_toArray, List.getElem?_cons_zero, List.getElem?_cons_succ, ↓reduceIte, Nat.reduceEqDiff, Option.bind_some, Option.map_some, Option.isSome_some, ne_eq, Bool.not_true, Bool.not_false, Bool.true_eq_false, Bool.false_eq_true, Bool.not_eq_true', Bool.not_eq_false', reduceCtorEq, Option.some.injEq, decide_eq_true_eq, decide_eq_false_iff_not, not_true_eq_false, not_false_eq_true, decide_true, decide_false, List.size_toArray, List.length_cons, List.length_nil, List.cons_append, List.nil_append, List.append_nil, List.map_cons, List.map_nil, Array.size_push, Int.toNat_natCast, List.toList_toArray, Nat.min_def, Nat.reduceLeDiff, Nat.reducePow, Int.reducePow, Int.reduceToNat, Int.tdiv_eq_ediv_of_nonneg, Int.tmod_eq_emod_of_nonneg, Int.fdiv_eq_ediv_of_nonneg, Nat.mul_one, Nat.reduceAdd, Nat.zero_add, Nat.add_zero, implies_true, false_implies, true_implies, eq_false heL', j1, j2, hwL, hwS, a1]
      all_goals
        refine eff_call_of ?_
        simp (disch := first | omega | assumption) only [C.ref3_WriteMap_gos, vs, T.ts, and_true, true_and, List.getElem?_toArray, List.getElem?_cons_zero, List.getElem?_cons_succ, ↓reduceIte, Nat.reduceEqDiff, Option.bind_some, Option.map_some, Option.isSome_some, ne_eq, Bool.not_true, Bool.not_false, Bool.true_eq_false, Bool.false_eq_true, Bool.not_eq_true', Bool.not_eq_false', reduceCtorEq, Option.some.injEq, decide_eq_true_eq, decide_eq_false_iff_not, not_true_eq_false, not_false_eq_true, decide_true, decide_false, List.size_toArray, List.length_cons, List.length_nil, List.cons_append, List.nil_append, List.append_nil, List.map_cons, List.map_nil, Array.size_push, Int.toNat_natCast, List.toList_toArray, Nat.min_def, Nat.reduceLeDiff, Nat.reducePow, Int.reducePow, Int.reduceToNat, Int.tdiv_eq_ediv_of_nonneg, Int.tmod_eq_emod_of_nonneg, Int.fdiv_eq_ediv_of_nonneg, Nat.mul_one, Nat.reduceAdd, Nat.zero_add, Nat.add_zero, implies_true, false_implies, true_implies]
        refine (rbig_any L.length 2 h7 (by omega) (by omega)).mono ?_
        rintro v8 h8 ⟨x8, rfl⟩
        have b8 := Fr_blk x8 b7 id
        have own8 := own7.ext x8
        have hx8 := hx7.trans x8
        have j3 : cellAt h8 ⟨q, 2, none⟩ = some (.slice aS S.length kS) := by rw [cellAt_of b8]; rfl
        simp (disch := first | omega | assumption) only [C.ref3_WriteMap_gos, vs, T.ts, and_true, true_and, List.getElem?_toArray, List.getElem?_cons_zero, List.getElem?_cons_succ, ↓reduceIte, Nat.reduceEqDiff, Option.bind_some, Option.map_some, Option.isSome_some, ne_eq, Bool.not_true, Bool.not_false, Bool.true_eq_false, Bool.false_eq_true, Bool.not_eq_true', Bool.not_eq_false', reduceCtorEq, Option.some.injEq, decide_eq_true_eq, decide_eq_false_iff_not, not_true_eq_false, not_false_eq_true, decide_true, decide_false, List.size_toArray, List.length_cons, List.length_nil, List.cons_append, List.nil_append, List.append_nil, List.map_cons, List.map_nil, Array.size_push, Int.toNat_natCast, List.toList_toArray, Nat.min_def, Nat.reduceLeDiff, Nat.reducePow, Int.reducePow, Int.reduceToNat, Int.tdiv_eq_ediv_of_nonneg, Int.tmod_eq_emod_of_nonneg, Int.fdiv_eq_ediv_of_nonneg, Nat.mul_one, Nat.reduceAdd, Nat.zero_add, Nat.add_zero, implies_true, false_implies, true_implies, j3, hwS, a1, a2, a3]
        refine eff_call_of ?_
        simp (disch := first | omega | assumption) only [C.ref3_WriteMap_gos, vs, T.ts, and_true, true_and, List.getElem?_toArray, List.getElem?_cons_zero, List.getElem?_cons_succ, ↓reduceIte, Nat.reduceEqDiff, Option.bind_some, Option.map_some, Option.isSome_some, ne_eq, Bool.not_true, Bool.not_false, Bool.true_eq_false, Bool.false_eq_true, Bool.not_eq_true', Bool.not_eq_false', reduceCtorEq, Option.some.injEq, decide_eq_true_eq, decide_eq_false_iff_not, not_true_eq_false, not_false_eq_true, decide_true, decide_false, List.size_toArray, List.length_cons, List.length_nil, List.cons_append, List.nil_append, List.append_nil, List.map_cons, List.map_nil, Array.size_push, Int.toNat_natCast, List.toList_toArray, Nat.min_def, Nat.reduceLeDiff, Nat.reducePow, Int.reducePow, Int.reduceToNat, Int.tdiv_eq_ediv_of_nonneg, Int.tmod_eq_emod_of_nonneg, Int.fdiv_eq_ediv_of_nonneg, Nat.mul_one, Nat.reduceAdd, Nat.zero_add, Nat.add_zero, implies_true, false_implies, true_implies, a1, a2, a3]
        refine (rbig_any S.length 2 h8 (by omega) (by omega)).mono ?_
        rintro v88 h88 ⟨x88, rfl⟩
        have b88 := Fr_blk x88 b8 id
        have own88 := own8.ext x88
        have hx88 := hx8.trans x88
        have hfr : frS p ⟨fat, L, S⟩ d loc = ((255 : UInt8) :: (bigS d 2 ++ bigS L.length 2 ++ (valsS p L).1 ++ bigS S.length 2 ++ (valsS p S).1), thenE (valsS p L).2 (valsS p S).2) := by rw [hw0]; rfl
        rw [hfr, hth] at hR
        simp only at hR
        have f0 : cellAt h88 ⟨q, 0, none⟩ = some (.int .i64 fat) := by rw [cellAt_of b88]; rfl
        have f1 : cellAt h88 ⟨q, 1, none⟩ = some (.slice aL L.length kL) := by rw [cellAt_of b88]; rfl
        have hbl : ((255 : UInt8) :: (bigS d 2 ++ bigS L.length 2 ++ (valsS p L).1 ++ bigS S.length 2 ++ (valsS p S).1)).length ≤ 400000 := by
          have := frS_len p ⟨fat, L, S⟩ d loc (by simp only; omega) (by simp only; omega)
          rw [hfr] at this
          exact this
      case' pos =>
        by_cases hez : (valsS p S).2 = 0
        case neg =>
          have hez' : ¬ (((valsS p S).2 : Nat) : Int) = 0 := by omega
          rw [if_pos hez] at hR
          subst hR
          simp (disch := first | omega | assumption) only [C.ref3_WriteMap_gos, vs, T.ts, and_true, true_and, List.getElem?_toArray, List.getElem?_cons_zero, List.getElem?_cons_succ, ↓reduceIte, Nat.reduceEqDiff, Option.bind_some, Option.map_some, Option.isSome_some, ne_eq, Bool.not_true, Bool.not_false, Bool.true_eq_false, Bool.false_eq_true, Bool.not_eq_true', Bool.not_eq_false', reduceCtorEq, Option.some.injEq, decide_eq_true_eq, decide_eq_false_iff_not, not_true_eq_false, not_false_eq_true, decide_true, decide_false, List.size_toArray, List.length_cons, List.length_nil, List.cons_append, List.nil_append, List.append_nil, List.map_cons, List.map_nil, Array.size_push, Int.toNat_natCast, List.toList_toArray, Nat.min_def, Nat.reduceLeDiff, Nat.reducePow, Int.reducePow, Int.reduceToNat, Int.tdiv_eq_ediv_of_nonneg, Int.tmod_eq_emod_of_nonneg, Int.fdiv_eq_ediv_of_nonneg, Nat.mul_one, Nat.reduceAdd, Nat.zero_add, Nat.add_zero, implies_true, false_implies, true_implies, a1, a2, a3, a4, a5, eq_false hez']
          exact ⟨hx88, rfl⟩
        have hez' : (((valsS p S).2 : Nat) : Int) = 0 := by omega
        rw [if_neg (by rw [hez]; simp)] at hR
        simp (disch := first | omega | assumption) only [C.ref3_WriteMap_gos, vs, T.ts, and_true, true_and, List.getElem?_toArray, List.getElem?_cons_zero, List.getElem?_cons_succ, ↓reduceIte, Nat.reduceEqDiff, Option.bind_some, Option.map_some, Option.isSome_some, ne_eq, Bool.not_true, Bool.not_false, Bool.true_eq_false, Bool.false_eq_true, Bool.not_eq_true', Bool.not_eq_false', reduceCtorEq, Option.some.injEq, decide_eq_true_eq, decide_eq_false_iff_not, not_true_eq_false, not_false_eq_true, decide_true, decide_false, List.size_toArray, List.length_cons, List.length_nil, List.cons_append, List.nil_append, List.append_nil, List.map_cons, List.map_nil, Array.size_push, Int.toNat_natCast, List.toList_toArray, Nat.min_def, Nat.reduceLeDiff, Nat.reducePow, Int.reducePow, Int.reduceToNat, Int.tdiv_eq_ediv_of_nonneg, Int.tmod_eq_emod_of_nonneg, Int.fdiv_eq_ediv_of_nonneg, Nat.mul_one, Nat.reduceAdd, Nat.zero_add, Nat.add_zero, implies_true, false_implies, true_implies, a1, a2, a3, a4, a5, eq_true hez']
      case neg =>
        rw [if_pos heL] at hR
        subst hR
        simp (disch := first | omega | assumption) only [C.ref3_WriteMap_gos, vs, T.ts, and_true, true_and, List.getElem?_toArray, List.getElem?_cons_zero, List.getElem?_cons_succ, ↓reduceIte, Nat.reduceEqDiff, Option.bind_some, Option.map_some, Option.isSome_some, ne_eq, Bool.not_true, Bool.not_false, Bool.true_eq_false, Bool.false_eq_true, Bool.not_eq_true', Bool.not_eq_false', reduceCtorEq, Option.some.injEq, decide_eq_true_eq, decide_eq_false_iff_not, not_true_eq_false, not_false_eq_true, decide_true, decide_false, List.size_toArray, List.length_cons, List.length_nil, List.cons_append, List.nil_append, List.append_nil, List.map_cons, List.map_nil, Array.size_push, Int.toNat_natCast, List.toList_toArray, Nat.min_def, Nat.reduceLeDiff, Nat.reducePow, Int.reducePow, Int.reduceToNat, Int.tdiv_eq_ediv_of_nonneg, Int.tmod_eq_emod_of_nonneg, Int.fdiv_eq_ediv_of_nonneg, Nat.mul_one, Nat.reduceAdd, Nat.zero_add, Nat.add_zero, implies_true, false_implies, true_implies, a1, a2, a3, a4, a5, eq_false heL']
        exact ⟨hx88, rfl⟩
      refine eff_append_str (l := (255 : UInt8) :: (bigS d 2 ++ bigS L.length 2 ++ (valsS p L).1 ++ bigS S.length 2 ++ (valsS p S).1)) T.slT_43 Try.underlying9 rfl rfl own88 (by omega) (by omega) hx88.size ?_
      intro v9 h9 own9 fr9
      have hx9 : Ext h h9 := Ext.app hx88 fr9 (fun k hk => (own88.lt k hk).1)
      have b9 := Fr_blk fr9 b88 (Own_ne own88 b88 (by decide))
      have i0 : cellAt h9 ⟨q, 0, none⟩ = some (.int .i64 fat) := by rw [cellAt_of b9]; rfl
      have i1 : cellAt h9 ⟨q, 1, none⟩ = some (.slice aL L.length kL) := by rw [cellAt_of b9]; rfl
      simp (disch := first | omega | assumption) only [C.ref3_WriteMap_gos, vs, T.ts, and_true, true_and, List.getElem?_toArray, List.getElem?_cons_zero, List.getElem?_cons_succ, ↓reduceIte, Nat.reduceEqDiff, Option.bind_some, Option.map_some, Option.isSome_some, ne_eq, Bool.not_true, Bool.not_false, Bool.true_eq_false, Bool.false_eq_true, Bool.not_eq_true', Bool.not_eq_false', reduceCtorEq, Option.some.injEq, decide_eq_true_eq, decide_eq_false_iff_not, not_true_eq_false, not_false_eq_true, decide_true, decide_false, List.size_toArray, List.length_cons, List.length_nil, List.cons_append, List.nil_append, List.append_nil, List.map_cons, List.map_nil, Array.size_push, Int.toNat_natCast, List.toList_toArray, Nat.min_def, Nat.reduceLeDiff, Nat.reducePow, Int.reducePow, Int.reduceToNat, Int.tdiv_eq_ediv_of_nonneg, Int.tmod_eq_emod_of_nonneg, Int.fdiv_eq_ediv_of_nonneg, Nat.mul_one, Nat.reduceAdd, Nat.zero_add, Nat.add_zero, implies_true, false_implies, true_implies, i0, i1]
      exact ⟨_, by omega, i + 1, fat, L, _, _, _, rfl, by omega, by simp, Own_cast own9 (by simp) (by simp [bytesV]), hx9, sL, cL, hll2.1, by omega, by omega, by rw [List.length_append]; omega, hR⟩
    have hs0' : (S.length : Int) = 0 := by omega
    have hSn : S = [] := List.length_eq_zero_iff.1 hs0
    have hSe : (valsS p S).2 = 0 := by rw [hSn]; rfl
    rw [hSe]
    have hwd8 : (251 : Int) + ((L.length : Int) - loc.length) = ((251 + L.length - loc.length : Nat) : Int) := by omega
    have hw8 : IntKind.u8.wrap ((251 + L.length - loc.length : Nat) : Int) = ((251 + L.length - loc.length : Nat) : Int) := wrap_u8 (by omega) (by omega)
    have a1 : [UInt8.ofNat (251 + L.length - loc.length)].length + (bigS d 2).length ≤ 9223372036854775807 := by rw [bigS_len]; simp
    simp (disch := first | omega | assumption) only [C.ref3_WriteMap_gos, vs, T.ts, and_true, true_and, List.getElem?_toArray, List.getElem?_cons_zero, List.getElem?_cons_succ, ↓reduceIte, Nat.reduceEqDiff, Option.bind_some, Option.map_some, Option.isSome_some, ne_eq, Bool.not_true, Bool.not_false, Bool.true_eq_false, Bool.false_eq_true, Bool.not_eq_true', Bool.not_eq_false', reduceCtorEq, Option.some.injEq, decide_eq_true_eq, decide_eq_false_iff_not, not_true_eq_false, not_false_eq_true, decide_true, decide_false, List.size_toArray, List.length_cons, List.length_nil, List.cons_append, List.nil_append, List.append_nil, List.map_cons, List.map_nil, Array.size_push, Int.toNat_natCast, List.toList_toArray, Nat.min_def, Nat.reduceLeDiff, Nat.reducePow, Int.reducePow, Int.reduceToNat, Int.tdiv_eq_ediv_of_nonneg, Int.tmod_eq_emod_of_nonneg, Int.fdiv_eq_ediv_of_nonneg, Nat.mul_one, Nat.reduceAdd, Nat.zero_add, Nat.add_zero, implies_true, false_implies, true_implies, e1, e2, Int.reduceEq, Int.reduceNeg, Int.reduceLT, decide_true, decide_false, m1, m2, h3, eq_true hs0', hwd8, hw8]
    refine eff_lits T.slT_43 rfl rfl (by decide) ?_
    simp (disch := first | omega | assumption) only [C.ref3_WriteMap_gos, vs, T.ts, and_true, true_and, List.getElem?_toArray, List.getElem?_cons_zero, List.getElem?_cons_succ, ↓reduceIte, Nat.reduceEqDiff, Option.bind_some, Option.map_some, Option.isSome_some, ne_eq, Bool.not_true, Bool.not_false, Bool.true_eq_false, Bool.false_eq_true, Bool.not_eq_true', Bool.not_eq_false', reduceCtorEq, Option.some.injEq, decide_eq_true_eq, decide_eq_false_iff_not, not_true_eq_false, not_false_eq_true, decide_true, decide_false, List.size_toArray, List.length_cons, List.length_nil, List.cons_append, List.nil_append, List.append_nil, List.map_cons, List.map_nil, Array.size_push, Int.toNat_natCast, List.toList_toArray, Nat.min_def, Nat.reduceLeDiff, Nat.reducePow, Int.reducePow, Int.reduceToNat, Int.tdiv_eq_ediv_of_nonneg, Int.tmod_eq_emod_of_nonneg, Int.fdiv_eq_ediv_of_nonneg, Nat.mul_one, Nat.reduceAdd, Nat.zero_add, Nat.add_zero, implies_true, false_implies, true_implies, Int.toNat_natCast, a1, show ((0 : Nat) : Int) = 0 from rfl]
    have ownP := own5.push (.cells #[.int .u8 ((251 + L.length - loc.length : Nat) : Int)] 5)
    have hxP : Ext h (h6.push (.cells #[.int .u8 ((251 + L.length - loc.length : Nat) : Int)] 5)) := hx5.trans (Ext.push _ _)
    have bP := push_blk (o' := .cells #[.int .u8 ((251 + L.length - loc.length : Nat) : Int)] 5) b5
    generalize hhP : h6.push (.cells #[.int .u8 ((251 + L.length - loc.length : Nat) : Int)] 5) = hP at *
    have hfr : frS p ⟨fat, L, S⟩ d loc = (UInt8.ofNat (251 + L.length - loc.length) :: bigS d 2, 0) := by unfold frS; simp only [hk, hnn, hs0, hlt2, h3', if_true, if_false]
    rw [hfr] at hR
    simp only at hR
    have f0 : cellAt hP ⟨q, 0, none⟩ = some (.int .i64 fat) := by rw [cellAt_of bP]; rfl
    have f1 : cellAt hP ⟨q, 1, none⟩ = some (.slice aL L.length kL) := by rw [cellAt_of bP]; rfl
    rw [if_neg (by simp)] at hR
    have hez' : (0 : Int) = 0 := rfl
    have hbl : (UInt8.ofNat (251 + L.length - loc.length) :: bigS d 2).length ≤ 400000 := by
      have := frS_len p ⟨fat, L, S⟩ d loc (by simp only; omega) (by simp only; omega)
      rw [hfr] at this
      exact this
    refine eff_append_str (l := UInt8.ofNat (251 + L.length - loc.length) :: bigS d 2) T.slT_43 Try.underlying9 rfl rfl ownP (by omega) (by omega) hxP.size ?_
    intro v9 h9 own9 fr9
    have hx9 : Ext h h9 := Ext.app hxP fr9 (fun k hk => (ownP.lt k hk).1)
    have b9 := Fr_blk fr9 bP (Own_ne ownP bP (by decide))
    have i0 : cellAt h9 ⟨q, 0, none⟩ = some (.int .i64 fat) := by rw [cellAt_of b9]; rfl
    have i1 : cellAt h9 ⟨q, 1, none⟩ = some (.slice aL L.length kL) := by rw [cellAt_of b9]; rfl
    simp (disch := first | omega | assumption) only [C.ref3_WriteMap_gos, vs, T.ts, and_true, true_and, List.getElem?_toArray, List.getElem?_cons_zero, List.getElem?_cons_succ, ↓reduceIte, Nat.reduceEqDiff, Option.bind_some, Option.map_some, Option.isSome_some, ne_eq, Bool.not_true, Bool.not_false, Bool.true_eq_false, Bool.false_eq_true, Bool.not_eq_true', Bool.not_eq_false', reduceCtorEq, Option.some.injEq, decide_eq_true_eq, decide_eq_false_iff_not, not_true_eq_false, not_false_eq_true, decide_true, decide_false, List.size_toArray, List.length_cons, List.length_nil, List.cons_append, List.nil_append, List.append_nil, List.map_cons, List.map_nil, Array.size_push, Int.toNat_natCast, List.toList_toArray, Nat.min_def, Nat.reduceLeDiff, Nat.reducePow, Int.reducePow, Int.reduceToNat, Int.tdiv_eq_ediv_of_nonneg, Int.tmod_eq_emod_of_nonneg, Int.fdiv_eq_ediv_of_nonneg, Nat.mul_one, Nat.reduceAdd, Nat.zero_add, Nat.add_zero, implies_true, false_implies, true_implies, i0, i1]
    exact ⟨_, by omega, i + 1, fat, L, _, _, _, rfl, by omega, by simp, Own_cast own9 (by simp) (by simp [bytesV]), hx9, sL, cL, hll2.1, by omega, by omega, by rw [List.length_append]; omega, hR⟩
  have m1 : ¬ (L.length : Int) - loc.length < 0 := by omega
  by_cases hgt : loc.length < L.length
  case neg =>
    have m2 : ¬ (0 : Int) < (L.length : Int) - loc.length := by omega
    have hk' : likeS L loc = false := hne (by omega)
    simp (disch := first | omega | assumption) only [C.ref3_WriteMap_gos, vs, T.ts, and_true, true_and, List.getElem?_toArray, List.getElem?_cons_zero, List.getElem?_cons_succ, ↓reduceIte, Nat.reduceEqDiff, Option.bind_some, Option.map_some, Option.isSome_some, ne_eq, Bool.not_true, Bool.not_false, Bool.true_eq_false, Bool.false_eq_true, Bool.not_eq_true', Bool.not_eq_false', reduceCtorEq, Option.some.injEq, decide_eq_true_eq, decide_eq_false_iff_not, not_true_eq_false, not_false_eq_true, decide_true, decide_false, List.size_toArray, List.length_cons, List.length_nil, List.cons_append, List.nil_append, List.append_nil, List.map_cons, List.map_nil, Array.size_push, Int.toNat_natCast, List.toList_toArray, Nat.min_def, Nat.reduceLeDiff, Nat.reducePow, Int.reducePow, Int.reduceToNat, Int.tdiv_eq_ediv_of_nonneg, Int.tmod_eq_emod_of_nonneg, Int.fdiv_eq_ediv_of_nonneg, Nat.mul_one, Nat.reduceAdd, Nat.zero_add, Nat.add_zero, implies_true, false_implies, true_implies, e1, e2, Int.reduceEq, Int.reduceNeg, Int.reduceLT, decide_true, decide_false, m1, m2]
    refine eff_call_of ?_
    simp (disch := first | omega | assumption) only [C.ref3_WriteMap_gos, vs, T.ts, and_true, true_and, List.getElem?_toArray, List.getElem?_cons_zero, List.getElem?_cons_succ, ↓reduceIte, Nat.reduceEqDiff, Option.bind_some, Option.map_some, Option.isSome_some, ne_eq, Bool.not_true, Bool.not_false, Bool.true_eq_false, Bool.false_eq_true, Bool.not_eq_true', Bool.not_eq_false', reduceCtorEq, Option.some.injEq, decide_eq_true_eq, decide_eq_false_iff_not, not_true_eq_false, not_false_eq_true, decide_true, decide_false, List.size_toArray, List.length_cons, List.length_nil, List.cons_append, List.nil_append, List.append_nil, List.map_cons, List.map_nil, Array.size_push, Int.toNat_natCast, List.toList_toArray, Nat.min_def, Nat.reduceLeDiff, Nat.reducePow, Int.reducePow, Int.reduceToNat, Int.tdiv_eq_ediv_of_nonneg, Int.tmod_eq_emod_of_nonneg, Int.fdiv_eq_ediv_of_nonneg, Nat.mul_one, Nat.reduceAdd, Nat.zero_add, Nat.add_zero, implies_true, false_implies, true_implies]
    refine (told_any L p _ _ _ sL5 hfit.L (by omega) (hp.ext (by decide) hx5) hpf hpl).mono ?_
    rintro v7 h7 ⟨x7, rfl⟩
    have b7 := Fr_blk x7 b5 id
    have own7 := own5.ext x7
    have hx7 := hx5.trans x7
    have j1 : cellAt h7 ⟨q, 1, none⟩ = some (.slice aL L.length kL) := by rw [cellAt_of b7]; rfl
    have j2 : cellAt h7 ⟨q, 2, none⟩ = some (.slice aS S.length kS) := by rw [cellAt_of b7]; rfl
    have hwL : IntKind.u64.wrap (L.length : Int) = (L.length : Int) := wrap_u64 (by omega) (by omega)
    have hwS : IntKind.u64.wrap (S.length : Int) = (S.length : Int) := wrap_u64 (by omega) (by omega)
    have hlL : (bigS L.length 2).length = 2 := bigS_len
    have hlS : (bigS S.length 2).length = 2 := bigS_len
    have a1 : [(255 : UInt8)].length + (bigS d 2).length ≤ 9223372036854775807 := by simp only [List.length_cons, List.length_append, List.length_nil]; omega
    have a2 : ((255 : UInt8) :: bigS d 2).length + (bigS L.length 2).length ≤ 9223372036854775807 := by simp only [List.length_cons, List.length_append, List.length_nil]; omega
    have a3 : ((255 : UInt8) :: (bigS d 2 ++ bigS L.length 2)).length + (valsS p L).1.length ≤ 9223372036854775807 := by simp only [List.length_cons, List.length_append, List.length_nil]; omega
    have a4 : ((255 : UInt8) :: (bigS d 2 ++ bigS L.length 2 ++ (valsS p L).1)).length + (bigS S.length 2).length ≤ 9223372036854775807 := by simp only [List.length_cons, List.length_append, List.length_nil]; omega
    have a5 : ((255 : UInt8) :: (bigS d 2 ++ bigS L.length 2 ++ (valsS p L).1 ++ bigS S.length 2)).length + (valsS p S).1.length ≤ 9223372036854775807 := by simp only [List.length_cons, List.length_append, List.length_nil]; omega
    have hw0 : frS p ⟨fat, L, S⟩ d loc = defS p ⟨fat, L, S⟩ d := by unfold frS; simp only [hk', if_false, Bool.false_eq_true]
    by_cases heL : (valsS p L).2 = 0
    case' pos =>
      have heL' : (((valsS p L).2 : Nat) : Int) = 0 := by omega
      have hth : thenE (valsS p L).2 (valsS p S).2 = (valsS p S).2 := by rw [heL]; rfl
      simp (disch := first | omega | assumption) only [C.ref3_WriteMap_gos, vs, T.ts, and_true, true_and, List.getElem?_toArray, List.getElem?_cons_zero, List.getElem?_cons_succ, ↓reduceIte, Nat.reduceEqDiff, Option.bind_some, Option.map_some, Option.isSome_some, ne_eq, Bool.not_true, Bool.not_false, Bool.true_eq_false, Bool.false_eq_true, Bool.not_eq_true', Bool.not_eq_false', reduceCtorEq, Option.some.injEq, decide_eq_true_eq, decide_eq_false_iff_not, not_true_eq_false, not_false_eq_true, decide_true, decide_false, List.size_toArray, List.length_cons, List.length_nil, List.cons_append, List.nil_append, List.append_nil, List.map_cons, List.map_nil, Array.size_push, Int.toNat_natCast, List.toList_toArray, Nat.min_def, Nat.reduceLeDiff, Nat.reducePow, Int.reducePow, Int.reduceToNat, Int.tdiv_eq_ediv_of_nonneg, Int.tmod_eq_emod_of_nonneg, Int.fdiv_eq_ediv_of_nonneg, Nat.mul_one, Nat.reduceAdd, Nat.zero_add, Nat.add_zero, implies_true, false_implies, true_implies, eq_true heL', j1, j2, hwL, hwS, a1]
    case' neg =>
      have heL' : ¬ (((valsS p L).2 : Nat) : Int) = 0 := by omega
      have hth : thenE (valsS p L).2 (valsS p S).2 = (valsS p L).2 := by unfold thenE; rw [if_neg heL]
      simp (disch := first | omega | assumption) only [C.ref3_WriteMap_gos, vs, T.ts, and_true, true_and, List.getElem?_toArray, List.getElem?_cons_zero, List.getElem?_cons_succ, ↓reduceIte, Nat.reduceEqDiff, Option.bind_some, Option.map_some, Option.isSome_some, ne_eq, Bool.not_true, Bool.not_false, Bool.true_eq_false, Bool.false_eq_true, Bool.not_eq_true', Bool.not_eq_false', reduceCtorEq, Option.some.injEq, decide_eq_true_eq, decide_eq_false_iff_not, not_true_eq_false, not_false_eq_true, decide_true, decide_false, List.size_toArray, List.length_cons, List.length_nil, List.cons_append, List.nil_append, List.append_nil, List.map_cons, List.map_nil, Array.size_push, Int.toNat_natCast, List.toList_toArray, Nat.min_def, Nat.reduceLeDiff, Nat.reducePow, Int.reducePow, Int.reduceToNat, Int.tdiv_eq_ediv_of_nonneg, Int.tmod_eq_emod_of_nonneg, Int.fdiv_eq_ediv_of_nonneg, Nat.mul_one, Nat.reduceAdd, Nat.zero_add, Nat.add_zero, implies_true, false_implies, true_implies, eq_false heL', j1, j2, hwL, hwS, a1]
    all_goals
      refine eff_call_of ?_
      simp (disch := first | omega | assumption) only [C.ref3_WriteMap_gos, vs, T.ts, and_true, true_and, List.getElem?_toArray, List.getElem?_cons_zero, List.getElem?_cons_succ, ↓reduceIte, Nat.reduceEqDiff, Option.bind_some, Option.map_some, Option.isSome_some, ne_eq, Bool.not_true, Bool.not_false, Bool.true_eq_false, Bool.false_eq_true, Bool.not_eq_true', Bool.not_eq_false', reduceCtorEq, Option.some.injEq, decide_eq_true_eq, decide_eq_false_iff_not, not_true_eq_false, not_false_eq_true, decide_true, decide_false, List.size_toArray, List.length_cons, List.length_nil, List.cons_append, List.nil_append, List.append_nil, List.map_cons, List.map_nil, Array.size_push, Int.toNat_natCast, List.toList_toArray, Nat.min_def, Nat.reduceLeDiff, Nat.reducePow, Int.reducePow, Int.reduceToNat, Int.tdiv_eq_ediv_of_nonneg, Int.tmod_eq_emod_of_nonneg, Int.fdiv_eq_ediv_of_nonneg, Nat.mul_one, Nat.reduceAdd, Nat.zero_add, Nat.add_zero, implies_true, false_implies, true_implies]
      refine (rbig_any L.length 2 h7 (by omega) (by omega)).mono ?_
      rintro v8 h8 ⟨x8, rfl⟩
      have b8 := Fr_blk x8 b7 id
      have own8 := own7.ext x8
      have hx8 := hx7.trans x8
      have j3 : cellAt h8 ⟨q, 2, none⟩ = some (.slice aS S.length kS) := by rw [cellAt_of b8]; rfl
      simp (disch := first | omega | assumption) only [C.ref3_WriteMap_gos, vs, T.ts, and_true, true_and, List.getElem?_toArray, List.getElem?_cons_zero, List.getElem?_cons_succ, ↓reduceIte, Nat.reduceEqDiff, Option.bind_some, Option.map_some, Option.isSome_some, ne_eq, Bool.not_true, Bool.not_false, Bool.true_eq_false, Bool.false_eq_true, Bool.not_eq_true', Bool.not_eq_false', reduceCtorEq, Option.some.injEq, decide_eq_true_eq, decide_eq_false_iff_not, not_true_eq_false, not_false_eq_true, decide_true, decide_false, List.size_toArray, List.length_cons, List.length_nil, List.cons_append, List.nil_append, List.append_nil, List.map_cons, List.map_nil, Array.size_push, Int.toNat_natCast, List.toList_toArray, Nat.min_def, Nat.reduceLeDiff, Nat.reducePow, Int.reducePow, Int.reduceToNat, Int.tdiv_eq_ediv_of_nonneg, Int.tmod_eq_emod_of_nonneg, Int.fdiv_eq_ediv_of_nonneg, Nat.mul_one, Nat.reduceAdd, Nat.zero_add, Nat.add_zero, implies_true, false_implies, true_implies, j3, hwS, a1, a2, a3]
      refine eff_call_of ?_
      simp (disch := first | omega | assumption) only [C.ref3_WriteMap_gos, vs, T.ts, and_true, true_and, List.getElem?_toArray, List.getElem?_cons_zero, List.getElem?_cons_succ, ↓reduceIte, Nat.reduceEqDiff, Option.bind_some, Option.map_some, Option.isSome_some, ne_eq, Bool.not_true, Bool.not_false, Bool.true_eq_false, Bool.false_eq_true, Bool.not_eq_true', Bool.not_eq_false', reduceCtorEq, Option.some.injEq, decide_eq_true_eq, decide_eq_false_iff_not, not_true_eq_false, not_false_eq_true, decide_true, decide_false, List.size_toArray, List.length_cons, List.length_nil, List.cons_append, List.nil_append, List.append_nil, List.map_cons, List.map_nil, Array.size_push, Int.toNat_natCast, List.toList_toArray, Nat.min_def, Nat.reduceLeDiff, Nat.reducePow, Int.reducePow, Int.reduceToNat, Int.tdiv_eq_ediv_of_nonneg, Int.tmod_eq_emod_of_nonneg, Int.fdiv_eq_ediv_of_nonneg, Nat.mul_one, Nat.reduceAdd, Nat.zero_add, Nat.add_zero, implies_true, false_implies, true_implies, a1, a2, a3]
      refine (rbig_any S.length 2 h8 (by omega) (by omega)).mono ?_
      rintro v88 h88 ⟨x88, rfl⟩
      have b88 := Fr_blk x88 b8 id
      have own88 := own8.ext x88
      have hx88 := hx8.trans x88
      have hfr : frS p ⟨fat, L, S⟩ d loc = ((255 : UInt8) :: (bigS d 2 ++ bigS L.length 2 ++ (valsS p L).1 ++ bigS S.length 2 ++ (valsS p S).1), thenE (valsS p L).2 (valsS p S).2) := by rw [hw0]; rfl
      rw [hfr, hth] at hR
      simp only at hR
      have f0 : cellAt h88 ⟨q, 0, none⟩ = some (.int .i64 fat) := by rw [cellAt_of b88]; rfl
      have f1 : cellAt h88 ⟨q, 1, none⟩ = some (.slice aL L.length kL) := by rw [cellAt_of b88]; rfl
      have hbl : ((255 : UInt8) :: (bigS d 2 ++ bigS L.length 2 ++ (valsS p L).1 ++ bigS S.length 2 ++ (valsS p S).1)).length ≤ 400000 := by
        have := frS_len p ⟨fat, L, S⟩ d loc (by simp only; omega) (by simp only; omega)
        rw [hfr] at this
        exact this
    case' pos =>
      by_cases hez : (valsS p S).2 = 0
      case neg =>
        have hez' : ¬ (((valsS p S).2 : Nat) : Int) = 0 := by omega
        rw [if_pos hez] at hR
        subst hR
        simp (disch := first | omega | assumption) only [C.ref3_WriteMap_gos, vs, T.ts, and_true, true_and, List.getElem?_toArray, List.getElem?_cons_zero, List.getElem?_cons_succ, ↓reduceIte, Nat.reduceEqDiff, Option.bind_some, Option.map_some, Option.isSome_some, ne_eq, Bool.not_true, Bool.not_false, Bool.true_eq_false, Bool.false_eq_true, Bool.not_eq_true', Bool.not_eq_false', reduceCtorEq, Option.some.injEq, decide_eq_true_eq, decide_eq_false_iff_not, not_true_eq_false, not_false_eq_true, decide_true, decide_false, List.size_toArray, List.length_cons, List.length_nil, List.cons_append, List.nil_append, List.append_nil, List.map_cons, List.map_nil, Array.size_push, Int.toNat_natCast, List.toList_toArray, Nat.min_def, Nat.reduceLeDiff, Nat.reducePow, Int.reducePow, Int.reduceToNat, Int.tdiv_eq_ediv_of_nonneg, Int.tmod_eq_emod_of_nonneg, Int.fdiv_eq_ediv_of_nonneg, Nat.mul_one, Nat.reduceAdd, Nat.zero_add, Nat.add_zero, implies_true, false_implies, true_implies, a1, a2, a3, a4, a5, eq_false hez']
        exact ⟨hx88, rfl⟩
      have hez' : (((valsS p S).2 : Nat) : Int) = 0 := by omega
      rw [if_neg (by rw [hez]; simp)] at hR
      simp (disch := first | omega | assumption) only [C.ref3_WriteMap_gos, vs, T.ts, and_true, true_and, List.getElem?_toArray, List.getElem?_cons_zero, List.getElem?_cons_succ, ↓reduceIte, Nat.reduceEqDiff, Option.bind_some, Option.map_some, Option.isSome_some, ne_eq, Bool.not_true, Bool.not_false, Bool.true_eq_false, Bool.false_eq_true, Bool.not_eq_true', Bool.not_eq_false', reduceCtorEq, Option.some.injEq, decide_eq_true_eq, decide_eq_false_iff_not, not_true_eq_false, not_false_eq_true, decide_true, decide_false, List.size_toArray, List.length_cons, List.length_nil, List.cons_append, List.nil_append, List.append_nil, List.map_cons, List.map_nil, Array.size_push, Int.toNat_natCast, List.toList_toArray, Nat.min_def, Nat.reduceLeDiff, Nat.reducePow, Int.reducePow, Int.reduceToNat, Int.tdiv_eq_ediv_of_nonneg, Int.tmod_eq_emod_of_nonneg, Int.fdiv_eq_ediv_of_nonneg, Nat.mul_one, Nat.reduceAdd, Nat.zero_add, Nat.add_zero, implies_true, false_implies, true_implies, a1, a2, a3, a4, a5, eq_true hez']
    case neg =>
      rw [if_pos heL] at hR
      subst hR
      simp (disch := first | omega | assumption) only [C.ref3_WriteMap_gos, vs, T.ts, and_true, true_and, List.getElem?_toArray, List.getElem?_cons_zero, List.getElem?_cons_succ, ↓reduceIte, Nat.reduceEqDiff, Option.bind_some, Option.map_some, Option.isSome_some, ne_eq, Bool.not_true, Bool.not_false, Bool.true_eq_false, Bool.false_eq_true, Bool.not_eq_true', Bool.not_eq_false', reduceCtorEq, Option.some.injEq, decide_eq_true_eq, decide_eq_false_iff_not, not_true_eq_false, not_false_eq_true, decide_true, decide_false, List.size_toArray, List.length_cons, List.length_nil, List.cons_append, List.nil_append, List.append_nil, List.map_cons, List.map_nil, Array.size_push, Int.toNat_natCast, List.toList_toArray, Nat.min_def, Nat.reduceLeDiff, Nat.reducePow, Int.reducePow, Int.reduceToNat, Int.tdiv_eq_ediv_of_nonneg, Int.tmod_eq_emod_of_nonneg, Int.fdiv_eq_ediv_of_nonneg, Nat.mul_one, Nat.reduceAdd, Nat.zero_add, Nat.add_zero, implies_true, false_implies, true_implies, a1, a2, a3, a4, a5, eq_false heL']
      exact ⟨hx88, rfl⟩
    refine eff_append_str (l := (255 : UInt8) :: (bigS d 2 ++ bigS L.length 2 ++ (valsS p L).1 ++ bigS S.length 2 ++ (valsS p S).1)) T.slT_43 Try.underlying9 rfl rfl own88 (by omega) (by omega) hx88.size ?_
    intro v9 h9 own9 fr9
    have hx9 : Ext h h9 := Ext.app hx88 fr9 (fun k hk => (own88.lt k hk).1)
    have b9 := Fr_blk fr9 b88 (Own_ne own88 b88 (by decide))
    have i0 : cellAt h9 ⟨q, 0, none⟩ = some (.int .i64 fat) := by rw [cellAt_of b9]; rfl
    have i1 : cellAt h9 ⟨q, 1, none⟩ = some (.slice aL L.length kL) := by rw [cellAt_of b9]; rfl
    simp (disch := first | omega | assumption) only [C.ref3_WriteMap_gos, vs, T.ts, and_true, true_and, List.getElem?_toArray, List.getElem?_cons_zero, List.getElem?_cons_succ, ↓reduceIte, Nat.reduceEqDiff, Option.bind_some, Option.map_some, Option.isSome_some, ne_eq, Bool.not_true, Bool.not_false, Bool.true_eq_false, Bool.false_eq_true, Bool.not_eq_true', Bool.not_eq_false', reduceCtorEq, Option.some.injEq, decide_eq_true_eq, decide_eq_false_iff_not, not_true_eq_false, not_false_eq_true, decide_true, decide_false, List.size_toArray, List.length_cons, List.length_nil, List.cons_append, List.nil_append, List.append_nil, List.map_cons, List.map_nil, Array.size_push, Int.toNat_natCast, List.toList_toArray, Nat.min_def, Nat.reduceLeDiff, Nat.reducePow, Int.reducePow, Int.reduceToNat, Int.tdiv_eq_ediv_of_nonneg, Int.tmod_eq_emod_of_nonneg, Int.fdiv_eq_ediv_of_nonneg, Nat.mul_one, Nat.reduceAdd, Nat.zero_add, Nat.add_zero, implies_true, false_implies, true_implies, i0, i1]
    exact ⟨_, by omega, i + 1, fat, L, _, _, _, rfl, by omega, by simp, Own_cast own9 (by simp) (by simp [bytesV]), hx9, sL, cL, hll2.1, by omega, by omega, by rw [List.length_append]; omega, hR⟩
  have m2 : (0 : Int) < (L.length : Int) - loc.length := by omega
  have hnn : ¬ L.length = loc.length := by omega
  by_cases h3 : (L.length : Int) - loc.length ≤ 3
  case neg =>
    have h3' : ¬ L.length ≤ loc.length + 3 := by omega
    simp (disch := first | omega | assumption) only [C.ref3_WriteMap_gos, vs, T.ts, and_true, true_and, List.getElem?_toArray, List.getElem?_cons_zero, List.getElem?_cons_succ, ↓reduceIte, Nat.reduceEqDiff, Option.bind_some, Option.map_some, Option.isSome_some, ne_eq, Bool.not_true, Bool.not_false, Bool.true_eq_false, Bool.false_eq_true, Bool.not_eq_true', Bool.not_eq_false', reduceCtorEq, Option.some.injEq, decide_eq_true_eq, decide_eq_false_iff_not, not_true_eq_false, not_false_eq_true, decide_true, decide_false, List.size_toArray, List.length_cons, List.length_nil, List.cons_append, List.nil_append, List.append_nil, List.map_cons, List.map_nil, Array.size_push, Int.toNat_natCast, List.toList_toArray, Nat.min_def, Nat.reduceLeDiff, Nat.reducePow, Int.reducePow, Int.reduceToNat, Int.tdiv_eq_ediv_of_nonneg, Int.tmod_eq_emod_of_nonneg, Int.fdiv_eq_ediv_of_nonneg, Nat.mul_one, Nat.reduceAdd, Nat.zero_add, Nat.add_zero, implies_true, false_implies, true_implies, e1, e2, Int.reduceEq, Int.reduceNeg, Int.reduceLT, decide_true, decide_false, m1, m2, h3]
    refine eff_call_of ?_
    simp (disch := first | omega | assumption) only [C.ref3_WriteMap_gos, vs, T.ts, and_true, true_and, List.getElem?_toArray, List.getElem?_cons_zero, List.getElem?_cons_succ, ↓reduceIte, Nat.reduceEqDiff, Option.bind_some, Option.map_some, Option.isSome_some, ne_eq, Bool.not_true, Bool.not_false, Bool.true_eq_false, Bool.false_eq_true, Bool.not_eq_true', Bool.not_eq_false', reduceCtorEq, Option.some.injEq, decide_eq_true_eq, decide_eq_false_iff_not, not_true_eq_false, not_false_eq_true, decide_true, decide_false, List.size_toArray, List.length_cons, List.length_nil, List.cons_append, List.nil_append, List.append_nil, List.map_cons, List.map_nil, Array.size_push, Int.toNat_natCast, List.toList_toArray, Nat.min_def, Nat.reduceLeDiff, Nat.reducePow, Int.reducePow, Int.reduceToNat, Int.tdiv_eq_ediv_of_nonneg, Int.tmod_eq_emod_of_nonneg, Int.fdiv_eq_ediv_of_nonneg, Nat.mul_one, Nat.reduceAdd, Nat.zero_add, Nat.add_zero, implies_true, false_implies, true_implies]
    refine (told_any L p _ _ _ sL5 hfit.L (by omega) (hp.ext (by decide) hx5) hpf hpl).mono ?_
    rintro v7 h7 ⟨x7, rfl⟩
    have b7 := Fr_blk x7 b5 id
    have own7 := own5.ext x7
    have hx7 := hx5.trans x7
    have j1 : cellAt h7 ⟨q, 1, none⟩ = some (.slice aL L.length kL) := by rw [cellAt_of b7]; rfl
    have j2 : cellAt h7 ⟨q, 2, none⟩ = some (.slice aS S.length kS) := by rw [cellAt_of b7]; rfl
    have hwL : IntKind.u64.wrap (L.length : Int) = (L.length : Int) := wrap_u64 (by omega) (by omega)
    have hwS : IntKind.u64.wrap (S.length : Int) = (S.length : Int) := wrap_u64 (by omega) (by omega)
    have hlL : (bigS L.length 2).length = 2 := bigS_len
    have hlS : (bigS S.length 2).length = 2 := bigS_len
    have a1 : [(255 : UInt8)].length + (bigS d 2).length ≤ 9223372036854775807 := by simp only [List.length_cons, List.length_append, List.length_nil]; omega
    have a2 : ((255 : UInt8) :: bigS d 2).length + (bigS L.length 2).length ≤ 9223372036854775807 := by simp only [List.length_cons, List.length_append, List.length_nil]; omega
    have a3 : ((255 : UInt8) :: (bigS d 2 ++ bigS L.length 2)).length + (valsS p L).1.length ≤ 9223372036854775807 := by simp only [List.length_cons, List.length_append, List.length_nil]; omega
    have a4 : ((255 : UInt8) :: (bigS d 2 ++ bigS L.length 2 ++ (valsS p L).1)).length + (bigS S.length 2).length ≤ 9223372036854775807 := by simp only [List.length_cons, List.length_append, List.length_nil]; omega
    have a5 : ((255 : UInt8) :: (bigS d 2 ++ bigS L.length 2 ++ (valsS p L).1 ++ bigS S.length 2)).length + (valsS p S).1.length ≤ 9223372036854775807 := by simp only [List.length_cons, List.length_append, List.length_nil]; omega
    have hw0 : frS p ⟨fat, L, S⟩ d loc = defS p ⟨fat, L, S⟩ d := by unfold frS; simp only [hnn, hlt2, h3', if_true, if_false, ite_self]
    by_cases heL : (valsS p L).2 = 0
    case' pos =>
      have heL' : (((valsS p L).2 : Nat) : Int) = 0 := by omega
      have hth : thenE (valsS p L).2 (valsS p S).2 = (valsS p S).2 := by rw [heL]; rfl
      simp (disch := first | omega | assumption) only [C.ref3_WriteMap_gos, vs, T.ts, and_true, true_and, List.getElem?_toArray, List.getElem?_cons_zero, List.getElem?_cons_succ, ↓reduceIte, Nat.reduceEqDiff, Option.bind_some, Option.map_some, Option.isSome_some, ne_eq, Bool.not_true, Bool.not_false, Bool.true_eq_false, Bool.false_eq_true, Bool.not_eq_true', Bool.not_eq_false', reduceCtorEq, Option.some.injEq, decide_eq_true_eq, decide_eq_false_iff_not, not_true_eq_false, not_false_eq_true, decide_true, decide_false, List.size_toArray, List.length_cons, List.length_nil, List.cons_append, List.nil_append, List.append_nil, List.map_cons, List.map_nil, Array.size_push, Int.toNat_natCast, List.toList_toArray, Nat.min_def, Nat.reduceLeDiff, Nat.reducePow, Int.reducePow, Int.reduceToNat, Int.tdiv_eq_ediv_of_nonneg, Int.tmod_eq_emod_of_nonneg, Int.fdiv_eq_ediv_of_nonneg, Nat.mul_one, Nat.reduceAdd, Nat.zero_add, Nat.add_zero, implies_true, false_implies, true_implies, eq_true heL', j1, j2, hwL, hwS, a1]
    case' neg =>
      have heL' : ¬ (((valsS p L).2 : Nat) : Int) = 0 := by omega
      have hth : thenE (valsS p L).2 (valsS p S).2 = (valsS p L).2 := by unfold thenE; rw [if_neg heL]
      simp (disch := first | omega | assumption) only [C.ref3_WriteMap_gos, vs, T.ts, and_true, true_and, List.getElem?_toArray, List.getElem?_cons_zero, List.getElem?_cons_succ, ↓reduceIte, Nat.reduceEqDiff, Option.bind_some, Option.map_some, Option.isSome_some, ne_eq, Bool.not_true, Bool.not_false, Bool.true_eq_false, Bool.false_eq_true, Bool.not_eq_true', Bool.not_eq_false', reduceCtorEq, Option.some.injEq, decide_eq_true_eq, decide_eq_false_iff_not, not_true_eq_false, not_false_eq_true, decide_true, decide_false, List.size_toArray, List.length_cons, List.length_nil, List.cons_append, List.nil_append, List.append_nil, List.map_cons, List.map_nil, Array.size_push, Int.toNat_natCast, List.toList_toArray, Nat.min_def, Nat.reduceLeDiff, Nat.reducePow, Int.reducePow, Int.reduceToNat, Int.tdiv_eq_ediv_of_nonneg, Int.tmod_eq_emod_of_nonneg, Int.fdiv_eq_ediv_of_nonneg, Nat.mul_one, Nat.reduceAdd, Nat.zero_add, Nat.add_zero, implies_true, false_implies, true_implies, eq_false heL', j1, j2, hwL, hwS, a1]
    all_goals
      refine eff_call_of ?_
      simp (disch := first | omega | assumption) only [C.ref3_WriteMap_gos, vs, T.ts, and_true, true_and, List.getElem?_toArray, List.getElem?_cons_zero, List.getElem?_cons_succ, ↓reduceIte, Nat.reduceEqDiff, Option.bind_some, Option.map_some, Option.isSome_some, ne_eq, Bool.not_true, Bool.not_false, Bool.true_eq_false, Bool.false_eq_true, Bool.not_eq_true', Bool.not_eq_false', reduceCtorEq, Option.some.injEq, decide_eq_true_eq, decide_eq_false_iff_not, not_true_eq_false, not_false_eq_true, decide_true, decide_false, List.size_toArray, List.length_cons, List.length_nil, List.cons_append, List.nil_append, List.append_nil, List.map_cons, List.map_nil, Array.size_push, Int.toNat_natCast, List.toList_toArray, Nat.min_def, Nat.reduceLeDiff, Nat.reducePow, Int.reducePow, Int.reduceToNat, Int.tdiv_eq_ediv_of_nonneg, Int.tmod_eq_emod_of_nonneg, Int.fdiv_eq_ediv_of_nonneg, Nat.mul_one, Nat.reduceAdd, Nat.zero_add, Nat.add_zero, implies_true, false_implies, true_implies]
      refine (rbig_any L.length 2 h7 (by omega) (by omega)).mono ?_
      rintro v8 h8 ⟨x8, rfl⟩
      have b8 := Fr_blk x8 b7 id
      have own8 := own7.ext x8
      have hx8 := hx7.trans x8
      have j3 : cellAt h8 ⟨q, 2, none⟩ = some (.slice aS S.length kS) := by rw [cellAt_of b8]; rfl
      simp (disch := first | omega | assumption) only [C.ref3_WriteMap_gos, vs, T.ts, and_true, true_and, List.getElem?_toArray, List.getElem?_cons_zero, List.getElem?_cons_succ, ↓reduceIte, Nat.reduceEqDiff, Option.bind_some, Option.map_some, Option.isSome_some, ne_eq, Bool.not_true, Bool.not_false, Bool.true_eq_false, Bool.false_eq_true, Bool.not_eq_true', Bool.not_eq_false', reduceCtorEq, Option.some.injEq, decide_eq_true_eq, decide_eq_false_iff_not, not_true_eq_false, not_false_eq_true, decide_true, decide_false, List.size_toArray, List.length_cons, List.length_nil, List.cons_append, List.nil_append, List.append_nil, List.map_cons, List.map_nil, Array.size_push, Int.toNat_natCast, List.toList_toArray, Nat.min_def, Nat.reduceLeDiff, Nat.reducePow, Int.reducePow, Int.reduceToNat, Int.tdiv_eq_ediv_of_nonneg, Int.tmod_eq_emod_of_nonneg, Int.fdiv_eq_ediv_of_nonneg, Nat.mul_one, Nat.reduceAdd, Nat.zero_add, Nat.add_zero, implies_true, false_implies, true_implies, j3, hwS, a1, a2, a3]
      refine eff_call_of ?_
      simp (disch := first | omega | assumption) only [C.ref3_WriteMap_gos, vs, T.ts, and_true, true_and, List.getElem?_toArray, List.getElem?_cons_zero, List.getElem?_cons_succ, ↓reduceIte, Nat.reduceEqDiff, Option.bind_some, Option.map_some, Option.isSome_some, ne_eq, Bool.not_true, Bool.not_false, Bool.true_eq_false, Bool.false_eq_true, Bool.not_eq_true', Bool.not_eq_false', reduceCtorEq, Option.some.injEq, decide_eq_true_eq, decide_eq_false_iff_not, not_true_eq_false, not_false_eq_true, decide_true, decide_false, List.size_toArray, List.length_cons, List.length_nil, List.cons_append, List.nil_append, List.append_nil, List.map_cons, List.map_nil, Array.size_push, Int.toNat_natCast, List.toList_toArray, Nat.min_def, Nat.reduceLeDiff, Nat.reducePow, Int.reducePow, Int.reduceToNat, Int.tdiv_eq_ediv_of_nonneg, Int.tmod_eq_emod_of_nonneg, Int.fdiv_eq_ediv_of_nonneg, Nat.mul_one, Nat.reduceAdd, Nat.zero_add, Nat.add_zero, implies_true, false_implies, true_implies, a1, a2, a3]
      refine (rbig_any S.length 2 h8 (by omega) (by omega)).mono ?_
      rintro v88 h88 ⟨x88, rfl⟩
      have b88 := Fr_blk x88 b8 id
      have own88 := own8.ext x88
      have hx88 := hx8.trans x88
      have hfr : frS p ⟨fat, L, S⟩ d loc = ((255 : UInt8) :: (bigS d 2 ++ bigS L.length 2 ++ (valsS p L).1 ++ bigS S.length 2 ++ (valsS p S).1), thenE (valsS p L).2 (valsS p S).2) := by rw [hw0]; rfl
      rw [hfr, hth] at hR
      simp only at hR
      have f0 : cellAt h88 ⟨q, 0, none⟩ = some (.int .i64 fat) := by rw [cellAt_of b88]; rfl
      have f1 : cellAt h88 ⟨q, 1, none⟩ = some (.slice aL L.length kL) := by rw [cellAt_of b88]; rfl
      have hbl : ((255 : UInt8) :: (bigS d 2 ++ bigS L.length 2 ++ (valsS p L).1 ++ bigS S.length 2 ++ (valsS p S).1)).length ≤ 400000 := by
        have := frS_len p ⟨fat, L, S⟩ d loc (by simp only; omega) (by simp only; omega)
        rw [hfr] at this
        exact this
    case' pos =>
      by_cases hez : (valsS p S).2 = 0
      case neg =>
        have hez' : ¬ (((valsS p S).2 : Nat) : Int) = 0 := by omega
        rw [if_pos hez] at hR
        subst hR
        simp (disch := first | omega | assumption) only [C.ref3_WriteMap_gos, vs, T.ts, and_true, true_and, List.getElem?_toArray, List.getElem?_cons_zero, List.getElem?_cons_succ, ↓reduceIte, Nat.reduceEqDiff, Option.bind_some, Option.map_some, Option.isSome_some, ne_eq, Bool.not_true, Bool.not_false, Bool.true_eq_false, Bool.false_eq_true, Bool.not_eq_true', Bool.not_eq_false', reduceCtorEq, Option.some.injEq, decide_eq_true_eq, decide_eq_false_iff_not, not_true_eq_false, not_false_eq_true, decide_true, decide_false, List.size_toArray, List.length_cons, List.length_nil, List.cons_append, List.nil_append, List.append_nil, List.map_cons, List.map_nil, Array.size_push, Int.toNat_natCast, List.toList_toArray, Nat.min_def, Nat.reduceLeDiff, Nat.reducePow, Int.reducePow, Int.reduceToNat, Int.tdiv_eq_ediv_of_nonneg, Int.tmod_eq_emod_of_nonneg, Int.fdiv_eq_ediv_of_nonneg, Nat.mul_one, Nat.reduceAdd, Nat.zero_add, Nat.add_zero, implies_true, false_implies, true_implies, a1, a2, a3, a4, a5, eq_false hez']
        exact ⟨hx88, rfl⟩
      have hez' : (((valsS p S).2 : Nat) : Int) = 0 := by omega
      rw [if_neg (by rw [hez]; simp)] at hR
      simp (disch := first | omega | assumption) only [C.ref3_WriteMap_gos, vs, T.ts, and_true, true_and, List.getElem?_toArray, List.getElem?_cons_zero, List.getElem?_cons_succ, ↓reduceIte, Nat.reduceEqDiff, Option.bind_some, Option.map_some, Option.isSome_some, ne_eq, Bool.not_true, Bool.not_false, Bool.true_eq_false, Bool.false_eq_true, Bool.not_eq_true', Bool.not_eq_false', reduceCtorEq, Option.some.injEq, decide_eq_true_eq, decide_eq_false_iff_not, not_true_eq_false, not_false_eq_true, decide_true, decide_false, List.size_toArray, List.length_cons, List.length_nil, List.cons_append, List.nil_append, List.append_nil, List.map_cons, List.map_nil, Array.size_push, Int.toNat_natCast, List.toList_toArray, Nat.min_def, Nat.reduceLeDiff, Nat.reducePow, Int.reducePow, Int.reduceToNat, Int.tdiv_eq_ediv_of_nonneg, Int.tmod_eq_emod_of_nonneg, Int.fdiv_eq_ediv_of_nonneg, Nat.mul_one, Nat.reduceAdd, Nat.zero_add, Nat.add_zero, implies_true, false_implies, true_implies, a1, a2, a3, a4, a5, eq_true hez']
    case neg =>
      rw [if_pos heL] at hR
      subst hR
      simp (disch := first | omega | assumption) only [C.ref3_WriteMap_gos, vs, T.ts, and_true, true_and, List.getElem?_toArray, List.getElem?_cons_zero, List.getElem?_cons_succ, ↓reduceIte, Nat.reduceEqDiff, Option.bind_some, Option.map_some, Option.isSome_some, ne_eq, Bool.not_true, Bool.not_false, Bool.true_eq_false, Bool.false_eq_true, Bool.not_eq_true', Bool.not_eq_false', reduceCtorEq, Option.some.injEq, decide_eq_true_eq, decide_eq_false_iff_not, not_true_eq_false, not_false_eq_true, decide_true, decide_false, List.size_toArray, List.length_cons, List.length_nil, List.cons_append, List.nil_append, List.append_nil, List.map_cons, List.map_nil, Array.size_push, Int.toNat_natCast, List.toList_toArray, Nat.min_def, Nat.reduceLeDiff, Nat.reducePow, Int.reducePow, Int.reduceToNat, Int.tdiv_eq_ediv_of_nonneg, Int.tmod_eq_emod_of_nonneg, Int.fdiv_eq_ediv_of_nonneg, Nat.mul_one, Nat.reduceAdd, Nat.zero_add, Nat.add_zero, implies_true, false_implies, true_implies, a1, a2, a3, a4, a5, eq_false heL']
      exact ⟨hx88, rfl⟩
    refine eff_append_str (l := (255 : UInt8) :: (bigS d 2 ++ bigS L.length 2 ++ (valsS p L).1 ++ bigS S.length 2 ++ (valsS p S).1)) T.slT_43 Try.underlying9 rfl rfl own88 (by omega) (by omega) hx88.size ?_
    intro v9 h9 own9 fr9
    have hx9 : Ext h h9 := Ext.app hx88 fr9 (fun k hk => (own88.lt k hk).1)
    have b9 := Fr_blk fr9 b88 (Own_ne own88 b88 (by decide))
    have i0 : cellAt h9 ⟨q, 0, none⟩ = some (.int .i64 fat) := by rw [cellAt_of b9]; rfl
    have i1 : cellAt h9 ⟨q, 1, none⟩ = some (.slice aL L.length kL) := by rw [cellAt_of b9]; rfl
    simp (disch := first | omega | assumption) only [C.ref3_WriteMap_gos, vs, T.ts, and_true, true_and, List.getElem?_toArray, List.getElem?_cons_zero, List.getElem?_cons_succ, ↓reduceIte, Nat.reduceEqDiff, Option.bind_some, Option.map_some, Option.isSome_some, ne_eq, Bool.not_true, Bool.not_false, Bool.true_eq_false, Bool.false_eq_true, Bool.not_eq_true', Bool.not_eq_false', reduceCtorEq, Option.some.injEq, decide_eq_true_eq, decide_eq_false_iff_not, not_true_eq_false, not_false_eq_true, decide_true, decide_false, List.size_toArray, List.length_cons, List.length_nil, List.cons_append, List.nil_append, List.append_nil, List.map_cons, List.map_nil, Array.size_push, Int.toNat_natCast, List.toList_toArray, Nat.min_def, Nat.reduceLeDiff, Nat.reducePow, Int.reducePow, Int.reduceToNat, Int.tdiv_eq_ediv_of_nonneg, Int.tmod_eq_emod_of_nonneg, Int.fdiv_eq_ediv_of_nonneg, Nat.mul_one, Nat.reduceAdd, Nat.zero_add, Nat.add_zero, implies_true, false_implies, true_implies, i0, i1]
    exact ⟨_, by omega, i + 1, fat, L, _, _, _, rfl, by omega, by simp, Own_cast own9 (by simp) (by simp [bytesV]), hx9, sL, cL, hll2.1, by omega, by omega, by rw [List.length_append]; omega, hR⟩
  have h3' : L.length ≤ loc.length + 3 := by omega
  have hlc : (loc.length : Int) ≤ kL := by omega
  have sub := SlN.sub (lo := 0) (hi := loc.length) sL5 (Nat.zero_le _) (by omega) hcL
  rw [flatV_take, Nat.zero_mul, List.drop_zero] at sub
  simp (disch := first | omega | assumption) only [C.ref3_WriteMap_gos, vs, T.ts, and_true, true_and, List.getElem?_toArray, List.getElem?_cons_zero, List.getElem?_cons_succ, ↓reduceIte, Nat.reduceEqDiff, Option.bind_some, Option.map_some, Option.isSome_some, ne_eq, Bool.not_true, Bool.not_false, Bool.true_eq_false, Bool.false_eq_true, Bool.not_eq_true', Bool.not_eq_false', reduceCtorEq, Option.some.injEq, decide_eq_true_eq, decide_eq_false_iff_not, not_true_eq_false, not_false_eq_true, decide_true, decide_false, List.size_toArray, List.length_cons, List.length_nil, List.cons_append, List.nil_append, List.append_nil, List.map_cons, List.map_nil, Array.size_push, Int.toNat_natCast, List.toList_toArray, Nat.min_def, Nat.reduceLeDiff, Nat.reducePow, Int.reducePow, Int.reduceToNat, Int.tdiv_eq_ediv_of_nonneg, Int.tmod_eq_emod_of_nonneg, Int.fdiv_eq_ediv_of_nonneg, Nat.mul_one, Nat.reduceAdd, Nat.zero_add, Nat.add_zero, implies_true, false_implies, true_implies, e1, e2, Int.reduceEq, Int.reduceNeg, Int.reduceLT, decide_true, decide_false, m1, m2, h3, hlc, Int.toNat_natCast]
  refine eff_call_of ?_
  simp (disch := first | omega | assumption) only [C.ref3_WriteMap_gos, vs, T.ts, and_true, true_and, List.getElem?_toArray, List.getElem?_cons_zero, List.getElem?_cons_succ, ↓reduceIte, Nat.reduceEqDiff, Option.bind_some, Option.map_some, Option.isSome_some, ne_eq, Bool.not_true, Bool.not_false, Bool.true_eq_false, Bool.false_eq_true, Bool.not_eq_true', Bool.not_eq_false', reduceCtorEq, Option.some.injEq, decide_eq_true_eq, decide_eq_false_iff_not, not_true_eq_false, not_false_eq_true, decide_true, decide_false, List.size_toArray, List.length_cons, List.length_nil, List.cons_append, List.nil_append, List.append_nil, List.map_cons, List.map_nil, Array.size_push, Int.toNat_natCast, List.toList_toArray, Nat.min_def, Nat.reduceLeDiff, Nat.reducePow, Int.reducePow, Int.reduceToNat, Int.tdiv_eq_ediv_of_nonneg, Int.tmod_eq_emod_of_nonneg, Int.fdiv_eq_ediv_of_nonneg, Nat.mul_one, Nat.reduceAdd, Nat.zero_add, Nat.add_zero, implies_true, false_implies, true_implies]
  refine (same3_any (L.take loc.length) loc _ _ (loc.length - 0) loc.length (by simp; omega) rfl sub sl5 (by omega)).mono ?_
  rintro v6 h6 ⟨rfl, rfl⟩
  rw [← like_long (by omega)]
  by_cases hk : likeS L loc = true
  case neg =>
    have hk' : likeS L loc = false := by simpa using hk
    rw [hk']
    simp (disch := first | omega | assumption) only [C.ref3_WriteMap_gos, vs, T.ts, and_true, true_and, List.getElem?_toArray, List.getElem?_cons_zero, List.getElem?_cons_succ, ↓reduceIte, Nat.reduceEqDiff, Option.bind_some, Option.map_some, Option.isSome_some, ne_eq, Bool.not_true, Bool.not_false, Bool.true_eq_false, Bool.false_eq_true, Bool.not_eq_true', Bool.not_eq_false', reduceCtorEq, Option.some.injEq, decide_eq_true_eq, decide_eq_false_iff_not, not_true_eq_false, not_false_eq_true, decide_true, decide_false, List.size_toArray, List.length_cons, List.length_nil, List.cons_append, List.nil_append, List.append_nil, List.map_cons, List.map_nil, Array.size_push, Int.toNat_natCast, List.toList_toArray, Nat.min_def, Nat.reduceLeDiff, Nat.reducePow, Int.reducePow, Int.reduceToNat, Int.tdiv_eq_ediv_of_nonneg, Int.tmod_eq_emod_of_nonneg, Int.fdiv_eq_ediv_of_nonneg, Nat.mul_one, Nat.reduceAdd, Nat.zero_add, Nat.add_zero, implies_true, false_implies, true_implies, e1, e2, Int.reduceEq, Int.reduceNeg, Int.reduceLT, decide_true, decide_false, m1, m2, h3]
    refine eff_call_of ?_
    simp (disch := first | omega | assumption) only [C.ref3_WriteMap_gos, vs, T.ts, and_true, true_and, List.getElem?_toArray, List.getElem?_cons_zero, List.getElem?_cons_succ, ↓reduceIte, Nat.reduceEqDiff, Option.bind_some, Option.map_some, Option.isSome_some, ne_eq, Bool.not_true, Bool.not_false, Bool.true_eq_false, Bool.false_eq_true, Bool.not_eq_true', Bool.not_eq_false', reduceCtorEq, Option.some.injEq, decide_eq_true_eq, decide_eq_false_iff_not, not_true_eq_false, not_false_eq_true, decide_true, decide_false, List.size_toArray, List.length_cons, List.length_nil, List.cons_append, List.nil_append, List.append_nil, List.map_cons, List.map_nil, Array.size_push, Int.toNat_natCast, List.toList_toArray, Nat.min_def, Nat.reduceLeDiff, Nat.reducePow, Int.reducePow, Int.reduceToNat, Int.tdiv_eq_ediv_of_nonneg, Int.tmod_eq_emod_of_nonneg, Int.fdiv_eq_ediv_of_nonneg, Nat.mul_one, Nat.reduceAdd, Nat.zero_add, Nat.add_zero, implies_true, false_implies, true_implies]
    refine (told_any L p _ _ _ sL5 hfit.L (by omega) (hp.ext (by decide) hx5) hpf hpl).mono ?_
    rintro v7 h7 ⟨x7, rfl⟩
    have b7 := Fr_blk x7 b5 id
    have own7 := own5.ext x7
    have hx7 := hx5.trans x7
    have j1 : cellAt h7 ⟨q, 1, none⟩ = some (.slice aL L.length kL) := by rw [cellAt_of b7]; rfl
    have j2 : cellAt h7 ⟨q, 2, none⟩ = some (.slice aS S.length kS) := by rw [cellAt_of b7]; rfl
    have hwL : IntKind.u64.wrap (L.length : Int) = (L.length : Int) := wrap_u64 (by omega) (by omega)
    have hwS : IntKind.u64.wrap (S.length : Int) = (S.length : Int) := wrap_u64 (by omega) (by omega)
    have hlL : (bigS L.length 2).length = 2 := bigS_len
    have hlS : (bigS S.length 2).length = 2 := bigS_len
    have a1 : [(255 : UInt8)].length + (bigS d 2).length ≤ 9223372036854775807 := by simp only [List.length_cons, List.length_append, List.length_nil]; omega
    have a2 : ((255 : UInt8) :: bigS d 2).length + (bigS L.length 2).length ≤ 9223372036854775807 := by simp only [List.length_cons, List.length_append, List.length_nil]; omega
    have a3 : ((255 : UInt8) :: (bigS d 2 ++ bigS L.length 2)).length + (valsS p L).1.length ≤ 9223372036854775807 := by simp only [List.length_cons, List.length_append, List.length_nil]; omega
    have a4 : ((255 : UInt8) :: (bigS d 2 ++ bigS L.length 2 ++ (valsS p L).1)).length + (bigS S.length 2).length ≤ 9223372036854775807 := by simp only [List.length_cons, List.length_append, List.length_nil]; omega
    have a5 : ((255 : UInt8) :: (bigS d 2 ++ bigS L.length 2 ++ (valsS p L).1 ++ bigS S.length 2)).length + (valsS p S).1.length ≤ 9223372036854775807 := by simp only [List.length_cons, List.length_append, List.length_nil]; omega
    have hw0 : frS p ⟨fat, L, S⟩ d loc = defS p ⟨fat, L, S⟩ d := by unfold frS; simp only [hk, if_false, Bool.false_eq_true]
    by_cases heL : (valsS p L).2 = 0
    case' pos =>
      have heL' : (((valsS p L).2 : Nat) : Int) = 0 := by omega
      have hth : thenE (valsS p L).2 (valsS p S).2 = (valsS p S).2 := by rw [heL]; rfl
      simp (disch := first | omega | assumption) only [C.ref3_WriteMap_gos, vs, T.ts, and_true, true_and, List.getElem?_toArray, List.getElem?_cons_zero, List.getElem?_cons_succ, ↓reduceIte, Nat.reduceEqDiff, Option.bind_some, Option.map_some, Option.isSome_some, ne_eq, Bool.not_true, Bool.not_false, Bool.true_eq_false, Bool.false_eq_true, Bool.not_eq_true', Bool.not_eq_false', reduceCtorEq, Option.some.injEq, decide_eq_true_eq, decide_eq_false_iff_not, not_true_eq_false, not_false_eq_true, decide_true, decide_false, List.size_toArray, List.length_cons, List.length_nil, List.cons_append, List.nil_append, List.append_nil, List.map_cons, List.map_nil, Array.size_push, Int.toNat_natCast, List.toList_toArray, Nat.min_def, Nat.reduceLeDiff, Nat.reducePow, Int.reducePow, Int.reduceToNat, Int.tdiv_eq_ediv_of_nonneg, Int.tmod_eq_emod_of_nonneg, Int.fdiv_eq_ediv_of_nonneg, Nat.mul_one, Nat.reduceAdd, Nat.zero_add, Nat.add_zero, implies_true, false_implies, true_implies, eq_true heL', j1, j2, hwL, hwS, a1]
    case' neg =>
      have heL' : ¬ (((valsS p L).2 : Nat) : Int) = 0 := by omega
      have hth : thenE (valsS p L).2 (valsS p S).2 = (valsS p L).2 := by unfold thenE; rw [if_neg heL]
      simp (disch := first | omega | assumption) only [C.ref3_WriteMap_gos, vs, T.ts, and_true, true_and, List.getElem?_toArray, List.getElem?_cons_zero, List.getElem?_cons_succ, ↓reduceIte, Nat.reduceEqDiff, Option.bind_some, Option.map_some, Option.isSome_some, ne_eq, Bool.not_true, Bool.not_false, Bool.true_eq_false, Bool.false_eq_true, Bool.not_eq_true', Bool.not_eq_false', reduceCtorEq, Option.some.injEq, decide_eq_true_eq, decide_eq_false_iff_not, not_true_eq_false, not_false_eq_true, decide_true, decide_false, List.size_toArray, List.length_cons, List.length_nil, List.cons_append, List.nil_append, List.append_nil, List.map_cons, List.map_nil, Array.size_push, Int.toNat_natCast, List.toList_toArray, Nat.min_def, Nat.reduceLeDiff, Nat.reducePow, Int.reducePow, Int.reduceToNat, Int.tdiv_eq_ediv_of_nonneg, Int.tmod_eq_emod_of_nonneg, Int.fdiv_eq_ediv_of_nonneg, Nat.mul_one, Nat.reduceAdd, Nat.zero_add, Nat.add_zero, implies_true, false_implies, true_implies, eq_false heL', j1, j2, hwL, hwS, a1]
    all_goals
      refine eff_call_of ?_
      simp (disch := first | omega | assumption) only [C.ref3_WriteMap_gos, vs, T.ts, and_true, true_and, List.getElem?_toArray, List.getElem?_cons_zero, List.getElem?_cons_succ, ↓reduceIte, Nat.reduceEqDiff, Option.bind_some, Option.map_some, Option.isSome_some, ne_eq, Bool.not_true, Bool.not_false, Bool.true_eq_false, Bool.false_eq_true, Bool.not_eq_true', Bool.not_eq_false', reduceCtorEq, Option.some.injEq, decide_eq_true_eq, decide_eq_false_iff_not, not_true_eq_false, not_false_eq_true, decide_true, decide_false, List.size_toArray, List.length_cons, List.length_nil, List.cons_append, List.nil_append, List.append_nil, List.map_cons, List.map_nil, Array.size_push, Int.toNat_natCast, List.toList_toArray, Nat.min_def, Nat.reduceLeDiff, Nat.reducePow, Int.reducePow, Int.reduceToNat, Int.tdiv_eq_ediv_of_nonneg, Int.tmod_eq_emod_of_nonneg, Int.fdiv_eq_ediv_of_nonneg, Nat.mul_one, Nat.reduceAdd, Nat.zero_add, Nat.add_zero, implies_true, false_implies, true_implies]
      refine (rbig_any L.length 2 h7 (by omega) (by omega)).mono ?_
      rintro v8 h8 ⟨x8, rfl⟩
      have b8 := Fr_blk x8 b7 id
      have own8 := own7.ext x8
      have hx8 := hx7.trans x8
      have j3 : cellAt h8 ⟨q, 2, none⟩ = some (.slice aS S.length kS) := by rw [cellAt_of b8]; rfl
      simp (disch := first | omega | assumption) only [C.ref3_WriteMap_gos, vs, T.ts, and_true, true_and, List.getElem?_toArray, List.getElem?_cons_zero, List.getElem?_cons_succ, ↓reduceIte, Nat.reduceEqDiff, Option.bind_some, Option.map_some, Option.isSome_some, ne_eq, Bool.not_true, Bool.not_false, Bool.true_eq_false, Bool.false_eq_true, Bool.not_eq_true', Bool.not_eq_false', reduceCtorEq, Option.some.injEq, decide_eq_true_eq, decide_eq_false_iff_not, not_true_eq_false, not_false_eq_true, decide_true, decide_false, List.size_toArray, List.length_cons, List.length_nil, List.cons_append, List.nil_append, List.append_nil, List.map_cons, List.map_nil, Array.size_push, Int.toNat_natCast, List.toList_toArray, Nat.min_def, Nat.reduceLeDiff, Nat.reducePow, Int.reducePow, Int.reduceToNat, Int.tdiv_eq_ediv_of_nonneg, Int.tmod_eq_emod_of_nonneg, Int.fdiv_eq_ediv_of_nonneg, Nat.mul_one, Nat.reduceAdd, Nat.zero_add, Nat.add_zero, implies_true, false_implies, true_implies, j3, hwS, a1, a2, a3]
      refine eff_call_of ?_
      simp (disch := first | omega | assumption) only [C.ref3_WriteMap_gos, vs, T.ts, and_true, true_and, List.getElem?_toArray, List.getElem?_cons_zero, List.getElem?_cons_succ, ↓reduceIte, Nat.reduceEqDiff, Option.bind_some, Option.map_some, Option.isSome_some, ne_eq, Bool.not_true, Bool.not_false, Bool.true_eq_false, Bool.false_eq_true, Bool.not_eq_true', Bool.not_eq_false', reduceCtorEq, Option.some.injEq, decide_eq_true_eq, decide_eq_false_iff_not, not_true_eq_false, not_false_eq_true, decide_true, decide_false, List.size_toArray, List.length_cons, List.length_nil, List.cons_append, List.nil_append, List.append_nil, List.map_cons, List.map_nil, Array.size_push, Int.toNat_natCast, List.toList_toArray, Nat.min_def, Nat.reduceLeDiff, Nat.reducePow, Int.reducePow, Int.reduceToNat, Int.tdiv_eq_ediv_of_nonneg, Int.tmod_eq_emod_of_nonneg, Int.fdiv_eq_ediv_of_nonneg, Nat.mul_one, Nat.reduceAdd, Nat.zero_add, Nat.add_zero, implies_true, false_implies, true_implies, a1, a2, a3]
      refine (rbig_any S.length 2 h8 (by omega) (by omega)).mono ?_
      rintro v88 h88 ⟨x88, rfl⟩
      have b88 := Fr_blk x88 b8 id
      have own88 := own8.ext x88
      have hx88 := hx8.trans x88
      have hfr : frS p ⟨fat, L, S⟩ d loc = ((255 : UInt8) :: (bigS d 2 ++ bigS L.length 2 ++ (valsS p L).1 ++ bigS S.length 2 ++ (valsS p S).1), thenE (valsS p L).2 (valsS p S).2) := by rw [hw0]; rfl
      rw [hfr, hth] at hR
      simp only at hR
      have f0 : cellAt h88 ⟨q, 0, none⟩ = some (.int .i64 fat) := by rw [cellAt_of b88]; rfl
      have f1 : cellAt h88 ⟨q, 1, none⟩ = some (.slice aL L.length kL) := by rw [cellAt_of b88]; rfl
      have hbl : ((255 : UInt8) :: (bigS d 2 ++ bigS L.length 2 ++ (valsS p L).1 ++ bigS S.length 2 ++ (valsS p S).1)).length ≤ 400000 := by
        have := frS_len p ⟨fat, L, S⟩ d loc (by simp only; omega) (by simp only; omega)
        rw [hfr] at this
        exact this
    case' pos =>
      by_cases hez : (valsS p S).2 = 0
      case neg =>
        have hez' : ¬ (((valsS p S).2 : Nat) : Int) = 0 := by omega
        rw [if_pos hez] at hR
        subst hR
        simp (disch := first | omega | assumption) only [C.ref3_WriteMap_gos, vs, T.ts, and_true, true_and, List.getElem?_toArray, List.getElem?_cons_zero, List.getElem?_cons_succ, ↓reduceIte, Nat.reduceEqDiff, Option.bind_some, Option.map_some, Option.isSome_some, ne_eq, Bool.not_true, Bool.not_false, Bool.true_eq_false, Bool.false_eq_true, Bool.not_eq_true', Bool.not_eq_false', reduceCtorEq, Option.some.injEq, decide_eq_true_eq, decide_eq_false_iff_not, not_true_eq_false, not_false_eq_true, decide_true, decide_false, List.size_toArray, List.length_cons, List.length_nil, List.cons_append, List.nil_append, List.append_nil, List.map_cons, List.map_nil, Array.size_push, Int.toNat_natCast, List.toList_toArray, Nat.min_def, Nat.reduceLeDiff, Nat.reducePow, Int.reducePow, Int.reduceToNat, Int.tdiv_eq_ediv_of_nonneg, Int.tmod_eq_emod_of_nonneg, Int.fdiv_eq_ediv_of_nonneg, Nat.mul_one, Nat.reduceAdd, Nat.zero_add, Nat.add_zero, implies_true, false_implies, true_implies, a1, a2, a3, a4, a5, eq_false hez']
        exact ⟨hx88, rfl⟩
      have hez' : (((valsS p S).2 : Nat) : Int) = 0 := by omega
      rw [if_neg (by rw [hez]; simp)] at hR
      simp (disch := first | omega | assumption) only [C.ref3_WriteMap_gos, vs, T.ts, and_true, true_and, List.getElem?_toArray, List.getElem?_cons_zero, List.getElem?_cons_succ, ↓reduceIte, Nat.reduceEqDiff, Option.bind_some, Option.map_some, Option.isSome_some, ne_eq, Bool.not_true, Bool.not_false, Bool.true_eq_false, Bool.false_eq_true, Bool.not_eq_true', Bool.not_eq_false', reduceCtorEq, Option.some.injEq, decide_eq_true_eq, decide_eq_false_iff_not, not_true_eq_false, not_false_eq_true, decide_true, decide_false, List.size_toArray, List.length_cons, List.length_nil, List.cons_append, List.nil_append, List.append_nil, List.map_cons, List.map_nil, Array.size_push, Int.toNat_natCast, List.toList_toArray, Nat.min_def, Nat.reduceLeDiff, Nat.reducePow, Int.reducePow, Int.reduceToNat, Int.tdiv_eq_ediv_of_nonneg, Int.tmod_eq_emod_of_nonneg, Int.fdiv_eq_ediv_of_nonneg, Nat.mul_one, Nat.reduceAdd, Nat.zero_add, Nat.add_zero, implies_true, false_implies, true_implies, a1, a2, a3, a4, a5, eq_true hez']
    case neg =>
      rw [if_pos heL] at hR
      subst hR
      simp (disch := first | omega | assumption) only [C.ref3_WriteMap_gos, vs, T.ts, and_true, true_and, List.getElem?_toArray, List.getElem?_cons_zero, List.getElem?_cons_succ, ↓reduceIte, Nat.reduceEqDiff, Option.bind_some, Option.map_some, Option.isSome_some, ne_eq, Bool.not_true, Bool.not_false, Bool.true_eq_false, Bool.false_eq_true, Bool.not_eq_true', Bool.not_eq_false', reduceCtorEq, Option.some.injEq, decide_eq_true_eq, decide_eq_false_iff_not, not_true_eq_false, not_false_eq_true, decide_true, decide_false, List.size_toArray, List.length_cons, List.length_nil, List.cons_append, List.nil_append, List.append_nil, List.map_cons, List.map_nil, Array.size_push, Int.toNat_natCast, List.toList_toArray, Nat.min_def, Nat.reduceLeDiff, Nat.reducePow, Int.reducePow, Int.reduceToNat, Int.tdiv_eq_ediv_of_nonneg, Int.tmod_eq_emod_of_nonneg, Int.fdiv_eq_ediv_of_nonneg, Nat.mul_one, Nat.reduceAdd, Nat.zero_add, Nat.add_zero, implies_true, false_implies, true_implies, a1, a2, a3, a4, a5, eq_false heL']
      exact ⟨hx88, rfl⟩
    refine eff_append_str (l := (255 : UInt8) :: (bigS d 2 ++ bigS L.length 2 ++ (valsS p L).1 ++ bigS S.length 2 ++ (valsS p S).1)) T.slT_43 Try.underlying9 rfl rfl own88 (by omega) (by omega) hx88.size ?_
    intro v9 h9 own9 fr9
    have hx9 : Ext h h9 := Ext.app hx88 fr9 (fun k hk => (own88.lt k hk).1)
    have b9 := Fr_blk fr9 b88 (Own_ne own88 b88 (by decide))
    have i0 : cellAt h9 ⟨q, 0, none⟩ = some (.int .i64 fat) := by rw [cellAt_of b9]; rfl
    have i1 : cellAt h9 ⟨q, 1, none⟩ = some (.slice aL L.length kL) := by rw [cellAt_of b9]; rfl
    simp (disch := first | omega | assumption) only [C.ref3_WriteMap_gos, vs, T.ts, and_true, true_and, List.getElem?_toArray, List.getElem?_cons_zero, List.getElem?_cons_succ, ↓reduceIte, Nat.reduceEqDiff, Option.bind_some, Option.map_some, Option.isSome_some, ne_eq, Bool.not_true, Bool.not_false, Bool.true_eq_false, Bool.false_eq_true, Bool.not_eq_true', Bool.not_eq_false', reduceCtorEq, Option.some.injEq, decide_eq_true_eq, decide_eq_false_iff_not, not_true_eq_false, not_false_eq_true, decide_true, decide_false, List.size_toArray, List.length_cons, List.length_nil, List.cons_append, List.nil_append, List.append_nil, List.map_cons, List.map_nil, Array.size_push, Int.toNat_natCast, List.toList_toArray, Nat.min_def, Nat.reduceLeDiff, Nat.reducePow, Int.reducePow, Int.reduceToNat, Int.tdiv_eq_ediv_of_nonneg, Int.tmod_eq_emod_of_nonneg, Int.fdiv_eq_ediv_of_nonneg, Nat.mul_one, Nat.reduceAdd, Nat.zero_add, Nat.add_zero, implies_true, false_implies, true_implies, i0, i1]
    exact ⟨_, by omega, i + 1, fat, L, _, _, _, rfl, by omega, by simp, Own_cast own9 (by simp) (by simp [bytesV]), hx9, sL, cL, hll2.1, by omega, by omega, by rw [List.length_append]; omega, hR⟩
  rw [hk]
  by_cases hs0 : S.length = 0
  case neg =>
    have hs0' : ¬ (S.length : Int) = 0 := by omega
    simp (disch := first | omega | assumption) only [C.ref3_WriteMap_gos, vs, T.ts, and_true, true_and, List.getElem?_toArray, List.getElem?_cons_zero, List.getElem?_cons_succ, ↓reduceIte, Nat.reduceEqDiff, Option.bind_some, Option.map_some, Option.isSome_some, ne_eq, Bool.not_true, Bool.not_false, Bool.true_eq_false, Bool.false_eq_true, Bool.not_eq_true', Bool.not_eq_false', reduceCtorEq, Option.some.injEq, decide_eq_true_eq, decide_eq_false_iff_not, not_true_eq_false, not_false_eq_true, decide_true, decide_false, List.size_toArray, List.length_cons, List.length_nil, List.cons_append, List.nil_append, List.append_nil, List.map_cons, List.map_nil, Array.size_push, Int.toNat_natCast, List.toList_toArray, Nat.min_def, Nat.reduceLeDiff, Nat.reducePow, Int.reducePow, Int.reduceToNat, Int.tdiv_eq_ediv_of_nonneg, Int.tmod_eq_emod_of_nonneg, Int.fdiv_eq_ediv_of_nonneg, Nat.mul_one, Nat.reduceAdd, Nat.zero_add, Nat.add_zero, implies_true, false_implies, true_implies, e1, e2, Int.reduceEq, Int.reduceNeg, Int.reduceLT, decide_true, decide_false, m1, m2, h3, eq_false hs0']
    refine eff_call_of ?_
    simp (disch := first | omega | assumption) only [C.ref3_WriteMap_gos, vs, T.ts, and_true, true_and, List.getElem?_toArray, List.getElem?_cons_zero, List.getElem?_cons_succ, ↓reduceIte, Nat.reduceEqDiff, Option.bind_some, Option.map_some, Option.isSome_some, ne_eq, Bool.not_true, Bool.not_false, Bool.true_eq_false, Bool.false_eq_true, Bool.not_eq_true', Bool.not_eq_false', reduceCtorEq, Option.some.injEq, decide_eq_true_eq, decide_eq_false_iff_not, not_true_eq_false, not_false_eq_true, decide_true, decide_false, List.size_toArray, List.length_cons, List.length_nil, List.cons_append, List.nil_append, List.append_nil, List.map_cons, List.map_nil, Array.size_push, Int.toNat_natCast, List.toList_toArray, Nat.min_def, Nat.reduceLeDiff, Nat.reducePow, Int.reducePow, Int.reduceToNat, Int.tdiv_eq_ediv_of_nonneg, Int.tmod_eq_emod_of_nonneg, Int.fdiv_eq_ediv_of_nonneg, Nat.mul_one, Nat.reduceAdd, Nat.zero_add, Nat.add_zero, implies_true, false_implies, true_implies]
    refine (told_any L p _ _ _ sL5 hfit.L (by omega) (hp.ext (by decide) hx5) hpf hpl).mono ?_
    rintro v7 h7 ⟨x7, rfl⟩
    have b7 := Fr_blk x7 b5 id
    have own7 := own5.ext x7
    have hx7 := hx5.trans x7
    have j1 : cellAt h7 ⟨q, 1, none⟩ = some (.slice aL L.length kL) := by rw [cellAt_of b7]; rfl
    have j2 : cellAt h7 ⟨q, 2, none⟩ = some (.slice aS S.length kS) := by rw [cellAt_of b7]; rfl
    have hwL : IntKind.u64.wrap (L.length : Int) = (L.length : Int) := wrap_u64 (by omega) (by omega)
    have hwS : IntKind.u64.wrap (S.length : Int) = (S.length : Int) := wrap_u64 (by omega) (by omega)
    have hlL : (bigS L.length 2).length = 2 := bigS_len
    have hlS : (bigS S.length 2).length = 2 := bigS_len
    have a1 : [(255 : UInt8)].length + (bigS d 2).length ≤ 9223372036854775807 := by simp only [List.length_cons, List.length_append, List.length_nil]; omega
    have a2 : ((255 : UInt8) :: bigS d 2).length + (bigS L.length 2).length ≤ 9223372036854775807 := by simp only [List.length_cons, List.length_append, List.length_nil]; omega
    have a3 : ((255 : UInt8) :: (bigS d 2 ++ bigS L.length 2)).length + (valsS p L).1.length ≤ 9223372036854775807 := by simp only [List.length_cons, List.length_append, List.length_nil]; omega
    have a4 : ((255 : UInt8) :: (bigS d 2 ++ bigS L.length 2 ++ (valsS p L).1)).length + (bigS S.length 2).length ≤ 9223372036854775807 := by simp only [List.length_cons, List.length_append, List.length_nil]; omega
    have a5 : ((255 : UInt8) :: (bigS d 2 ++ bigS L.length 2 ++ (valsS p L).1 ++ bigS S.length 2)).length + (valsS p S).1.length ≤ 9223372036854775807 := by simp only [List.length_cons, List.length_append, List.length_nil]; omega
    have hw0 : frS p ⟨fat, L, S⟩ d loc = defS p ⟨fat, L, S⟩ d := by unfold frS; simp only [hk, hnn, hs0, if_true, if_false]
    by_cases heL : (valsS p L).2 = 0
    case' pos =>
      have heL' : (((valsS p L).2 : Nat) : Int) = 0 := by omega
      have hth : thenE (valsS p L).2 (valsS p S).2 = (valsS p S).2 := by rw [heL]; rfl
      simp (disch := first | omega | assumption) only [C.ref3_WriteMap_gos, vs, T.ts, and_true, true_and, List.getElem?_toArray, List.getElem?_cons_zero, List.getElem?_cons_succ, ↓reduceIte, Nat.reduceEqDiff, Option.bind_some, Option.map_some, Option.isSome_some, ne_eq, Bool.not_true, Bool.not_false, Bool.true_eq_false, Bool.false_eq_true, Bool.not_eq_true', Bool.not_eq_false', reduceCtorEq, Option.some.injEq, decide_eq_true_eq, decide_eq_false_iff_not, not_true_eq_false, not_false_eq_true, decide_true, decide_false, List.size_toArray, List.length_cons, List.length_nil, List.cons_append, List.nil_append, List.append_nil, List.map_cons, List.map_nil, Array.size_push, Int.toNat_natCast, List.toList_toArray, Nat.min_def, Nat.reduceLeDiff, Nat.reducePow, Int.reducePow, Int.reduceToNat, Int.tdiv_eq_ediv_of_nonneg, Int.tmod_eq_emod_of_nonneg, Int.fdiv_eq_ediv_of_nonneg, Nat.mul_one, Nat.reduceAdd, Nat.zero_add, Nat.add_zero, implies_true, false_implies, true_implies, eq_true heL', j1, j2, hwL, hwS, a1]
    case' neg =>
      have heL' : ¬ (((valsS p L).2 : Nat) : Int) = 0 := by omega
      have hth : thenE (valsS p L).2 (valsS p S).2 = (valsS p L).2 := by unfold thenE; rw [if_neg heL]
      simp (disch := first | omega | assumption) only [C.ref3_WriteMap_gos, vs, T.ts, and_true, true_and, List.getElem?_toArray, List.getElem?_cons_zero, List.getElem?_cons_succ, ↓reduceIte, Nat.reduceEqDiff, Option.bind_some, Option.map_some, Option.isSome_some, ne_eq, Bool.not_true, Bool.not_false, Bool.true_eq_false, Bool.false_eq_true, Bool.not_eq_true', Bool.not_eq_false', reduceCtorEq, Option.some.injEq, decide_eq_true_eq, decide_eq_false_iff_not, not_true_eq_false, not_false_eq_true, decide_true, decide_false, List.size_toArray, List.length_cons, List.length_nil, List.cons_append, List.nil_append, List.append_nil, List.map_cons, List.map_nil, Array.size_push, Int.toNat_natCast, List.toList_toArray, Nat.min_def, Nat.reduceLeDiff, Nat.reducePow, Int.reducePow, Int.reduceToNat, Int.tdiv_eq_ediv_of_nonneg, Int.tmod_eq_emod_of_nonneg, Int.fdiv_eq_ediv_of_nonneg, Nat.mul_one, Nat.reduceAdd, Nat.zero_add, Nat.add_zero, implies_true, false_implies, true_implies, eq_false heL', j1, j2, hwL, hwS, a1]
    all_goals
      refine eff_call_of ?_
      simp (disch := first | omega | assumption) only [C.ref3_WriteMap_gos, vs, T.ts, and_true, true_and, List.getElem?_toArray, List.getElem?_cons_zero, List.getElem?_cons_succ, ↓reduceIte, Nat.reduceEqDiff, Option.bind_some, Option.map_some, Option.isSome_some, ne_eq, Bool.not_true, Bool.not_false, Bool.true_eq_false, Bool.false_eq_true, Bool.not_eq_true', Bool.not_eq_false', reduceCtorEq, Option.some.injEq, decide_eq_true_eq, decide_eq_false_iff_not, not_true_eq_false, not_false_eq_true, decide_true, decide_false, List.size_toArray, List.length_cons, List.length_nil, List.cons_append, List.nil_append, List.append_nil, List.map_cons, List.map_nil, Array.size_push, Int.toNat_natCast, List.toList_toArray, Nat.min_def, Nat.reduceLeDiff, Nat.reducePow, Int.reducePow, Int.reduceToNat, Int.tdiv_eq_ediv_of_nonneg, Int.tmod_eq_emod_of_nonneg, Int.fdiv_eq_ediv_of_nonneg, Nat.mul_one, Nat.reduceAdd, Nat.zero_add, Nat.add_zero, implies_true, false_implies, true_implies]
      refine (rbig_any L.length 2 h7 (by omega) (by omega)).mono ?_
      rintro v8 h8 ⟨x8, rfl⟩
      have b8 := Fr_blk x8 b7 id
      have own8 := own7.ext x8
      have hx8 := hx7.trans x8
      have j3 : cellAt h8 ⟨q, 2, none⟩ = some (.slice aS S.length kS) := by rw [cellAt_of b8]; rfl
      simp (disch := first | omega | assumption) only [C.ref3_WriteMap_gos, vs, T.ts, and_true, true_and, List.getElem?_toArray, List.getElem?_cons_zero, List.getElem?_cons_succ, ↓reduceIte, Nat.reduceEqDiff, Option.bind_some, Option.map_some, Option.isSome_some, ne_eq, Bool.not_true, Bool.not_false, Bool.true_eq_false, Bool.false_eq_true, Bool.not_eq_true', Bool.not_eq_false', reduceCtorEq, Option.some.injEq, decide_eq_true_eq, decide_eq_false_iff_not, not_true_eq_false, not_false_eq_true, decide_true, decide_false, List.size_toArray, List.length_cons, List.length_nil, List.cons_append, List.nil_append, List.append_nil, List.map_cons, List.map_nil, Array.size_push, Int.toNat_natCast, List.toList_toArray, Nat.min_def, Nat.reduceLeDiff, Nat.reducePow, Int.reducePow, Int.reduceToNat, Int.tdiv_eq_ediv_of_nonneg, Int.tmod_eq_emod_of_nonneg, Int.fdiv_eq_ediv_of_nonneg, Nat.mul_one, Nat.reduceAdd, Nat.zero_add, Nat.add_zero, implies_true, false_implies, true_implies, j3, hwS, a1, a2, a3]
      refine eff_call_of ?_
      simp (disch := first | omega | assumption) only [C.ref3_WriteMap_gos, vs, T.ts, and_true, true_and, List.getElem?_toArray, List.getElem?_cons_zero, List.getElem?_cons_succ, ↓reduceIte, Nat.reduceEqDiff, Option.bind_some, Option.map_some, Option.isSome_some, ne_eq, Bool.not_true, Bool.not_false, Bool.true_eq_false, Bool.false_eq_true, Bool.not_eq_true', Bool.not_eq_false', reduceCtorEq, Option.some.injEq, decide_eq_true_eq, decide_eq_false_iff_not, not_true_eq_false, not_false_eq_true, decide_true, decide_false, List.size_toArray, List.length_cons, List.length_nil, List.cons_append, List.nil_append, List.append_nil, List.map_cons, List.map_nil, Array.size_push, Int.toNat_natCast, List.toList_toArray, Nat.min_def, Nat.reduceLeDiff, Nat.reducePow, Int.reducePow, Int.reduceToNat, Int.tdiv_eq_ediv_of_nonneg, Int.tmod_eq_emod_of_nonneg, Int.fdiv_eq_ediv_of_nonneg, Nat.mul_one, Nat.reduceAdd, Nat.zero_add, Nat.add_zero, implies_true, false_implies, true_implies, a1, a2, a3]
      refine (rbig_any S.length 2 h8 (by omega) (by omega)).mono ?_
      rintro v88 h88 ⟨x88, rfl⟩
      have b88 := Fr_blk x88 b8 id
      have own88 := own8.ext x88
      have hx88 := hx8.trans x88
      have hfr : frS p ⟨fat, L, S⟩ d loc = ((255 : UInt8) :: (bigS d 2 ++ bigS L.length 2 ++ (valsS p L).1 ++ bigS S.length 2 ++ (valsS p S).1), thenE (valsS p L).2 (valsS p S).2) := by rw [hw0]; rfl
      rw [hfr, hth] at hR
      simp only at hR
      have f0 : cellAt h88 ⟨q, 0, none⟩ = some (.int .i64 fat) := by rw [cellAt_of b88]; rfl
      have f1 : cellAt h88 ⟨q, 1, none⟩ = some (.slice aL L.length kL) := by rw [cellAt_of b88]; rfl
      have hbl : ((255 : UInt8) :: (bigS d 2 ++ bigS L.length 2 ++ (valsS p L).1 ++ bigS S.length 2 ++ (valsS p S).1)).length ≤ 400000 := by
        have := frS_len p ⟨fat, L, S⟩ d loc (by simp only; omega) (by simp only; omega)
        rw [hfr] at this
        exact this
    case' pos =>
      by_cases hez : (valsS p S).2 = 0
      case neg =>
        have hez' : ¬ (((valsS p S).2 : Nat) : Int) = 0 := by omega
        rw [if_pos hez] at hR
        subst hR
        simp (disch := first | omega | assumption) only [C.ref3_WriteMap_gos, vs, T.ts, and_true, true_and, List.getElem?_toArray, List.getElem?_cons_zero, List.getElem?_cons_succ, ↓reduceIte, Nat.reduceEqDiff, Option.bind_some, Option.map_some, Option.isSome_some, ne_eq, Bool.not_true, Bool.not_false, Bool.true_eq_false, Bool.false_eq_true, Bool.not_eq_true', Bool.not_eq_false', reduceCtorEq, Option.some.injEq, decide_eq_true_eq, decide_eq_false_iff_not, not_true_eq_false, not_false_eq_true, decide_true, decide_false, List.size_toArray, List.length_cons, List.length_nil, List.cons_append, List.nil_append, List.append_nil, List.map_cons, List.map_nil, Array.size_push, Int.toNat_natCast, List.toList_toArray, Nat.min_def, Nat.reduceLeDiff, Nat.reducePow, Int.reducePow, Int.reduceToNat, Int.tdiv_eq_ediv_of_nonneg, Int.tmod_eq_emod_of_nonneg, Int.fdiv_eq_ediv_of_nonneg, Nat.mul_one, Nat.reduceAdd, Nat.zero_add, Nat.add_zero, implies_true, false_implies, true_implies, a1, a2, a3, a4, a5, eq_false hez']
        exact ⟨hx88, rfl⟩
      have hez' : (((valsS p S).2 : Nat) : Int) = 0 := by omega
      rw [if_neg (by rw [hez]; simp)] at hR
      simp (disch := first | omega | assumption) only [C.ref3_WriteMap_gos, vs, T.ts, and_true, true_and, List.getElem?_toArray, List.getElem?_cons_zero, List.getElem?_cons_succ, ↓reduceIte, Nat.reduceEqDiff, Option.bind_some, Option.map_some, Option.isSome_some, ne_eq, Bool.not_true, Bool.not_false, Bool.true_eq_false, Bool.false_eq_true, Bool.not_eq_true', Bool.not_eq_false', reduceCtorEq, Option.some.injEq, decide_eq_true_eq, decide_eq_false_iff_not, not_true_eq_false, not_false_eq_true, decide_true, decide_false, List.size_toArray, List.length_cons, List.length_nil, List.cons_append, List.nil_append, List.append_nil, List.map_cons, List.map_nil, Array.size_push, Int.toNat_natCast, List.toList_toArray, Nat.min_def, Nat.reduceLeDiff, Nat.reducePow, Int.reducePow, Int.reduceToNat, Int.tdiv_eq_ediv_of_nonneg, Int.tmod_eq_emod_of_nonneg, Int.fdiv_eq_ediv_of_nonneg, Nat.mul_one, Nat.reduceAdd, Nat.zero_add, Nat.add_zero, implies_true, false_implies, true_implies, a1, a2, a3, a4, a5, eq_true hez']
    case neg =>
      rw [if_pos heL] at hR
      subst hR
      simp (disch := first | omega | assumption) only [C.ref3_WriteMap_gos, vs, T.ts, and_true, true_and, List.getElem?_toArray, List.getElem?_cons_zero, List.getElem?_cons_succ, ↓reduceIte, Nat.reduceEqDiff, Option.bind_some, Option.map_some, Option.isSome_some, ne_eq, Bool.not_true, Bool.not_false, Bool.true_eq_false, Bool.false_eq_true, Bool.not_eq_true', Bool.not_eq_false', reduceCtorEq, Option.some.injEq, decide_eq_true_eq, decide_eq_false_iff_not, not_true_eq_false, not_false_eq_true, decide_true, decide_false, List.size_toArray, List.length_cons, List.length_nil, List.cons_append, List.nil_append, List.append_nil, List.map_cons, List.map_nil, Array.size_push, Int.toNat_natCast, List.toList_toArray, Nat.min_def, Nat.reduceLeDiff, Nat.reducePow, Int.reducePow, Int.reduceToNat, Int.tdiv_eq_ediv_of_nonneg, Int.tmod_eq_emod_of_nonneg, Int.fdiv_eq_ediv_of_nonneg, Nat.mul_one, Nat.reduceAdd, Nat.zero_add, Nat.add_zero, implies_true, false_implies, true_implies, a1, a2, a3, a4, a5, eq_false heL']
      exact ⟨hx88, rfl⟩
    refine eff_append_str (l := (255 : UInt8) :: (bigS d 2 ++ bigS L.length 2 ++ (valsS p L).1 ++ bigS S.length 2 ++ (valsS p S).1)) T.slT_43 Try.underlying9 rfl rfl own88 (by omega) (by omega) hx88.size ?_
    intro v9 h9 own9 fr9
    have hx9 : Ext h h9 := Ext.app hx88 fr9 (fun k hk => (own88.lt k hk).1)
    have b9 := Fr_blk fr9 b88 (Own_ne own88 b88 (by decide))
    have i0 : cellAt h9 ⟨q, 0, none⟩ = some (.int .i64 fat) := by rw [cellAt_of b9]; rfl
    have i1 : cellAt h9 ⟨q, 1, none⟩ = some (.slice aL L.length kL) := by rw [cellAt_of b9]; rfl
    simp (disch := first | omega | assumption) only [C.ref3_WriteMap_gos, vs, T.ts, and_true, true_and, List.getElem?_toArray, List.getElem?_cons_zero, List.getElem?_cons_succ, ↓reduceIte, Nat.reduceEqDiff, Option.bind_some, Option.map_some, Option.isSome_some, ne_eq, Bool.not_true, Bool.not_false, Bool.true_eq_false, Bool.false_eq_true, Bool.not_eq_true', Bool.not_eq_false', reduceCtorEq, Option.some.injEq, decide_eq_true_eq, decide_eq_false_iff_not, not_true_eq_false, not_false_eq_true, decide_true, decide_false, List.size_toArray, List.length_cons, List.length_nil, List.cons_append, List.nil_append, List.append_nil, List.map_cons, List.map_nil, Array.size_push, Int.toNat_natCast, List.toList_toArray, Nat.min_def, Nat.reduceLeDiff, Nat.reducePow, Int.reducePow, Int.reduceToNat, Int.tdiv_eq_ediv_of_nonneg, Int.tmod_eq_emod_of_nonneg, Int.fdiv_eq_ediv_of_nonneg, Nat.mul_one, Nat.reduceAdd, Nat.zero_add, Nat.add_zero, implies_true, false_implies, true_implies, i0, i1]
    exact ⟨_, by omega, i + 1, fat, L, _, _, _, rfl, by omega, by simp, Own_cast own9 (by simp) (by simp [bytesV]), hx9, sL, cL, hll2.1, by omega, by omega, by rw [List.length_append]; omega, hR⟩
  have hs0' : (S.length : Int) = 0 := by omega
  have hll3 : (loc.length : Int) ≤ L.length := by omega
  have sub3 := SlN.sub (lo := loc.length) (hi := L.length) sL5 (by omega) (Nat.le_refl _) hcL
  have hfull : (flatV L).take (L.length * 3) = flatV L := List.take_of_length_le (by rw [flatV_len]; omega)
  have hdl : L.length - loc.length = (L.drop loc.length).length := by rw [List.length_drop]
  rw [hfull, flatV_drop, hdl] at sub3
  have hvD := valsS_len p (L.drop loc.length)
  have hdl2 : (L.drop loc.length).length ≤ L.length := by rw [List.length_drop]; omega
  have hwd8 : (251 : Int) + ((L.length : Int) - loc.length) = ((251 + L.length - loc.length : Nat) : Int) := by omega
  have hw8 : IntKind.u8.wrap ((251 + L.length - loc.length : Nat) : Int) = ((251 + L.length - loc.length : Nat) : Int) := wrap_u8 (by omega) (by omega)
  have a1 : [UInt8.ofNat (251 + L.length - loc.length)].length + (bigS d 2).length ≤ 9223372036854775807 := by rw [bigS_len]; simp
  have a2 : (UInt8.ofNat (251 + L.length - loc.length) :: bigS d 2).length + (valsS p (L.drop loc.length)).1.length ≤ 9223372036854775807 := by simp only [List.length_cons]; omega
  simp (disch := first | omega | assumption) only [C.ref3_WriteMap_gos, vs, T.ts, and_true, true_and, List.getElem?_toArray, List.getElem?_cons_zero, List.getElem?_cons_succ, ↓reduceIte, Nat.reduceEqDiff, Option.bind_some, Option.map_some, Option.isSome_some, ne_eq, Bool.not_true, Bool.not_false, Bool.true_eq_false, Bool.false_eq_true, Bool.not_eq_true', Bool.not_eq_false', reduceCtorEq, Option.some.injEq, decide_eq_true_eq, decide_eq_false_iff_not, not_true_eq_false, not_false_eq_true, decide_true, decide_false, List.size_toArray, List.length_cons, List.length_nil, List.cons_append, List.nil_append, List.append_nil, List.map_cons, List.map_nil, Array.size_push, Int.toNat_natCast, List.toList_toArray, Nat.min_def, Nat.reduceLeDiff, Nat.reducePow, Int.reducePow, Int.reduceToNat, Int.tdiv_eq_ediv_of_nonneg, Int.tmod_eq_emod_of_nonneg, Int.fdiv_eq_ediv_of_nonneg, Nat.mul_one, Nat.reduceAdd, Nat.zero_add, Nat.add_zero, implies_true, false_implies, true_implies, e1, e2, Int.reduceEq, Int.reduceNeg, Int.reduceLT, decide_true, decide_false, m1, m2, h3, eq_true hs0', hll3, Int.toNat_natCast, hdl]
  refine eff_call_of ?_
  simp (disch := first | omega | assumption) only [C.ref3_WriteMap_gos, vs, T.ts, and_true, true_and, List.getElem?_toArray, List.getElem?_cons_zero, List.getElem?_cons_succ, ↓reduceIte, Nat.reduceEqDiff, Option.bind_some, Option.map_some, Option.isSome_some, ne_eq, Bool.not_true, Bool.not_false, Bool.true_eq_false, Bool.false_eq_true, Bool.not_eq_true', Bool.not_eq_false', reduceCtorEq, Option.some.injEq, decide_eq_true_eq, decide_eq_false_iff_not, not_true_eq_false, not_false_eq_true, decide_true, decide_false, List.size_toArray, List.length_cons, List.length_nil, List.cons_append, List.nil_append, List.append_nil, List.map_cons, List.map_nil, Array.size_push, Int.toNat_natCast, List.toList_toArray, Nat.min_def, Nat.reduceLeDiff, Nat.reducePow, Int.reducePow, Int.reduceToNat, Int.tdiv_eq_ediv_of_nonneg, Int.tmod_eq_emod_of_nonneg, Int.fdiv_eq_ediv_of_nonneg, Nat.mul_one, Nat.reduceAdd, Nat.zero_add, Nat.add_zero, implies_true, false_implies, true_implies]
  refine (told_any (L.drop loc.length) p _ _ _ sub3 (fun v hv => hfit.L v (List.mem_of_mem_drop hv)) (by omega) (hp.ext (by decide) hx5) hpf hpl).mono ?_
  rintro v7 h7 ⟨x7, rfl⟩
  have b7 := Fr_blk x7 b5 id
  have own7 := own5.ext x7
  have hx7 := hx5.trans x7
  simp (disch := first | omega | assumption) only [C.ref3_WriteMap_gos, vs, T.ts, and_true, true_and, List.getElem?_toArray, List.getElem?_cons_zero, List.getElem?_cons_succ, ↓reduceIte, Nat.reduceEqDiff, Option.bind_some, Option.map_some, Option.isSome_some, ne_eq, Bool.not_true, Bool.not_false, Bool.true_eq_false, Bool.false_eq_true, Bool.not_eq_true', Bool.not_eq_false', reduceCtorEq, Option.some.injEq, decide_eq_true_eq, decide_eq_false_iff_not, not_true_eq_false, not_false_eq_true, decide_true, decide_false, List.size_toArray, List.length_cons, List.length_nil, List.cons_append, List.nil_append, List.append_nil, List.map_cons, List.map_nil, Array.size_push, Int.toNat_natCast, List.toList_toArray, Nat.min_def, Nat.reduceLeDiff, Nat.reducePow, Int.reducePow, Int.reduceToNat, Int.tdiv_eq_ediv_of_nonneg, Int.tmod_eq_emod_of_nonneg, Int.fdiv_eq_ediv_of_nonneg, Nat.mul_one, Nat.reduceAdd, Nat.zero_add, Nat.add_zero, implies_true, false_implies, true_implies, hwd8, hw8]
  refine eff_lits T.slT_43 rfl rfl (by decide) ?_
  simp (disch := first | omega | assumption) only [C.ref3_WriteMap_gos, vs, T.ts, and_true, true_and, List.getElem?_toArray, List.getElem?_cons_zero, List.getElem?_cons_succ, ↓reduceIte, Nat.reduceEqDiff, Option.bind_some, Option.map_some, Option.isSome_some, ne_eq, Bool.not_true, Bool.not_false, Bool.true_eq_false, Bool.false_eq_true, Bool.not_eq_true', Bool.not_eq_false', reduceCtorEq, Option.some.injEq, decide_eq_true_eq, decide_eq_false_iff_not, not_true_eq_false, not_false_eq_true, decide_true, decide_false, List.size_toArray, List.length_cons, List.length_nil, List.cons_append, List.nil_append, List.append_nil, List.map_cons, List.map_nil, Array.size_push, Int.toNat_natCast, List.toList_toArray, Nat.min_def, Nat.reduceLeDiff, Nat.reducePow, Int.reducePow, Int.reduceToNat, Int.tdiv_eq_ediv_of_nonneg, Int.tmod_eq_emod_of_nonneg, Int.fdiv_eq_ediv_of_nonneg, Nat.mul_one, Nat.reduceAdd, Nat.zero_add, Nat.add_zero, implies_true, false_implies, true_implies, Int.toNat_natCast, a1, a2]
  have ownP := own7.push (.cells #[.int .u8 ((251 + L.length - loc.length : Nat) : Int)] 5)
  have hxP : Ext h (h7.push (.cells #[.int .u8 ((251 + L.length - loc.length : Nat) : Int)] 5)) := hx7.trans (Ext.push _ _)
  have bP := push_blk (o' := .cells #[.int .u8 ((251 + L.length - loc.length : Nat) : Int)] 5) b7
  generalize hhP : h7.push (.cells #[.int .u8 ((251 + L.length - loc.length : Nat) : Int)] 5) = hP at *
  have hfr : frS p ⟨fat, L, S⟩ d loc = (UInt8.ofNat (251 + L.length - loc.length) :: (bigS d 2 ++ (valsS p (L.drop loc.length)).1), (valsS p (L.drop loc.length)).2) := by unfold frS; simp only [hk, hnn, hs0, hlt2, h3', if_true, if_false]
  rw [hfr] at hR
  simp only at hR
  have f0 : cellAt hP ⟨q, 0, none⟩ = some (.int .i64 fat) := by rw [cellAt_of bP]; rfl
  have f1 : cellAt hP ⟨q, 1, none⟩ = some (.slice aL L.length kL) := by rw [cellAt_of bP]; rfl
  by_cases hez : (valsS p (L.drop loc.length)).2 = 0
  case neg =>
    have hez' : ¬ (((valsS p (L.drop loc.length)).2 : Nat) : Int) = 0 := by omega
    rw [if_pos hez] at hR
    subst hR
    simp (disch := first | omega | assumption) only [C.ref3_WriteMap_gos, vs, T.ts, and_true, true_and, List.getElem?_toArray, List.getElem?_cons_zero, List.getElem?_cons_succ, ↓reduceIte, Nat.reduceEqDiff, Option.bind_some, Option.map_some, Option.isSome_some, ne_eq, Bool.not_true, Bool.not_false, Bool.true_eq_false, Bool.false_eq_true, Bool.not_eq_true', Bool.not_eq_false', reduceCtorEq, Option.some.injEq, decide_eq_true_eq, decide_eq_false_iff_not, not_true_eq_false, not_false_eq_true, decide_true, decide_false, List.size_toArray, List.length_cons, List.length_nil, List.cons_append, List.nil_append, List.append_nil, List.map_cons, List.map_nil, Array.size_push, Int.toNat_natCast, List.toList_toArray, Nat.min_def, Nat.reduceLeDiff, Nat.reducePow, Int.reducePow, Int.reduceToNat, Int.tdiv_eq_ediv_of_nonneg, Int.tmod_eq_emod_of_nonneg, Int.fdiv_eq_ediv_of_nonneg, Nat.mul_one, Nat.reduceAdd, Nat.zero_add, Nat.add_zero, implies_true, false_implies, true_implies, eq_false hez']
    exact ⟨hxP, rfl⟩
  have hez' : (((valsS p (L.drop loc.length)).2 : Nat) : Int) = 0 := by omega
  rw [if_neg (by rw [hez]; simp)] at hR
  simp (disch := first | omega | assumption) only [C.ref3_WriteMap_gos, vs, T.ts, and_true, true_and, List.getElem?_toArray, List.getElem?_cons_zero, List.getElem?_cons_succ, ↓reduceIte, Nat.reduceEqDiff, Option.bind_some, Option.map_some, Option.isSome_some, ne_eq, Bool.not_true, Bool.not_false, Bool.true_eq_false, Bool.false_eq_true, Bool.not_eq_true', Bool.not_eq_false', reduceCtorEq, Option.some.injEq, decide_eq_true_eq, decide_eq_false_iff_not, not_true_eq_false, not_false_eq_true, decide_true, decide_false, List.size_toArray, List.length_cons, List.length_nil, List.cons_append, List.nil_append, List.append_nil, List.map_cons, List.map_nil, Array.size_push, Int.toNat_natCast, List.toList_toArray, Nat.min_def, Nat.reduceLeDiff, Nat.reducePow, Int.reducePow, Int.reduceToNat, Int.tdiv_eq_ediv_of_nonneg, Int.tmod_eq_emod_of_nonneg, Int.fdiv_eq_ediv_of_nonneg, Nat.mul_one, Nat.reduceAdd, Nat.zero_add, Nat.add_zero, implies_true, false_implies, true_implies, eq_true hez']
  have hbl : (UInt8.ofNat (251 + L.length - loc.length) :: (bigS d 2 ++ (valsS p (L.drop loc.length)).1)).length ≤ 400000 := by
    have := frS_len p ⟨fat, L, S⟩ d loc (by simp only; omega) (by simp only; omega)
    rw [hfr] at this
    exact this
  refine eff_append_str (l := UInt8.ofNat (251 + L.length - loc.length) :: (bigS d 2 ++ (valsS p (L.drop loc.length)).1)) T.slT_43 Try.underlying9 rfl rfl ownP (by omega) (by omega) hxP.size ?_
  intro v9 h9 own9 fr9
  have hx9 : Ext h h9 := Ext.app hxP fr9 (fun k hk => (ownP.lt k hk).1)
  have b9 := Fr_blk fr9 bP (Own_ne ownP bP (by decide))
  have i0 : cellAt h9 ⟨q, 0, none⟩ = some (.int .i64 fat) := by rw [cellAt_of b9]; rfl
  have i1 : cellAt h9 ⟨q, 1, none⟩ = some (.slice aL L.length kL) := by rw [cellAt_of b9]; rfl
  simp (disch := first | omega | assumption) only [C.ref3_WriteMap_gos, vs, T.ts, and_true, true_and, List.getElem?_toArray, List.getElem?_cons_zero, List.getElem?_cons_succ, ↓reduceIte, Nat.reduceEqDiff, Option.bind_some, Option.map_some, Option.isSome_some, ne_eq, Bool.not_true, Bool.not_false, Bool.true_eq_false, Bool.false_eq_true, Bool.not_eq_true', Bool.not_eq_false', reduceCtorEq, Option.some.injEq, decide_eq_true_eq, decide_eq_false_iff_not, not_true_eq_false, not_false_eq_true, decide_true, decide_false, List.size_toArray, List.length_cons, List.length_nil, List.cons_append, List.nil_append, List.append_nil, List.map_cons, List.map_nil, Array.size_push, Int.toNat_natCast, List.toList_toArray, Nat.min_def, Nat.reduceLeDiff, Nat.reducePow, Int.reducePow, Int.reduceToNat, Int.tdiv_eq_ediv_of_nonneg, Int.tmod_eq_emod_of_nonneg, Int.fdiv_eq_ediv_of_nonneg, Nat.mul_one, Nat.reduceAdd, Nat.zero_add, Nat.add_zero, implies_true, false_implies, true_implies, i0, i1]
  exact ⟨_, by omega, i + 1, fat, L, _, _, _, rfl, by omega, by simp, Own_cast own9 (by simp) (by simp [bytesV]), hx9, sL, cL, hll2.1, by omega, by omega, by rw [List.length_append]; omega, hR⟩
end Go.Proofs.Ythhfbnkmhgadaaa
