/- DescNames and DescTypes answer true to every text. No condition. -/
import Derived.Test.YtggfgjahmdedbaaDoorDF
import Derived.Test.YtggfgjahmdedbaaDoorCa
namespace Go.Proofs.YtggfgjahmdedbaaDoor
open Go.Vc
set_option maxRecDepth 100000
set_option linter.unusedSimpArgs false
set_option linter.unusedVariables false

theorem descNames_any {h : Heap} (l : List UInt8) (m : Bool) : HCalls Tryd.prog 3 #[str l, .bool m] h fun v h' => Ext h h' ∧ v = .bool true := by
  refine C.law1_DescNames_calls (args := [str l, .bool m]) rfl ?_
  by_cases hl : 32768 < l.length
  · have hl' : (32768 : Int) < (l.length : Int) := by omega
    simp (disch := first | omega | assumption) only [C.law1_DescNames_gos, T.tv, ↓reduceIte, Nat.reduceEqDiff, reduceCtorEq, Nat.reduceLeDiff, Nat.reducePow, Int.reducePow, Int.reduceToNat, Nat.reduceAdd, hl', decide_true, decide_false]
    exact Ext.refl _
  have hl' : ¬ (32768 : Int) < (l.length : Int) := by omega
  have hb : l.length ≤ 4294967296 := by omega
  simp (disch := first | omega | assumption) only [C.law1_DescNames_gos, T.tv, ↓reduceIte, Nat.reduceEqDiff, reduceCtorEq, Nat.reduceLeDiff, Nat.reducePow, Int.reducePow, Int.reduceToNat, Nat.reduceAdd, hl', decide_true, decide_false]
  refine eff_callF rfl ((member_any l m hb).mono ?_)
  rintro v1 h1 ⟨hx1, rfl⟩
  simp (disch := first | omega | assumption) only [C.law1_DescNames_gos, T.tv, ↓reduceIte, Nat.reduceEqDiff, reduceCtorEq, Nat.reduceLeDiff, Nat.reducePow, Int.reducePow, Int.reduceToNat, Nat.reduceAdd]
  refine eff_callF rfl ((rmember_any l m hb).mono ?_)
  rintro v2 h2 ⟨rfl, rfl⟩
  simp (disch := first | omega | assumption) only [C.law1_DescNames_gos, T.tv, ↓reduceIte, Nat.reduceEqDiff, reduceCtorEq, Nat.reduceLeDiff, Nat.reducePow, Int.reducePow, Int.reduceToNat, Nat.reduceAdd, decide_true]
  refine eff_callF rfl ((class_any l hb).mono ?_)
  rintro v3 h3 ⟨hx3, rfl⟩
  simp (disch := first | omega | assumption) only [C.law1_DescNames_gos, T.tv, ↓reduceIte, Nat.reduceEqDiff, reduceCtorEq, Nat.reduceLeDiff, Nat.reducePow, Int.reducePow, Int.reduceToNat, Nat.reduceAdd]
  refine eff_callF rfl ((rclass_any l hb).mono ?_)
  rintro v4 h4 ⟨rfl, rfl⟩
  simp (disch := first | omega | assumption) only [C.law1_DescNames_gos, T.tv, ↓reduceIte, Nat.reduceEqDiff, reduceCtorEq, Nat.reduceLeDiff, Nat.reducePow, Int.reducePow, Int.reduceToNat, Nat.reduceAdd, decide_true]
  exact hx1.trans hx3

/-! ### What Method gives, in three parts -/
def mT (s : List UInt8) : List (List UInt8) := match methP s with
  | none => []
  | some x => x.1
def mG (s : List UInt8) : List UInt8 := match methP s with
  | none => []
  | some x => x.2
theorem MethV_parts {s : List UInt8} {v : Value} {h : Heap} (H : MethV s v h) : ∃ sv, v = .tuple #[sv, str (mG s), .bool (methP s).isSome] ∧ Sl h sv ((mT s).map str) := by
  unfold MethV at H
  unfold mG mT
  cases hm : methP s with
  | none =>
    rw [hm] at H
    exact ⟨_, H, none, 0, rfl, .inl rfl⟩
  | some x =>
    rw [hm] at H
    obtain ⟨sv, rfl, hs⟩ := H
    exact ⟨sv, rfl, hs⟩
theorem runP_len : ∀ {f : Nat} {l : List UInt8} {ts : List (List UInt8)} {sl : Nat} {ts' : List (List UInt8)} {sl' : Nat} {l' : List UInt8},
    runP f l ts sl = some (ts', sl', l') → ts'.length ≤ ts.length + l.length
  | 0, _, _, _, _, _, _, h => by cases h
  | f + 1, l, ts, sl, ts', sl', l', h => by
    rw [runP] at h
    split at h
    · cases h; omega
    · cases ho : oneP l 0 with
      | none => rw [ho] at h; cases h
      | some m =>
        rw [ho] at h
        have h1 := runP_len h
        have h2 := oneP_le ho
        rw [List.length_append, List.length_singleton, List.length_drop] at h1
        omega
theorem mT_len (s : List UInt8) : (mT s).length ≤ s.length := by
  unfold mT
  cases hm : methP s with
  | none => simp
  | some x =>
    obtain ⟨ts, g⟩ := x
    unfold methP at hm
    split at hm
    · cases hr : runP s.length (s.drop 1) [] 0 with
      | none => rw [hr] at hm; cases hm
      | some y =>
        obtain ⟨ts', sl', l'⟩ := y
        rw [hr] at hm
        unfold methE at hm
        simp only [] at hm
        split at hm
        · cases hm
        · cases hm
          have := runP_len hr
          rw [List.length_drop, List.length_nil] at this
          simp only []
          omega
    · cases hm
theorem mT_text {s : List UInt8} (h : (methP s).isSome = true) : [40] ++ (mT s).flatten ++ [41] ++ mG s = s := by
  cases hm : methP s with
  | none => rw [hm] at h; cases h
  | some x =>
    obtain ⟨ts, g⟩ := x
    have := methP_text hm
    unfold mT mG
    rw [hm]
    exact this
theorem mT_flat (s : List UInt8) : (mT s).flatten.length ≤ s.length := by
  cases hm : methP s with
  | none => unfold mT; rw [hm]; simp
  | some x =>
    have := congrArg List.length (mT_text (s := s) (by rw [hm]; rfl))
    simp only [List.length_append] at this
    omega
theorem take_flat (ts : List (List UInt8)) (i : Nat) : (ts.take i).flatten.length ≤ ts.flatten.length := by
  conv => rhs; rw [← List.take_append_drop i ts, List.flatten_append, List.length_append]
  omega

theorem descTypes_any {h : Heap} (l : List UInt8) : HCalls Tryd.prog 4 #[str l] h fun v h' => Ext h h' ∧ v = .bool true := by
  refine C.law1_DescTypes_calls (args := [str l]) rfl ?_
  by_cases hl : 32768 < l.length
  · have hl' : (32768 : Int) < (l.length : Int) := by omega
    simp (disch := first | omega | assumption) only [C.law1_DescTypes_gos, T.tv, ↓reduceIte, Nat.reduceEqDiff, reduceCtorEq, Nat.reduceLeDiff, Nat.reducePow, Int.reducePow, Int.reduceToNat, Nat.reduceAdd, hl', decide_true, decide_false]
    exact Ext.refl _
  have hl' : ¬ (32768 : Int) < (l.length : Int) := by omega
  have hb : l.length ≤ 4294967296 := by omega
  simp (disch := first | omega | assumption) only [C.law1_DescTypes_gos, T.tv, ↓reduceIte, Nat.reduceEqDiff, reduceCtorEq, Nat.reduceLeDiff, Nat.reducePow, Int.reducePow, Int.reduceToNat, Nat.reduceAdd, hl', decide_true, decide_false]
  refine eff_callF rfl ((method_any l hb).mono ?_)
  rintro v1 h1 ⟨hx1, hm1⟩
  obtain ⟨sv1, rfl, hs1⟩ := MethV_parts hm1
  simp (disch := first | omega | assumption) only [C.law1_DescTypes_gos, T.tv, ↓reduceIte, Nat.reduceEqDiff, reduceCtorEq, Nat.reduceLeDiff, Nat.reducePow, Int.reducePow, Int.reduceToNat, Nat.reduceAdd]
  refine eff_callF rfl ((rmethod_any l hb).mono ?_)
  rintro v2 h2 ⟨hx2, hm2⟩
  obtain ⟨sv2, rfl, hs2⟩ := MethV_parts hm2
  simp (disch := first | omega | assumption) only [C.law1_DescTypes_gos, T.tv, ↓reduceIte, Nat.reduceEqDiff, reduceCtorEq, Nat.reduceLeDiff, Nat.reducePow, Int.reducePow, Int.reduceToNat, Nat.reduceAdd]
  refine eff_callF rfl ((field_any l hb).mono ?_)
  rintro v3 h3 ⟨hx3, rfl⟩
  simp (disch := first | omega | assumption) only [C.law1_DescTypes_gos, T.tv, ↓reduceIte, Nat.reduceEqDiff, reduceCtorEq, Nat.reduceLeDiff, Nat.reducePow, Int.reducePow, Int.reduceToNat, Nat.reduceAdd]
  refine eff_callF rfl ((rfield_any l hb).mono ?_)
  rintro v4 h4 ⟨rfl, rfl⟩
  clear hm1 hm2
  have hsa := hs1.ext (hx2.trans hx3)
  have hsb := hs2.ext hx3
  have hx := (hx1.trans hx2).trans hx3
  clear hs1 hs2 hx1 hx2 hx3
  have htl := mT_len l
  have htx := mT_text (s := l)
  have hfl := mT_flat l
  generalize mT l = ts at *
  generalize mG l = g at *
  generalize (methP l).isSome = ok at *
  have hsa' := hsa
  have hsb' := hsb
  obtain ⟨a1, c1, rfl, _⟩ := hsa'
  obtain ⟨a2, c2, rfl, _⟩ := hsb'
  rw [List.length_map]
  simp (disch := first | omega | assumption) only [C.law1_DescTypes_gos, T.tv, ↓reduceIte, Nat.reduceEqDiff, reduceCtorEq, Nat.reduceLeDiff, Nat.reducePow, Int.reducePow, Int.reduceToNat, Nat.reduceAdd, decide_true, decide_false]
  refine eff_callF rfl ((slots_any l).mono ?_)
  rintro v5 h5 ⟨rfl, rfl⟩
  simp (disch := first | omega | assumption) only [C.law1_DescTypes_gos, T.tv, ↓reduceIte, Nat.reduceEqDiff, reduceCtorEq, Nat.reduceLeDiff, Nat.reducePow, Int.reducePow, Int.reduceToNat, Nat.reduceAdd]
  refine eff_callF rfl ((rslots_any l).mono ?_)
  rintro v6 h6 ⟨rfl, rfl⟩
  simp (disch := first | omega | assumption) only [C.law1_DescTypes_gos, T.tv, ↓reduceIte, Nat.reduceEqDiff, reduceCtorEq, Nat.reduceLeDiff, Nat.reducePow, Int.reducePow, Int.reduceToNat, Nat.reduceAdd, decide_true, decide_false]
  refine eff_callF rfl ((slots_any g).mono ?_)
  rintro v7 h7 ⟨rfl, rfl⟩
  simp (disch := first | omega | assumption) only [C.law1_DescTypes_gos, T.tv, ↓reduceIte, Nat.reduceEqDiff, reduceCtorEq, Nat.reduceLeDiff, Nat.reducePow, Int.reducePow, Int.reduceToNat, Nat.reduceAdd]
  refine eff_callF rfl ((rslots_any g).mono ?_)
  rintro v8 h8 ⟨rfl, rfl⟩
  simp (disch := first | omega | assumption) only [C.law1_DescTypes_gos, T.tv, ↓reduceIte, Nat.reduceEqDiff, reduceCtorEq, Nat.reduceLeDiff, Nat.reducePow, Int.reducePow, Int.reduceToNat, Nat.reduceAdd, decide_true, decide_false]
  refine loop_intro [0, 3, 4, 5, 6, 9, 63, 64] (fun m ρ hc => ∃ i : Nat, m = ts.length - i ∧ i ≤ ts.length ∧
    ρ = [(0, str l), (3, .slice a1 ts.length c1), (4, str g), (5, .bool ok), (6, .slice a2 ts.length c2), (9, str (40 :: (ts.take i).flatten)), (63, .int .i64 (ts.length : Int)), (64, .int .i64 (i : Int))] ∧ hc = h8) ?_ ?_
  · simp (disch := first | omega | assumption) only [C.law1_DescTypes_gos, T.tv, ↓reduceIte, Nat.reduceEqDiff, reduceCtorEq, Nat.reduceLeDiff, Nat.reducePow, Int.reducePow, Int.reduceToNat, Nat.reduceAdd]
    exact ⟨_, 0, rfl, Nat.zero_le _, rfl⟩
  rintro m ρ hc ⟨i, rfl, hi, rfl, rfl⟩
  by_cases hlt : i < ts.length
  · have hlt' : (i : Int) < (ts.length : Int) := by omega
    obtain ⟨b1, o1, c1', heq1, _, hcell1⟩ := hsa.at (i := i) (by simpa using hlt)
    obtain ⟨b2, o2, c2', heq2, _, hcell2⟩ := hsb.at (i := i) (by simpa using hlt)
    rw [List.length_map] at heq1 heq2
    cases heq1
    cases heq2
    have e1 : cellAt hc ⟨b1, o1 + i, none⟩ = some (str (ts.getD i [])) := by rw [hcell1]; simp [hlt]
    have e2 : cellAt hc ⟨b2, o2 + i, none⟩ = some (str (ts.getD i [])) := by rw [hcell2]; simp [hlt]
    have hst : ts.take (i + 1) = ts.take i ++ [ts.getD i []] := by rw [List.take_add_one]; simp [hlt]
    have hfl2 := take_flat ts (i + 1)
    have w1 : IntKind.i64.wrap ((i : Int) + 1) = ((i + 1 : Nat) : Int) := by rw [wrap_i64 (by omega) (by omega)]; omega
    rw [hst, List.flatten_append, List.length_append] at hfl2
    generalize ts.getD i [] = p at *
    have hcat : (40 :: (ts.take i).flatten : List UInt8).length + p.length ≤ 9223372036854775807 := by
      simp only [List.flatten_cons, List.flatten_nil, List.append_nil] at hfl2
      rw [List.length_cons]; omega
    simp (disch := first | omega | assumption) only [C.law1_DescTypes_gos, T.tv, ↓reduceIte, Nat.reduceEqDiff, reduceCtorEq, Nat.reduceLeDiff, Nat.reducePow, Int.reducePow, Int.reduceToNat, Nat.reduceAdd, hlt', e1, e2, decide_true, decide_false]
    refine eff_callF rfl ((slots_any p).mono ?_)
    rintro v9 h9 ⟨rfl, rfl⟩
    simp (disch := first | omega | assumption) only [C.law1_DescTypes_gos, T.tv, ↓reduceIte, Nat.reduceEqDiff, reduceCtorEq, Nat.reduceLeDiff, Nat.reducePow, Int.reducePow, Int.reduceToNat, Nat.reduceAdd, hlt', e1, e2]
    refine eff_callF rfl ((rslots_any p).mono ?_)
    rintro v10 h10 ⟨rfl, rfl⟩
    simp (disch := first | omega | assumption) only [C.law1_DescTypes_gos, T.tv, ↓reduceIte, Nat.reduceEqDiff, reduceCtorEq, Nat.reduceLeDiff, Nat.reducePow, Int.reducePow, Int.reduceToNat, Nat.reduceAdd, hlt', e1, e2, bin_str_add hcat, w1, decide_true, decide_false]
    refine ⟨ts.length - (i + 1), by omega, i + 1, rfl, by omega, ?_⟩
    rw [hst, List.flatten_append]
    simp
  · have hlt' : ¬ (i : Int) < (ts.length : Int) := by omega
    have hti : ts.take i = ts := List.take_of_length_le (by omega)
    rw [hti]
    cases ok with
    | false =>
      simp (disch := first | omega | assumption) only [C.law1_DescTypes_gos, T.tv, ↓reduceIte, Nat.reduceEqDiff, reduceCtorEq, Nat.reduceLeDiff, Nat.reducePow, Int.reducePow, Int.reduceToNat, Nat.reduceAdd, hlt', decide_true, decide_false]
      exact hx
    | true =>
      have ht : 40 :: (ts.flatten ++ [41] ++ g) = l := htx rfl
      have q1 : (40 :: ts.flatten : List UInt8).length + ([41] : List UInt8).length ≤ 9223372036854775807 := by
        rw [List.length_cons, List.length_singleton]; omega
      have q2 : (40 :: (ts.flatten ++ [41]) : List UInt8).length + g.length ≤ 9223372036854775807 := by
        have := congrArg List.length ht
        simp only [List.length_cons, List.length_append, List.length_nil] at this
        rw [List.length_cons, List.length_append, List.length_singleton]; omega
      simp (disch := first | omega | assumption) only [C.law1_DescTypes_gos, T.tv, ↓reduceIte, Nat.reduceEqDiff, reduceCtorEq, Nat.reduceLeDiff, Nat.reducePow, Int.reducePow, Int.reduceToNat, Nat.reduceAdd, hlt', bin_str_add q1, bin_str_add q2, ht, decide_true, decide_false]
      exact hx
end Go.Proofs.YtggfgjahmdedbaaDoor
