/- Lists of types compared. -/
import Derived.Test.YthhfbnkmhgadaaaM0
import Derived.Test.YthhfbnkmhgadaaaCb
import Derived.Test.YthhfbnkmhgadaaaCe
namespace Go.Proofs.Ythhfbnkmhgadaaa
open Go.Vc
set_option maxRecDepth 100000
set_option linter.unusedSimpArgs false
set_option linter.unusedVariables false

theorem eqCell_str (a b : List UInt8) : eqCell (str a) (str b) = decide (a = b) := by
  show ((⟨a.toArray⟩ : ByteArray) == ⟨b.toArray⟩) = _
  by_cases h : a = b
  · subst h
    simp only [decide_true]
    show (a.toArray == a.toArray) = true
    exact beq_self_eq_true _
  · simp only [h, decide_false]
    show (a.toArray == b.toArray) = false
    simpa using h
theorem vt_eqa (v : VT) : eqaC Try.prog 35 v.cells = true := by
  unfold eqaC
  rw [Try.underlying35]
  kernel_rfl
theorem vt_eqb (v u : VT) : eqbC Try.prog 35 v.cells u.cells = true := by
  unfold eqbC
  rw [Try.underlying35]
  kernel_rfl
theorem vt_row (v u : VT) : eqRow Try.prog 35 v.cells u.cells = decide (v = u) := by
  unfold eqRow
  rw [Try.underlying35]
  obtain ⟨t1, n1, a1⟩ := v
  obtain ⟨t2, n2, a2⟩ := u
  have h1 : eqCell (.int .u8 (t1 : Int)) (.int .u8 (t2 : Int)) = decide (t1 = t2) := by
    show (decide (IntKind.u8 = IntKind.u8) && ((t1 : Int) == (t2 : Int))) = _
    by_cases h : t1 = t2
    · subst h; simp
    · have : ¬ (t1 : Int) = t2 := by omega
      simp [h]; omega
  have h3 : eqCell (.int .i64 a1) (.int .i64 a2) = decide (a1 = a2) := by
    show (decide (IntKind.i64 = IntKind.i64) && (a1 == a2)) = _
    by_cases h : a1 = a2 <;> simp [h]
  show (((_ || eqCell (.int .u8 (t1 : Int)) (.int .u8 (t2 : Int))) && ((_ || eqCell (str n1) (str n2)) && ((_ || eqCell (.int .i64 a1) (.int .i64 a2)) && true)))) = _
  rw [h1, eqCell_str, h3]
  by_cases e1 : t1 = t2 <;> by_cases e2 : n1 = n2 <;> by_cases e3 : a1 = a2 <;> simp [e1, e2, e3]


set_option maxHeartbeats 1000000 in
theorem equal_any {h : Heap} (a b : List VT) (va vb : Value) (n m : Nat) (hna : a.length = n) (hmb : b.length = m) (hs : SlN h 3 va n (flatV a)) (ht : SlN h 3 vb m (flatV b)) (hlen : n ≤ 9223372036854775806) :
    HCalls Try.prog 35 #[va, vb] h fun r h' => h' = h ∧ r = .bool (decide (a = b)) := by
  refine C.slices_Equal_calls (args := [va, vb]) rfl ?_
  subst hna hmb
  have hs' := hs
  have ht' := ht
  obtain ⟨_, a1, c1, rfl, _⟩ := hs'
  obtain ⟨_, a2, c2, rfl, _⟩ := ht'
  by_cases hl : a.length = b.length
  case neg =>
    have hl' : ¬ (a.length : Int) = b.length := by omega
    have hne : decide (a = b) = false := decide_eq_false (fun h => hl (by rw [h]))
    rw [hne]
    simp (disch := first | omega | assumption) only [C.slices_Equal_gos, vs, T.ts, and_true, true_and, List.getElem?_toArray, List.getElem?_cons_zero, List.getElem?_cons_succ, ↓reduceIte, Nat.reduceEqDiff, Option.bind_some, Option.map_some, Option.isSome_some, ne_eq, Bool.not_true, Bool.not_false, Bool.true_eq_false, Bool.false_eq_true, Bool.not_eq_true', Bool.not_eq_false', reduceCtorEq, Option.some.injEq, decide_eq_true_eq, decide_eq_false_iff_not, not_true_eq_false, not_false_eq_true, decide_true, decide_false, List.size_toArray, List.length_cons, List.length_nil, List.cons_append, List.nil_append, List.append_nil, List.map_cons, List.map_nil, Array.size_push, Int.toNat_natCast, List.toList_toArray, Nat.min_def, Nat.reduceLeDiff, Nat.reducePow, Int.reducePow, Int.reduceToNat, Int.tdiv_eq_ediv_of_nonneg, Int.tmod_eq_emod_of_nonneg, Int.fdiv_eq_ediv_of_nonneg, Nat.mul_one, Nat.reduceAdd, Nat.zero_add, Nat.add_zero, implies_true, false_implies, true_implies, eq_false hl', decide_false]
  have hl' : (a.length : Int) = b.length := by omega
  simp (disch := first | omega | assumption) only [C.slices_Equal_gos, vs, T.ts, and_true, true_and, List.getElem?_toArray, List.getElem?_cons_zero, List.getElem?_cons_succ, ↓reduceIte, Nat.reduceEqDiff, Option.bind_some, Option.map_some, Option.isSome_some, ne_eq, Bool.not_true, Bool.not_false, Bool.true_eq_false, Bool.false_eq_true, Bool.not_eq_true', Bool.not_eq_false', reduceCtorEq, Option.some.injEq, decide_eq_true_eq, decide_eq_false_iff_not, not_true_eq_false, not_false_eq_true, decide_true, decide_false, List.size_toArray, List.length_cons, List.length_nil, List.cons_append, List.nil_append, List.append_nil, List.map_cons, List.map_nil, Array.size_push, Int.toNat_natCast, List.toList_toArray, Nat.min_def, Nat.reduceLeDiff, Nat.reducePow, Int.reducePow, Int.reduceToNat, Int.tdiv_eq_ediv_of_nonneg, Int.tmod_eq_emod_of_nonneg, Int.fdiv_eq_ediv_of_nonneg, Nat.mul_one, Nat.reduceAdd, Nat.zero_add, Nat.add_zero, implies_true, false_implies, true_implies, eq_true hl']
  refine loop_intro [0, 1, 12, 13] (fun m ρ hc => ∃ i : Nat, m = a.length - i ∧ i ≤ a.length ∧ ρ = [(0, .slice a1 a.length c1), (1, .slice a2 b.length c2), (12, .int .i64 a.length), (13, .int .i64 i)] ∧ hc = h ∧ a.take i = b.take i) ?_ ?_
  · simp (disch := first | omega | assumption) only [C.slices_Equal_gos, vs, T.ts, and_true, true_and, List.getElem?_toArray, List.getElem?_cons_zero, List.getElem?_cons_succ, ↓reduceIte, Nat.reduceEqDiff, Option.bind_some, Option.map_some, Option.isSome_some, ne_eq, Bool.not_true, Bool.not_false, Bool.true_eq_false, Bool.false_eq_true, Bool.not_eq_true', Bool.not_eq_false', reduceCtorEq, Option.some.injEq, decide_eq_true_eq, decide_eq_false_iff_not, not_true_eq_false, not_false_eq_true, decide_true, decide_false, List.size_toArray, List.length_cons, List.length_nil, List.cons_append, List.nil_append, List.append_nil, List.map_cons, List.map_nil, Array.size_push, Int.toNat_natCast, List.toList_toArray, Nat.min_def, Nat.reduceLeDiff, Nat.reducePow, Int.reducePow, Int.reduceToNat, Int.tdiv_eq_ediv_of_nonneg, Int.tmod_eq_emod_of_nonneg, Int.fdiv_eq_ediv_of_nonneg, Nat.mul_one, Nat.reduceAdd, Nat.zero_add, Nat.add_zero, implies_true, false_implies, true_implies, hl']
    exact ⟨_, 0, rfl, Nat.zero_le _, by first | rfl | (simp only [List.cons.injEq, Prod.mk.injEq, Value.int.injEq, true_and, and_true]; first | omega | exact ⟨by omega, rfl⟩), by simp⟩
  · rintro m ρ hc ⟨i, rfl, hi, rfl, rfl, heqi⟩
    rcases Nat.lt_or_ge i a.length with hlt | hge
    · have hlt' : (i : Int) < a.length := by omega
      have hltb : i < b.length := by omega
      have hltb' : (i : Int) < b.length := by omega
      obtain ⟨b1, o1, c1', heq, hrd, _⟩ := hs.at hlt
      obtain ⟨b2, o2, c2', heq2, hrd2, _⟩ := ht.at hltb
      cases heq
      cases heq2
      rw [flatV_at hlt] at hrd
      rw [flatV_at hltb] at hrd2
      have hta := take_snoc hlt
      have htb := take_snoc hltb
      have hdec : a.getD i VT.zero ≠ b.getD i VT.zero → a ≠ b := fun hne he => hne (by rw [he])
      generalize a.getD i VT.zero = k at *
      generalize b.getD i VT.zero = k2 at *
      have hld := ld_agg T.ag_35 hrd rfl
      have hld2 := ld_agg T.ag_35 hrd2 rfl
      have hq := fun x y => bin_row_neq (x := x) (y := y) (h := hc) (vt_eqa k) (vt_eqb k k2)
      simp only [vt_row] at hq
      by_cases hk : k = k2
      · have hd : decide (k = k2) = true := decide_eq_true hk
        rw [hd] at hq
        simp (disch := first | omega | assumption) only [C.slices_Equal_gos, vs, T.ts, and_true, true_and, List.getElem?_toArray, List.getElem?_cons_zero, List.getElem?_cons_succ, ↓reduceIte, Nat.reduceEqDiff, Option.bind_some, Option.map_some, Option.isSome_some, ne_eq, Bool.not_true, Bool.not_false, Bool.true_eq_false, Bool.false_eq_true, Bool.not_eq_true', Bool.not_eq_false', reduceCtorEq, Option.some.injEq, decide_eq_true_eq, decide_eq_false_iff_not, not_true_eq_false, not_false_eq_true, decide_true, decide_false, List.size_toArray, List.length_cons, List.length_nil, List.cons_append, List.nil_append, List.append_nil, List.map_cons, List.map_nil, Array.size_push, Int.toNat_natCast, List.toList_toArray, Nat.min_def, Nat.reduceLeDiff, Nat.reducePow, Int.reducePow, Int.reduceToNat, Int.tdiv_eq_ediv_of_nonneg, Int.tmod_eq_emod_of_nonneg, Int.fdiv_eq_ediv_of_nonneg, Nat.mul_one, Nat.reduceAdd, Nat.zero_add, Nat.add_zero, implies_true, false_implies, true_implies, hlt', hltb', hld, hld2, hq]
        exact ⟨a.length - (i + 1), by omega, i + 1, rfl, by omega, by simp, by rw [hta, htb, heqi, hk]⟩
      · have hd : decide (k = k2) = false := decide_eq_false hk
        rw [hd] at hq
        have hne : decide (a = b) = false := decide_eq_false (hdec hk)
        rw [hne]
        simp (disch := first | omega | assumption) only [C.slices_Equal_gos, vs, T.ts, and_true, true_and, List.getElem?_toArray, List.getElem?_cons_zero, List.getElem?_cons_succ, ↓reduceIte, Nat.reduceEqDiff, Option.bind_some, Option.map_some, Option.isSome_some, ne_eq, Bool.not_true, Bool.not_false, Bool.true_eq_false, Bool.false_eq_true, Bool.not_eq_true', Bool.not_eq_false', reduceCtorEq, Option.some.injEq, decide_eq_true_eq, decide_eq_false_iff_not, not_true_eq_false, not_false_eq_true, decide_true, decide_false, List.size_toArray, List.length_cons, List.length_nil, List.cons_append, List.nil_append, List.append_nil, List.map_cons, List.map_nil, Array.size_push, Int.toNat_natCast, List.toList_toArray, Nat.min_def, Nat.reduceLeDiff, Nat.reducePow, Int.reducePow, Int.reduceToNat, Int.tdiv_eq_ediv_of_nonneg, Int.tmod_eq_emod_of_nonneg, Int.fdiv_eq_ediv_of_nonneg, Nat.mul_one, Nat.reduceAdd, Nat.zero_add, Nat.add_zero, implies_true, false_implies, true_implies, hlt', hltb', hld, hld2, hq]
    · have hlt' : ¬ (i : Int) < a.length := by omega
      have e1 : a = b := by
        rw [List.take_of_length_le hge, List.take_of_length_le (by omega)] at heqi
        exact heqi
      have hd : decide (a = b) = true := decide_eq_true e1
      rw [hd]
      simp (disch := first | omega | assumption) only [C.slices_Equal_gos, vs, T.ts, and_true, true_and, List.getElem?_toArray, List.getElem?_cons_zero, List.getElem?_cons_succ, ↓reduceIte, Nat.reduceEqDiff, Option.bind_some, Option.map_some, Option.isSome_some, ne_eq, Bool.not_true, Bool.not_false, Bool.true_eq_false, Bool.false_eq_true, Bool.not_eq_true', Bool.not_eq_false', reduceCtorEq, Option.some.injEq, decide_eq_true_eq, decide_eq_false_iff_not, not_true_eq_false, not_false_eq_true, decide_true, decide_false, List.size_toArray, List.length_cons, List.length_nil, List.cons_append, List.nil_append, List.append_nil, List.map_cons, List.map_nil, Array.size_push, Int.toNat_natCast, List.toList_toArray, Nat.min_def, Nat.reduceLeDiff, Nat.reducePow, Int.reducePow, Int.reduceToNat, Int.tdiv_eq_ediv_of_nonneg, Int.tmod_eq_emod_of_nonneg, Int.fdiv_eq_ediv_of_nonneg, Nat.mul_one, Nat.reduceAdd, Nat.zero_add, Nat.add_zero, implies_true, false_implies, true_implies, hlt']

set_option maxHeartbeats 1000000 in
theorem sameTypes_any {h : Heap} (a b : List VT) (va vb : Value) (n m : Nat) (hna : a.length = n) (hmb : b.length = m) (hs : SlN h 3 va n (flatV a)) (ht : SlN h 3 vb m (flatV b)) (hlen : n ≤ 9223372036854775806) :
    HCalls Try.prog 11 #[va, vb] h fun r h' => h' = h ∧ r = .bool (decide (a = b)) := by
  refine C.law3_sameTypes_calls (args := [va, vb]) rfl ?_
  subst hna hmb
  have hs' := hs
  have ht' := ht
  obtain ⟨_, a1, c1, rfl, _⟩ := hs'
  obtain ⟨_, a2, c2, rfl, _⟩ := ht'
  by_cases hl : a.length = b.length
  case neg =>
    have hl' : ¬ (a.length : Int) = b.length := by omega
    have hne : decide (a = b) = false := decide_eq_false (fun h => hl (by rw [h]))
    rw [hne]
    simp (disch := first | omega | assumption) only [C.law3_sameTypes_gos, vs, T.ts, and_true, true_and, List.getElem?_toArray, List.getElem?_cons_zero, List.getElem?_cons_succ, ↓reduceIte, Nat.reduceEqDiff, Option.bind_some, Option.map_some, Option.isSome_some, ne_eq, Bool.not_true, Bool.not_false, Bool.true_eq_false, Bool.false_eq_true, Bool.not_eq_true', Bool.not_eq_false', reduceCtorEq, Option.some.injEq, decide_eq_true_eq, decide_eq_false_iff_not, not_true_eq_false, not_false_eq_true, decide_true, decide_false, List.size_toArray, List.length_cons, List.length_nil, List.cons_append, List.nil_append, List.append_nil, List.map_cons, List.map_nil, Array.size_push, Int.toNat_natCast, List.toList_toArray, Nat.min_def, Nat.reduceLeDiff, Nat.reducePow, Int.reducePow, Int.reduceToNat, Int.tdiv_eq_ediv_of_nonneg, Int.tmod_eq_emod_of_nonneg, Int.fdiv_eq_ediv_of_nonneg, Nat.mul_one, Nat.reduceAdd, Nat.zero_add, Nat.add_zero, implies_true, false_implies, true_implies, eq_false hl', decide_false]
  have hl' : (a.length : Int) = b.length := by omega
  simp (disch := first | omega | assumption) only [C.law3_sameTypes_gos, vs, T.ts, and_true, true_and, List.getElem?_toArray, List.getElem?_cons_zero, List.getElem?_cons_succ, ↓reduceIte, Nat.reduceEqDiff, Option.bind_some, Option.map_some, Option.isSome_some, ne_eq, Bool.not_true, Bool.not_false, Bool.true_eq_false, Bool.false_eq_true, Bool.not_eq_true', Bool.not_eq_false', reduceCtorEq, Option.some.injEq, decide_eq_true_eq, decide_eq_false_iff_not, not_true_eq_false, not_false_eq_true, decide_true, decide_false, List.size_toArray, List.length_cons, List.length_nil, List.cons_append, List.nil_append, List.append_nil, List.map_cons, List.map_nil, Array.size_push, Int.toNat_natCast, List.toList_toArray, Nat.min_def, Nat.reduceLeDiff, Nat.reducePow, Int.reducePow, Int.reduceToNat, Int.tdiv_eq_ediv_of_nonneg, Int.tmod_eq_emod_of_nonneg, Int.fdiv_eq_ediv_of_nonneg, Nat.mul_one, Nat.reduceAdd, Nat.zero_add, Nat.add_zero, implies_true, false_implies, true_implies, eq_true hl']
  refine loop_intro [0, 1, 12, 13] (fun m ρ hc => ∃ i : Nat, m = a.length - i ∧ i ≤ a.length ∧ ρ = [(0, .slice a1 a.length c1), (1, .slice a2 b.length c2), (12, .int .i64 a.length), (13, .int .i64 i)] ∧ hc = h ∧ a.take i = b.take i) ?_ ?_
  · simp (disch := first | omega | assumption) only [C.law3_sameTypes_gos, vs, T.ts, and_true, true_and, List.getElem?_toArray, List.getElem?_cons_zero, List.getElem?_cons_succ, ↓reduceIte, Nat.reduceEqDiff, Option.bind_some, Option.map_some, Option.isSome_some, ne_eq, Bool.not_true, Bool.not_false, Bool.true_eq_false, Bool.false_eq_true, Bool.not_eq_true', Bool.not_eq_false', reduceCtorEq, Option.some.injEq, decide_eq_true_eq, decide_eq_false_iff_not, not_true_eq_false, not_false_eq_true, decide_true, decide_false, List.size_toArray, List.length_cons, List.length_nil, List.cons_append, List.nil_append, List.append_nil, List.map_cons, List.map_nil, Array.size_push, Int.toNat_natCast, List.toList_toArray, Nat.min_def, Nat.reduceLeDiff, Nat.reducePow, Int.reducePow, Int.reduceToNat, Int.tdiv_eq_ediv_of_nonneg, Int.tmod_eq_emod_of_nonneg, Int.fdiv_eq_ediv_of_nonneg, Nat.mul_one, Nat.reduceAdd, Nat.zero_add, Nat.add_zero, implies_true, false_implies, true_implies, hl']
    exact ⟨_, 0, rfl, Nat.zero_le _, by first | rfl | (simp only [List.cons.injEq, Prod.mk.injEq, Value.int.injEq, true_and, and_true]; first | omega | exact ⟨by omega, rfl⟩), by simp⟩
  · rintro m ρ hc ⟨i, rfl, hi, rfl, rfl, heqi⟩
    rcases Nat.lt_or_ge i a.length with hlt | hge
    · have hlt' : (i : Int) < a.length := by omega
      have hltb : i < b.length := by omega
      have hltb' : (i : Int) < b.length := by omega
      obtain ⟨b1, o1, c1', heq, hrd, _⟩ := hs.at hlt
      obtain ⟨b2, o2, c2', heq2, hrd2, _⟩ := ht.at hltb
      cases heq
      cases heq2
      rw [flatV_at hlt] at hrd
      rw [flatV_at hltb] at hrd2
      have hta := take_snoc hlt
      have htb := take_snoc hltb
      have hdec : a.getD i VT.zero ≠ b.getD i VT.zero → a ≠ b := fun hne he => hne (by rw [he])
      generalize a.getD i VT.zero = k at *
      generalize b.getD i VT.zero = k2 at *
      have hld := ld_agg T.ag_35 hrd rfl
      have hld2 := ld_agg T.ag_35 hrd2 rfl
      have hq := fun x y => bin_row_neq (x := x) (y := y) (h := hc) (vt_eqa k) (vt_eqb k k2)
      simp only [vt_row] at hq
      by_cases hk : k = k2
      · have hd : decide (k = k2) = true := decide_eq_true hk
        rw [hd] at hq
        simp (disch := first | omega | assumption) only [C.law3_sameTypes_gos, vs, T.ts, and_true, true_and, List.getElem?_toArray, List.getElem?_cons_zero, List.getElem?_cons_succ, ↓reduceIte, Nat.reduceEqDiff, Option.bind_some, Option.map_some, Option.isSome_some, ne_eq, Bool.not_true, Bool.not_false, Bool.true_eq_false, Bool.false_eq_true, Bool.not_eq_true', Bool.not_eq_false', reduceCtorEq, Option.some.injEq, decide_eq_true_eq, decide_eq_false_iff_not, not_true_eq_false, not_false_eq_true, decide_true, decide_false, List.size_toArray, List.length_cons, List.length_nil, List.cons_append, List.nil_append, List.append_nil, List.map_cons, List.map_nil, Array.size_push, Int.toNat_natCast, List.toList_toArray, Nat.min_def, Nat.reduceLeDiff, Nat.reducePow, Int.reducePow, Int.reduceToNat, Int.tdiv_eq_ediv_of_nonneg, Int.tmod_eq_emod_of_nonneg, Int.fdiv_eq_ediv_of_nonneg, Nat.mul_one, Nat.reduceAdd, Nat.zero_add, Nat.add_zero, implies_true, false_implies, true_implies, hlt', hltb', hld, hld2, hq]
        exact ⟨a.length - (i + 1), by omega, i + 1, rfl, by omega, by simp, by rw [hta, htb, heqi, hk]⟩
      · have hd : decide (k = k2) = false := decide_eq_false hk
        rw [hd] at hq
        have hne : decide (a = b) = false := decide_eq_false (hdec hk)
        rw [hne]
        simp (disch := first | omega | assumption) only [C.law3_sameTypes_gos, vs, T.ts, and_true, true_and, List.getElem?_toArray, List.getElem?_cons_zero, List.getElem?_cons_succ, ↓reduceIte, Nat.reduceEqDiff, Option.bind_some, Option.map_some, Option.isSome_some, ne_eq, Bool.not_true, Bool.not_false, Bool.true_eq_false, Bool.false_eq_true, Bool.not_eq_true', Bool.not_eq_false', reduceCtorEq, Option.some.injEq, decide_eq_true_eq, decide_eq_false_iff_not, not_true_eq_false, not_false_eq_true, decide_true, decide_false, List.size_toArray, List.length_cons, List.length_nil, List.cons_append, List.nil_append, List.append_nil, List.map_cons, List.map_nil, Array.size_push, Int.toNat_natCast, List.toList_toArray, Nat.min_def, Nat.reduceLeDiff, Nat.reducePow, Int.reducePow, Int.reduceToNat, Int.tdiv_eq_ediv_of_nonneg, Int.tmod_eq_emod_of_nonneg, Int.fdiv_eq_ediv_of_nonneg, Nat.mul_one, Nat.reduceAdd, Nat.zero_add, Nat.add_zero, implies_true, false_implies, true_implies, hlt', hltb', hld, hld2, hq]
    · have hlt' : ¬ (i : Int) < a.length := by omega
      have e1 : a = b := by
        rw [List.take_of_length_le hge, List.take_of_length_le (by omega)] at heqi
        exact heqi
      have hd : decide (a = b) = true := decide_eq_true e1
      rw [hd]
      simp (disch := first | omega | assumption) only [C.law3_sameTypes_gos, vs, T.ts, and_true, true_and, List.getElem?_toArray, List.getElem?_cons_zero, List.getElem?_cons_succ, ↓reduceIte, Nat.reduceEqDiff, Option.bind_some, Option.map_some, Option.isSome_some, ne_eq, Bool.not_true, Bool.not_false, Bool.true_eq_false, Bool.false_eq_true, Bool.not_eq_true', Bool.not_eq_false', reduceCtorEq, Option.some.injEq, decide_eq_true_eq, decide_eq_false_iff_not, not_true_eq_false, not_false_eq_true, decide_true, decide_false, List.size_toArray, List.length_cons, List.length_nil, List.cons_append, List.nil_append, List.append_nil, List.map_cons, List.map_nil, Array.size_push, Int.toNat_natCast, List.toList_toArray, Nat.min_def, Nat.reduceLeDiff, Nat.reducePow, Int.reducePow, Int.reduceToNat, Int.tdiv_eq_ediv_of_nonneg, Int.tmod_eq_emod_of_nonneg, Int.fdiv_eq_ediv_of_nonneg, Nat.mul_one, Nat.reduceAdd, Nat.zero_add, Nat.add_zero, implies_true, false_implies, true_implies, hlt']

set_option maxHeartbeats 1000000 in
theorem same3_any {h : Heap} (a b : List VT) (va vb : Value) (n m : Nat) (hna : a.length = n) (hmb : b.length = m) (hs : SlN h 3 va n (flatV a)) (ht : SlN h 3 vb m (flatV b)) (hlen : n ≤ 9223372036854775806) :
    HCalls Try.prog 20 #[va, vb] h fun r h' => h' = h ∧ r = .bool (decide (a = b)) := by
  refine C.ref3_same_calls (args := [va, vb]) rfl ?_
  subst hna hmb
  have hs' := hs
  have ht' := ht
  obtain ⟨_, a1, c1, rfl, _⟩ := hs'
  obtain ⟨_, a2, c2, rfl, _⟩ := ht'
  by_cases hl : a.length = b.length
  case neg =>
    have hl' : ¬ (a.length : Int) = b.length := by omega
    have hne : decide (a = b) = false := decide_eq_false (fun h => hl (by rw [h]))
    rw [hne]
    simp (disch := first | omega | assumption) only [C.ref3_same_gos, vs, T.ts, and_true, true_and, List.getElem?_toArray, List.getElem?_cons_zero, List.getElem?_cons_succ, ↓reduceIte, Nat.reduceEqDiff, Option.bind_some, Option.map_some, Option.isSome_some, ne_eq, Bool.not_true, Bool.not_false, Bool.true_eq_false, Bool.false_eq_true, Bool.not_eq_true', Bool.not_eq_false', reduceCtorEq, Option.some.injEq, decide_eq_true_eq, decide_eq_false_iff_not, not_true_eq_false, not_false_eq_true, decide_true, decide_false, List.size_toArray, List.length_cons, List.length_nil, List.cons_append, List.nil_append, List.append_nil, List.map_cons, List.map_nil, Array.size_push, Int.toNat_natCast, List.toList_toArray, Nat.min_def, Nat.reduceLeDiff, Nat.reducePow, Int.reducePow, Int.reduceToNat, Int.tdiv_eq_ediv_of_nonneg, Int.tmod_eq_emod_of_nonneg, Int.fdiv_eq_ediv_of_nonneg, Nat.mul_one, Nat.reduceAdd, Nat.zero_add, Nat.add_zero, implies_true, false_implies, true_implies, eq_false hl', decide_false]
  have hl' : (a.length : Int) = b.length := by omega
  simp (disch := first | omega | assumption) only [C.ref3_same_gos, vs, T.ts, and_true, true_and, List.getElem?_toArray, List.getElem?_cons_zero, List.getElem?_cons_succ, ↓reduceIte, Nat.reduceEqDiff, Option.bind_some, Option.map_some, Option.isSome_some, ne_eq, Bool.not_true, Bool.not_false, Bool.true_eq_false, Bool.false_eq_true, Bool.not_eq_true', Bool.not_eq_false', reduceCtorEq, Option.some.injEq, decide_eq_true_eq, decide_eq_false_iff_not, not_true_eq_false, not_false_eq_true, decide_true, decide_false, List.size_toArray, List.length_cons, List.length_nil, List.cons_append, List.nil_append, List.append_nil, List.map_cons, List.map_nil, Array.size_push, Int.toNat_natCast, List.toList_toArray, Nat.min_def, Nat.reduceLeDiff, Nat.reducePow, Int.reducePow, Int.reduceToNat, Int.tdiv_eq_ediv_of_nonneg, Int.tmod_eq_emod_of_nonneg, Int.fdiv_eq_ediv_of_nonneg, Nat.mul_one, Nat.reduceAdd, Nat.zero_add, Nat.add_zero, implies_true, false_implies, true_implies, eq_true hl']
  refine loop_intro [0, 1, 12, 13] (fun m ρ hc => ∃ i : Nat, m = a.length - i ∧ i ≤ a.length ∧ ρ = [(0, .slice a1 a.length c1), (1, .slice a2 b.length c2), (12, .int .i64 a.length), (13, .int .i64 i)] ∧ hc = h ∧ a.take i = b.take i) ?_ ?_
  · simp (disch := first | omega | assumption) only [C.ref3_same_gos, vs, T.ts, and_true, true_and, List.getElem?_toArray, List.getElem?_cons_zero, List.getElem?_cons_succ, ↓reduceIte, Nat.reduceEqDiff, Option.bind_some, Option.map_some, Option.isSome_some, ne_eq, Bool.not_true, Bool.not_false, Bool.true_eq_false, Bool.false_eq_true, Bool.not_eq_true', Bool.not_eq_false', reduceCtorEq, Option.some.injEq, decide_eq_true_eq, decide_eq_false_iff_not, not_true_eq_false, not_false_eq_true, decide_true, decide_false, List.size_toArray, List.length_cons, List.length_nil, List.cons_append, List.nil_append, List.append_nil, List.map_cons, List.map_nil, Array.size_push, Int.toNat_natCast, List.toList_toArray, Nat.min_def, Nat.reduceLeDiff, Nat.reducePow, Int.reducePow, Int.reduceToNat, Int.tdiv_eq_ediv_of_nonneg, Int.tmod_eq_emod_of_nonneg, Int.fdiv_eq_ediv_of_nonneg, Nat.mul_one, Nat.reduceAdd, Nat.zero_add, Nat.add_zero, implies_true, false_implies, true_implies, hl']
    exact ⟨_, 0, rfl, Nat.zero_le _, by first | rfl | (simp only [List.cons.injEq, Prod.mk.injEq, Value.int.injEq, true_and, and_true]; first | omega | exact ⟨by omega, rfl⟩), by simp⟩
  · rintro m ρ hc ⟨i, rfl, hi, rfl, rfl, heqi⟩
    rcases Nat.lt_or_ge i a.length with hlt | hge
    · have hlt' : (i : Int) < a.length := by omega
      have hltb : i < b.length := by omega
      have hltb' : (i : Int) < b.length := by omega
      obtain ⟨b1, o1, c1', heq, hrd, _⟩ := hs.at hlt
      obtain ⟨b2, o2, c2', heq2, hrd2, _⟩ := ht.at hltb
      cases heq
      cases heq2
      rw [flatV_at hlt] at hrd
      rw [flatV_at hltb] at hrd2
      have hta := take_snoc hlt
      have htb := take_snoc hltb
      have hdec : a.getD i VT.zero ≠ b.getD i VT.zero → a ≠ b := fun hne he => hne (by rw [he])
      generalize a.getD i VT.zero = k at *
      generalize b.getD i VT.zero = k2 at *
      have hld := ld_agg T.ag_35 hrd rfl
      have hld2 := ld_agg T.ag_35 hrd2 rfl
      have hq := fun x y => bin_row_neq (x := x) (y := y) (h := hc) (vt_eqa k) (vt_eqb k k2)
      simp only [vt_row] at hq
      by_cases hk : k = k2
      · have hd : decide (k = k2) = true := decide_eq_true hk
        rw [hd] at hq
        simp (disch := first | omega | assumption) only [C.ref3_same_gos, vs, T.ts, and_true, true_and, List.getElem?_toArray, List.getElem?_cons_zero, List.getElem?_cons_succ, ↓reduceIte, Nat.reduceEqDiff, Option.bind_some, Option.map_some, Option.isSome_some, ne_eq, Bool.not_true, Bool.not_false, Bool.true_eq_false, Bool.false_eq_true, Bool.not_eq_true', Bool.not_eq_false', reduceCtorEq, Option.some.injEq, decide_eq_true_eq, decide_eq_false_iff_not, not_true_eq_false, not_false_eq_true, decide_true, decide_false, List.size_toArray, List.length_cons, List.length_nil, List.cons_append, List.nil_append, List.append_nil, List.map_cons, List.map_nil, Array.size_push, Int.toNat_natCast, List.toList_toArray, Nat.min_def, Nat.reduceLeDiff, Nat.reducePow, Int.reducePow, Int.reduceToNat, Int.tdiv_eq_ediv_of_nonneg, Int.tmod_eq_emod_of_nonneg, Int.fdiv_eq_ediv_of_nonneg, Nat.mul_one, Nat.reduceAdd, Nat.zero_add, Nat.add_zero, implies_true, false_implies, true_implies, hlt', hltb', hld, hld2, hq]
        exact ⟨a.length - (i + 1), by omega, i + 1, rfl, by omega, by simp, by rw [hta, htb, heqi, hk]⟩
      · have hd : decide (k = k2) = false := decide_eq_false hk
        rw [hd] at hq
        have hne : decide (a = b) = false := decide_eq_false (hdec hk)
        rw [hne]
        simp (disch := first | omega | assumption) only [C.ref3_same_gos, vs, T.ts, and_true, true_and, List.getElem?_toArray, List.getElem?_cons_zero, List.getElem?_cons_succ, ↓reduceIte, Nat.reduceEqDiff, Option.bind_some, Option.map_some, Option.isSome_some, ne_eq, Bool.not_true, Bool.not_false, Bool.true_eq_false, Bool.false_eq_true, Bool.not_eq_true', Bool.not_eq_false', reduceCtorEq, Option.some.injEq, decide_eq_true_eq, decide_eq_false_iff_not, not_true_eq_false, not_false_eq_true, decide_true, decide_false, List.size_toArray, List.length_cons, List.length_nil, List.cons_append, List.nil_append, List.append_nil, List.map_cons, List.map_nil, Array.size_push, Int.toNat_natCast, List.toList_toArray, Nat.min_def, Nat.reduceLeDiff, Nat.reducePow, Int.reducePow, Int.reduceToNat, Int.tdiv_eq_ediv_of_nonneg, Int.tmod_eq_emod_of_nonneg, Int.fdiv_eq_ediv_of_nonneg, Nat.mul_one, Nat.reduceAdd, Nat.zero_add, Nat.add_zero, implies_true, false_implies, true_implies, hlt', hltb', hld, hld2, hq]
    · have hlt' : ¬ (i : Int) < a.length := by omega
      have e1 : a = b := by
        rw [List.take_of_length_le hge, List.take_of_length_le (by omega)] at heqi
        exact heqi
      have hd : decide (a = b) = true := decide_eq_true e1
      rw [hd]
      simp (disch := first | omega | assumption) only [C.ref3_same_gos, vs, T.ts, and_true, true_and, List.getElem?_toArray, List.getElem?_cons_zero, List.getElem?_cons_succ, ↓reduceIte, Nat.reduceEqDiff, Option.bind_some, Option.map_some, Option.isSome_some, ne_eq, Bool.not_true, Bool.not_false, Bool.true_eq_false, Bool.false_eq_true, Bool.not_eq_true', Bool.not_eq_false', reduceCtorEq, Option.some.injEq, decide_eq_true_eq, decide_eq_false_iff_not, not_true_eq_false, not_false_eq_true, decide_true, decide_false, List.size_toArray, List.length_cons, List.length_nil, List.cons_append, List.nil_append, List.append_nil, List.map_cons, List.map_nil, Array.size_push, Int.toNat_natCast, List.toList_toArray, Nat.min_def, Nat.reduceLeDiff, Nat.reducePow, Int.reducePow, Int.reduceToNat, Int.tdiv_eq_ediv_of_nonneg, Int.tmod_eq_emod_of_nonneg, Int.fdiv_eq_ediv_of_nonneg, Nat.mul_one, Nat.reduceAdd, Nat.zero_add, Nat.add_zero, implies_true, false_implies, true_implies, hlt']
end Go.Proofs.Ythhfbnkmhgadaaa
