/- The reference's types as bytes. -/
import Derived.Test.YthhfbnkmhgadaaaM6
namespace Go.Proofs.Ythhfbnkmhgadaaa
open Go.Vc
set_option maxRecDepth 100000
set_option linter.unusedSimpArgs false
set_option linter.unusedVariables false

section
variable {h : Heap} {p : List Cst} {vp : Value}
theorem ris_any (k tag : Nat) (hs : SlN h 5 vp p.length (flatS p)) :
    HCalls Try.prog 42 #[vp, .int .i64 k, .int .u8 tag] h fun v h' => h' = h ∧ v = .bool (isS p k tag) := by
  refine C.ref1_Is_calls (args := [vp, .int .i64 k, .int .u8 tag]) rfl ?_
  have hs' := hs
  obtain ⟨_, a, c, rfl, _⟩ := hs'
  unfold isS
  by_cases h2 : 0 < k
  · have h2' : (0 : Int) < k := by omega
    by_cases h1 : k < p.length
    · have h1' : (k : Int) < p.length := by omega
      obtain ⟨b, o, c', heq, hrd, _⟩ := hs.at h1
      cases heq
      rw [flatS_at h1] at hrd
      generalize p.getD k Cst.zero = x at *
      have c0 : cellAt h ⟨b, o + k * 5, none⟩ = some (.int .u8 (x.tag : Int)) := hrd 0 _ rfl
      have e : decide ((x.tag : Int) = (tag : Int)) = decide (x.tag = tag) := decide_eq_decide.2 (by omega)
      simp (disch := first | omega | assumption) only [C.ref1_Is_gos, vs, T.ts, and_true, true_and, List.getElem?_toArray, List.getElem?_cons_zero, List.getElem?_cons_succ, ↓reduceIte, Nat.reduceEqDiff, Option.bind_some, Option.map_some, Option.isSome_some, ne_eq, Bool.not_true, Bool.not_false, Bool.true_eq_false, Bool.false_eq_true, Bool.not_eq_true', Bool.not_eq_false', reduceCtorEq, Option.some.injEq, decide_eq_true_eq, decide_eq_false_iff_not, not_true_eq_false, not_false_eq_true, decide_true, decide_false, List.size_toArray, List.length_cons, List.length_nil, List.cons_append, List.nil_append, List.append_nil, List.map_cons, List.map_nil, Array.size_push, Int.toNat_natCast, List.toList_toArray, Nat.min_def, Nat.reduceLeDiff, Nat.reducePow, Int.reducePow, Int.reduceToNat, Int.tdiv_eq_ediv_of_nonneg, Int.tmod_eq_emod_of_nonneg, Int.fdiv_eq_ediv_of_nonneg, Nat.mul_one, Nat.reduceAdd, Nat.zero_add, Nat.add_zero, implies_true, false_implies, true_implies, h1', h2', c0, e]
      simp [h1, h2]
    · have h1' : ¬ (k : Int) < p.length := by omega
      simp (disch := first | omega | assumption) only [C.ref1_Is_gos, vs, T.ts, and_true, true_and, List.getElem?_toArray, List.getElem?_cons_zero, List.getElem?_cons_succ, ↓reduceIte, Nat.reduceEqDiff, Option.bind_some, Option.map_some, Option.isSome_some, ne_eq, Bool.not_true, Bool.not_false, Bool.true_eq_false, Bool.false_eq_true, Bool.not_eq_true', Bool.not_eq_false', reduceCtorEq, Option.some.injEq, decide_eq_true_eq, decide_eq_false_iff_not, not_true_eq_false, not_false_eq_true, decide_true, decide_false, List.size_toArray, List.length_cons, List.length_nil, List.cons_append, List.nil_append, List.append_nil, List.map_cons, List.map_nil, Array.size_push, Int.toNat_natCast, List.toList_toArray, Nat.min_def, Nat.reduceLeDiff, Nat.reducePow, Int.reducePow, Int.reduceToNat, Int.tdiv_eq_ediv_of_nonneg, Int.tmod_eq_emod_of_nonneg, Int.fdiv_eq_ediv_of_nonneg, Nat.mul_one, Nat.reduceAdd, Nat.zero_add, Nat.add_zero, implies_true, false_implies, true_implies, h1', h2']
      simp [h1]
  · have h2' : ¬ (0 : Int) < k := by omega
    simp (disch := first | omega | assumption) only [C.ref1_Is_gos, vs, T.ts, and_true, true_and, List.getElem?_toArray, List.getElem?_cons_zero, List.getElem?_cons_succ, ↓reduceIte, Nat.reduceEqDiff, Option.bind_some, Option.map_some, Option.isSome_some, ne_eq, Bool.not_true, Bool.not_false, Bool.true_eq_false, Bool.false_eq_true, Bool.not_eq_true', Bool.not_eq_false', reduceCtorEq, Option.some.injEq, decide_eq_true_eq, decide_eq_false_iff_not, not_true_eq_false, not_false_eq_true, decide_true, decide_false, List.size_toArray, List.length_cons, List.length_nil, List.cons_append, List.nil_append, List.append_nil, List.map_cons, List.map_nil, Array.size_push, Int.toNat_natCast, List.toList_toArray, Nat.min_def, Nat.reduceLeDiff, Nat.reducePow, Int.reducePow, Int.reduceToNat, Int.tdiv_eq_ediv_of_nonneg, Int.tmod_eq_emod_of_nonneg, Int.fdiv_eq_ediv_of_nonneg, Nat.mul_one, Nat.reduceAdd, Nat.zero_add, Nat.add_zero, implies_true, false_implies, true_implies, h2']
    simp [h2]
theorem rstring_any (k : Nat) (hs : SlN h 5 vp p.length (flatS p)) :
    HCalls Try.prog 48 #[vp, .int .i64 k] h fun v h' => h' = h ∧ v = .tuple #[str (if isS p k 1 = true then (p.getD k Cst.zero).text else []), .bool (isS p k 1)] := by
  refine C.ref1_String_calls (args := [vp, .int .i64 k]) rfl ?_
  simp (disch := first | omega | assumption) only [C.ref1_String_gos, vs, T.ts, and_true, true_and, List.getElem?_toArray, List.getElem?_cons_zero, List.getElem?_cons_succ, ↓reduceIte, Nat.reduceEqDiff, Option.bind_some, Option.map_some, Option.isSome_some, ne_eq, Bool.not_true, Bool.not_false, Bool.true_eq_false, Bool.false_eq_true, Bool.not_eq_true', Bool.not_eq_false', reduceCtorEq, Option.some.injEq, decide_eq_true_eq, decide_eq_false_iff_not, not_true_eq_false, not_false_eq_true, decide_true, decide_false, List.size_toArray, List.length_cons, List.length_nil, List.cons_append, List.nil_append, List.append_nil, List.map_cons, List.map_nil, Array.size_push, Int.toNat_natCast, List.toList_toArray, Nat.min_def, Nat.reduceLeDiff, Nat.reducePow, Int.reducePow, Int.reduceToNat, Int.tdiv_eq_ediv_of_nonneg, Int.tmod_eq_emod_of_nonneg, Int.fdiv_eq_ediv_of_nonneg, Nat.mul_one, Nat.reduceAdd, Nat.zero_add, Nat.add_zero, implies_true, false_implies, true_implies]
  refine eff_call_of ?_
  simp (disch := first | omega | assumption) only [C.ref1_String_gos, vs, T.ts, and_true, true_and, List.getElem?_toArray, List.getElem?_cons_zero, List.getElem?_cons_succ, ↓reduceIte, Nat.reduceEqDiff, Option.bind_some, Option.map_some, Option.isSome_some, ne_eq, Bool.not_true, Bool.not_false, Bool.true_eq_false, Bool.false_eq_true, Bool.not_eq_true', Bool.not_eq_false', reduceCtorEq, Option.some.injEq, decide_eq_true_eq, decide_eq_false_iff_not, not_true_eq_false, not_false_eq_true, decide_true, decide_false, List.size_toArray, List.length_cons, List.length_nil, List.cons_append, List.nil_append, List.append_nil, List.map_cons, List.map_nil, Array.size_push, Int.toNat_natCast, List.toList_toArray, Nat.min_def, Nat.reduceLeDiff, Nat.reducePow, Int.reducePow, Int.reduceToNat, Int.tdiv_eq_ediv_of_nonneg, Int.tmod_eq_emod_of_nonneg, Int.fdiv_eq_ediv_of_nonneg, Nat.mul_one, Nat.reduceAdd, Nat.zero_add, Nat.add_zero, implies_true, false_implies, true_implies]
  refine (ris_any k 1 hs).mono ?_
  rintro v1 h1 ⟨rfl, rfl⟩
  by_cases hi : isS p k 1 = true
  · have h1 : k < p.length := by
      unfold isS at hi
      simp at hi
      exact hi.1
    have h1' : (k : Int) < p.length := by omega
    obtain ⟨b, o, c', rfl, hrd, _⟩ := hs.at h1
    rw [flatS_at h1] at hrd
    rw [if_pos hi, hi]
    generalize p.getD k Cst.zero = x at *
    have c1 : cellAt _ ⟨b, o + k * 5 + 1, none⟩ = some (str x.text) := hrd 1 _ rfl
    simp (disch := first | omega | assumption) only [C.ref1_String_gos, vs, T.ts, and_true, true_and, List.getElem?_toArray, List.getElem?_cons_zero, List.getElem?_cons_succ, ↓reduceIte, Nat.reduceEqDiff, Option.bind_some, Option.map_some, Option.isSome_some, ne_eq, Bool.not_true, Bool.not_false, Bool.true_eq_false, Bool.false_eq_true, Bool.not_eq_true', Bool.not_eq_false', reduceCtorEq, Option.some.injEq, decide_eq_true_eq, decide_eq_false_iff_not, not_true_eq_false, not_false_eq_true, decide_true, decide_false, List.size_toArray, List.length_cons, List.length_nil, List.cons_append, List.nil_append, List.append_nil, List.map_cons, List.map_nil, Array.size_push, Int.toNat_natCast, List.toList_toArray, Nat.min_def, Nat.reduceLeDiff, Nat.reducePow, Int.reducePow, Int.reduceToNat, Int.tdiv_eq_ediv_of_nonneg, Int.tmod_eq_emod_of_nonneg, Int.fdiv_eq_ediv_of_nonneg, Nat.mul_one, Nat.reduceAdd, Nat.zero_add, Nat.add_zero, implies_true, false_implies, true_implies, h1', c1]
  · have hi' : isS p k 1 = false := by simpa using hi
    rw [if_neg hi, hi']
    simp (disch := first | omega | assumption) only [C.ref1_String_gos, vs, T.ts, and_true, true_and, List.getElem?_toArray, List.getElem?_cons_zero, List.getElem?_cons_succ, ↓reduceIte, Nat.reduceEqDiff, Option.bind_some, Option.map_some, Option.isSome_some, ne_eq, Bool.not_true, Bool.not_false, Bool.true_eq_false, Bool.false_eq_true, Bool.not_eq_true', Bool.not_eq_false', reduceCtorEq, Option.some.injEq, decide_eq_true_eq, decide_eq_false_iff_not, not_true_eq_false, not_false_eq_true, decide_true, decide_false, List.size_toArray, List.length_cons, List.length_nil, List.cons_append, List.nil_append, List.append_nil, List.map_cons, List.map_nil, Array.size_push, Int.toNat_natCast, List.toList_toArray, Nat.min_def, Nat.reduceLeDiff, Nat.reducePow, Int.reducePow, Int.reduceToNat, Int.tdiv_eq_ediv_of_nonneg, Int.tmod_eq_emod_of_nonneg, Int.fdiv_eq_ediv_of_nonneg, Nat.mul_one, Nat.reduceAdd, Nat.zero_add, Nat.add_zero, implies_true, false_implies, true_implies]
def clsOfS (p : List Cst) (k : Nat) : List UInt8 × Bool :=
  if isS p k 7 = true then (if isS p (p.getD k Cst.zero).a 1 = true then (p.getD (p.getD k Cst.zero).a Cst.zero).text else [], isS p (p.getD k Cst.zero).a 1) else ([], false)
theorem classOf_any (k : Nat) (hf : ∀ c ∈ p, c.Fit) (hs : SlN h 5 vp p.length (flatS p)) :
    HCalls Try.prog 37 #[vp, .int .i64 k] h fun v h' => h' = h ∧ v = .tuple #[str (clsOfS p k).1, .bool (clsOfS p k).2] := by
  refine C.ref1_ClassOf_calls (args := [vp, .int .i64 k]) rfl ?_
  simp (disch := first | omega | assumption) only [C.ref1_ClassOf_gos, vs, T.ts, and_true, true_and, List.getElem?_toArray, List.getElem?_cons_zero, List.getElem?_cons_succ, ↓reduceIte, Nat.reduceEqDiff, Option.bind_some, Option.map_some, Option.isSome_some, ne_eq, Bool.not_true, Bool.not_false, Bool.true_eq_false, Bool.false_eq_true, Bool.not_eq_true', Bool.not_eq_false', reduceCtorEq, Option.some.injEq, decide_eq_true_eq, decide_eq_false_iff_not, not_true_eq_false, not_false_eq_true, decide_true, decide_false, List.size_toArray, List.length_cons, List.length_nil, List.cons_append, List.nil_append, List.append_nil, List.map_cons, List.map_nil, Array.size_push, Int.toNat_natCast, List.toList_toArray, Nat.min_def, Nat.reduceLeDiff, Nat.reducePow, Int.reducePow, Int.reduceToNat, Int.tdiv_eq_ediv_of_nonneg, Int.tmod_eq_emod_of_nonneg, Int.fdiv_eq_ediv_of_nonneg, Nat.mul_one, Nat.reduceAdd, Nat.zero_add, Nat.add_zero, implies_true, false_implies, true_implies]
  refine eff_call_of ?_
  simp (disch := first | omega | assumption) only [C.ref1_ClassOf_gos, vs, T.ts, and_true, true_and, List.getElem?_toArray, List.getElem?_cons_zero, List.getElem?_cons_succ, ↓reduceIte, Nat.reduceEqDiff, Option.bind_some, Option.map_some, Option.isSome_some, ne_eq, Bool.not_true, Bool.not_false, Bool.true_eq_false, Bool.false_eq_true, Bool.not_eq_true', Bool.not_eq_false', reduceCtorEq, Option.some.injEq, decide_eq_true_eq, decide_eq_false_iff_not, not_true_eq_false, not_false_eq_true, decide_true, decide_false, List.size_toArray, List.length_cons, List.length_nil, List.cons_append, List.nil_append, List.append_nil, List.map_cons, List.map_nil, Array.size_push, Int.toNat_natCast, List.toList_toArray, Nat.min_def, Nat.reduceLeDiff, Nat.reducePow, Int.reducePow, Int.reduceToNat, Int.tdiv_eq_ediv_of_nonneg, Int.tmod_eq_emod_of_nonneg, Int.fdiv_eq_ediv_of_nonneg, Nat.mul_one, Nat.reduceAdd, Nat.zero_add, Nat.add_zero, implies_true, false_implies, true_implies]
  refine (ris_any k 7 hs).mono ?_
  rintro v1 h1 ⟨rfl, rfl⟩
  unfold clsOfS
  by_cases hi : isS p k 7 = true
  · have h1 : k < p.length := by
      unfold isS at hi
      simp at hi
      exact hi.1
    have h1' : (k : Int) < p.length := by omega
    have hs' := hs
    obtain ⟨b, o, c', rfl, hrd, _⟩ := hs'.at h1
    rw [flatS_at h1] at hrd
    have hfa : (p.getD k Cst.zero).a < 65536 := (hf _ (by simp [h1])).a
    rw [if_pos hi, hi]
    generalize p.getD k Cst.zero = x at *
    have c3 : cellAt _ ⟨b, o + k * 5 + 3, none⟩ = some (.int .u16 (x.a : Int)) := hrd 3 _ rfl
    have hw : IntKind.i64.wrap (x.a : Int) = (x.a : Int) := wrap_i64 (by omega) (by omega)
    simp (disch := first | omega | assumption) only [C.ref1_ClassOf_gos, vs, T.ts, and_true, true_and, List.getElem?_toArray, List.getElem?_cons_zero, List.getElem?_cons_succ, ↓reduceIte, Nat.reduceEqDiff, Option.bind_some, Option.map_some, Option.isSome_some, ne_eq, Bool.not_true, Bool.not_false, Bool.true_eq_false, Bool.false_eq_true, Bool.not_eq_true', Bool.not_eq_false', reduceCtorEq, Option.some.injEq, decide_eq_true_eq, decide_eq_false_iff_not, not_true_eq_false, not_false_eq_true, decide_true, decide_false, List.size_toArray, List.length_cons, List.length_nil, List.cons_append, List.nil_append, List.append_nil, List.map_cons, List.map_nil, Array.size_push, Int.toNat_natCast, List.toList_toArray, Nat.min_def, Nat.reduceLeDiff, Nat.reducePow, Int.reducePow, Int.reduceToNat, Int.tdiv_eq_ediv_of_nonneg, Int.tmod_eq_emod_of_nonneg, Int.fdiv_eq_ediv_of_nonneg, Nat.mul_one, Nat.reduceAdd, Nat.zero_add, Nat.add_zero, implies_true, false_implies, true_implies, h1', c3, hw]
    refine eff_call_of ?_
    simp (disch := first | omega | assumption) only [C.ref1_ClassOf_gos, vs, T.ts, and_true, true_and, List.getElem?_toArray, List.getElem?_cons_zero, List.getElem?_cons_succ, ↓reduceIte, Nat.reduceEqDiff, Option.bind_some, Option.map_some, Option.isSome_some, ne_eq, Bool.not_true, Bool.not_false, Bool.true_eq_false, Bool.false_eq_true, Bool.not_eq_true', Bool.not_eq_false', reduceCtorEq, Option.some.injEq, decide_eq_true_eq, decide_eq_false_iff_not, not_true_eq_false, not_false_eq_true, decide_true, decide_false, List.size_toArray, List.length_cons, List.length_nil, List.cons_append, List.nil_append, List.append_nil, List.map_cons, List.map_nil, Array.size_push, Int.toNat_natCast, List.toList_toArray, Nat.min_def, Nat.reduceLeDiff, Nat.reducePow, Int.reducePow, Int.reduceToNat, Int.tdiv_eq_ediv_of_nonneg, Int.tmod_eq_emod_of_nonneg, Int.fdiv_eq_ediv_of_nonneg, Nat.mul_one, Nat.reduceAdd, Nat.zero_add, Nat.add_zero, implies_true, false_implies, true_implies]
    refine (rstring_any x.a hs).mono ?_
    rintro v2 h2 ⟨rfl, rfl⟩
    simp (disch := first | omega | assumption) only [C.ref1_ClassOf_gos, vs, T.ts, and_true, true_and, List.getElem?_toArray, List.getElem?_cons_zero, List.getElem?_cons_succ, ↓reduceIte, Nat.reduceEqDiff, Option.bind_some, Option.map_some, Option.isSome_some, ne_eq, Bool.not_true, Bool.not_false, Bool.true_eq_false, Bool.false_eq_true, Bool.not_eq_true', Bool.not_eq_false', reduceCtorEq, Option.some.injEq, decide_eq_true_eq, decide_eq_false_iff_not, not_true_eq_false, not_false_eq_true, decide_true, decide_false, List.size_toArray, List.length_cons, List.length_nil, List.cons_append, List.nil_append, List.append_nil, List.map_cons, List.map_nil, Array.size_push, Int.toNat_natCast, List.toList_toArray, Nat.min_def, Nat.reduceLeDiff, Nat.reducePow, Int.reducePow, Int.reduceToNat, Int.tdiv_eq_ediv_of_nonneg, Int.tmod_eq_emod_of_nonneg, Int.fdiv_eq_ediv_of_nonneg, Nat.mul_one, Nat.reduceAdd, Nat.zero_add, Nat.add_zero, implies_true, false_implies, true_implies]
  · have hi' : isS p k 7 = false := by simpa using hi
    rw [if_neg hi, hi']
    simp (disch := first | omega | assumption) only [C.ref1_ClassOf_gos, vs, T.ts, and_true, true_and, List.getElem?_toArray, List.getElem?_cons_zero, List.getElem?_cons_succ, ↓reduceIte, Nat.reduceEqDiff, Option.bind_some, Option.map_some, Option.isSome_some, ne_eq, Bool.not_true, Bool.not_false, Bool.true_eq_false, Bool.false_eq_true, Bool.not_eq_true', Bool.not_eq_false', reduceCtorEq, Option.some.injEq, decide_eq_true_eq, decide_eq_false_iff_not, not_true_eq_false, not_false_eq_true, decide_true, decide_false, List.size_toArray, List.length_cons, List.length_nil, List.cons_append, List.nil_append, List.append_nil, List.map_cons, List.map_nil, Array.size_push, Int.toNat_natCast, List.toList_toArray, Nat.min_def, Nat.reduceLeDiff, Nat.reducePow, Int.reducePow, Int.reduceToNat, Int.tdiv_eq_ediv_of_nonneg, Int.tmod_eq_emod_of_nonneg, Int.fdiv_eq_ediv_of_nonneg, Nat.mul_one, Nat.reduceAdd, Nat.zero_add, Nat.add_zero, implies_true, false_implies, true_implies]
end

def lowF (p : List Cst) (name : List UInt8) (k : Nat) : Nat := match (p.drop (k + 1)).findIdx? (hitS p name) with | some i => i + k + 1 | none => 0
theorem lowF_zero (p : List Cst) (name : List UInt8) : lowF p name 0 = clsS p name := by
  unfold lowF clsS
  rw [Nat.zero_add]
  cases (p.drop 1).findIdx? (hitS p name) <;> rfl
theorem lowF_top (p : List Cst) (name : List UInt8) {k : Nat} (h : p.length ≤ k + 1) : lowF p name k = 0 := by
  unfold lowF
  rw [List.drop_eq_nil_iff.2 h]; rfl
theorem lowF_step (p : List Cst) (name : List UInt8) {k : Nat} (h : k + 1 < p.length) : lowF p name k = if (clsOfS p (k + 1)).2 = true ∧ (clsOfS p (k + 1)).1 = name then k + 1 else lowF p name (k + 1) := by
  have hd : p.drop (k + 1) = p.getD (k + 1) Cst.zero :: p.drop (k + 1 + 1) := by rw [List.drop_eq_getElem_cons h]; simp [h]
  have hi : isS p (k + 1) 7 = decide ((p.getD (k + 1) Cst.zero).tag = 7) := by
    unfold isS
    simp [h]
  have hh : hitS p name (p.getD (k + 1) Cst.zero) = true ↔ ((clsOfS p (k + 1)).2 = true ∧ (clsOfS p (k + 1)).1 = name) := by
    unfold hitS clsOfS
    rw [hi]
    generalize p.getD (k + 1) Cst.zero = x
    by_cases h7 : x.tag = 7
    · simp only [h7, decide_true, Bool.true_and, if_true]
      by_cases h1 : isS p x.a 1 = true
      · simp [h1]
      · have h1' : isS p x.a 1 = false := by simpa using h1
        simp [h1']
    · simp [h7]
  unfold lowF
  rw [hd, List.findIdx?_cons]
  by_cases hx : hitS p name (p.getD (k + 1) Cst.zero) = true
  · rw [if_pos hx, if_pos (hh.1 hx)]
    simp
  · rw [if_neg hx, if_neg (fun hn => hx (hh.2 hn))]
    cases (p.drop (k + 1 + 1)).findIdx? (hitS p name) with
    | none => rfl
    | some i => simp only [Option.map_some]; omega

set_option maxHeartbeats 4000000 in
theorem told_any (l : List VT) (p : List Cst) (vl vp : Value) (h : Heap) (hl : SlN h 3 vl l.length (flatV l)) (hlf : ∀ v ∈ l, v.Fit) (hll : l.length ≤ 1099511627776) (hp : SlN h 5 vp p.length (flatS p)) (hpf : ∀ c ∈ p, c.Fit) (hpl : p.length ≤ 1099511627776) :
    HCalls Try.prog 19 #[vl, vp] h fun r h' => Ext h h' ∧ r = .tuple #[str (valsS p l).1, .int .i64 ((valsS p l).2 : Int)] := by
  refine C.ref3_told_calls (args := [vl, vp]) rfl ?_
  have hl' := hl
  have hp' := hp
  obtain ⟨_, a, c, rfl, _⟩ := hl'
  obtain ⟨_, ap, cp, rfl, _⟩ := hp'
  simp (disch := first | omega | assumption) only [C.ref3_told_gos, vs, T.ts, and_true, true_and, List.getElem?_toArray, List.getElem?_cons_zero, List.getElem?_cons_succ, ↓reduceIte, Nat.reduceEqDiff, Option.bind_some, Option.map_some, Option.isSome_some, ne_eq, Bool.not_true, Bool.not_false, Bool.true_eq_false, Bool.false_eq_true, Bool.not_eq_true', Bool.not_eq_false', reduceCtorEq, Option.some.injEq, decide_eq_true_eq, decide_eq_false_iff_not, not_true_eq_false, not_false_eq_true, decide_true, decide_false, List.size_toArray, List.length_cons, List.length_nil, List.cons_append, List.nil_append, List.append_nil, List.map_cons, List.map_nil, Array.size_push, Int.toNat_natCast, List.toList_toArray, Nat.min_def, Nat.reduceLeDiff, Nat.reducePow, Int.reducePow, Int.reduceToNat, Int.tdiv_eq_ediv_of_nonneg, Int.tmod_eq_emod_of_nonneg, Int.fdiv_eq_ediv_of_nonneg, Nat.mul_one, Nat.reduceAdd, Nat.zero_add, Nat.add_zero, implies_true, false_implies, true_implies]
  refine eff_lits T.slT_43 rfl rfl (by decide) ?_
  have own0 : Own (h.push (.cells ([] : List Value).toArray 5 (0, 0))) h.size 5 1 (.slice (some ⟨h.size, 0, none⟩) 0 0) 0 (bytesV []) := Own.new rfl (Nat.zero_le _) (Nat.le_refl _)
  have ext0 : Ext h (h.push (.cells ([] : List Value).toArray 5)) := Ext.push _ _
  simp (disch := first | omega | assumption) only [C.ref3_told_gos, vs, T.ts, and_true, true_and, List.getElem?_toArray, List.getElem?_cons_zero, List.getElem?_cons_succ, ↓reduceIte, Nat.reduceEqDiff, Option.bind_some, Option.map_some, Option.isSome_some, ne_eq, Bool.not_true, Bool.not_false, Bool.true_eq_false, Bool.false_eq_true, Bool.not_eq_true', Bool.not_eq_false', reduceCtorEq, Option.some.injEq, decide_eq_true_eq, decide_eq_false_iff_not, not_true_eq_false, not_false_eq_true, decide_true, decide_false, List.size_toArray, List.length_cons, List.length_nil, List.cons_append, List.nil_append, List.append_nil, List.map_cons, List.map_nil, Array.size_push, Int.toNat_natCast, List.toList_toArray, Nat.min_def, Nat.reduceLeDiff, Nat.reducePow, Int.reducePow, Int.reduceToNat, Int.tdiv_eq_ediv_of_nonneg, Int.tmod_eq_emod_of_nonneg, Int.fdiv_eq_ediv_of_nonneg, Nat.mul_one, Nat.reduceAdd, Nat.zero_add, Nat.add_zero, implies_true, false_implies, true_implies]
  refine loop_intro [1, 6, 7, 16, 17, 18] (fun m ρ hc => ∃ (i : Nat) (sv : Value), m = l.length - i ∧ i ≤ l.length ∧
      ρ = [(1, .slice ap p.length cp), (6, sv), (7, .int .i64 (valsS p (l.take i)).2), (16, .slice a l.length c), (17, .int .i64 l.length), (18, .int .i64 i)] ∧
      Own hc h.size 5 1 sv (valsS p (l.take i)).1.length (bytesV (valsS p (l.take i)).1) ∧ Ext h hc) ?_ ?_
  · simp (disch := first | omega | assumption) only [C.ref3_told_gos, vs, T.ts, and_true, true_and, List.getElem?_toArray, List.getElem?_cons_zero, List.getElem?_cons_succ, ↓reduceIte, Nat.reduceEqDiff, Option.bind_some, Option.map_some, Option.isSome_some, ne_eq, Bool.not_true, Bool.not_false, Bool.true_eq_false, Bool.false_eq_true, Bool.not_eq_true', Bool.not_eq_false', reduceCtorEq, Option.some.injEq, decide_eq_true_eq, decide_eq_false_iff_not, not_true_eq_false, not_false_eq_true, decide_true, decide_false, List.size_toArray, List.length_cons, List.length_nil, List.cons_append, List.nil_append, List.append_nil, List.map_cons, List.map_nil, Array.size_push, Int.toNat_natCast, List.toList_toArray, Nat.min_def, Nat.reduceLeDiff, Nat.reducePow, Int.reducePow, Int.reduceToNat, Int.tdiv_eq_ediv_of_nonneg, Int.tmod_eq_emod_of_nonneg, Int.fdiv_eq_ediv_of_nonneg, Nat.mul_one, Nat.reduceAdd, Nat.zero_add, Nat.add_zero, implies_true, false_implies, true_implies]
    exact ⟨_, 0, _, rfl, Nat.zero_le _, rfl, own0, ext0⟩
  rintro m ρ hc ⟨i, sv, rfl, hi, rfl, hown, hx⟩
  rcases Nat.lt_or_ge i l.length with hlt | hge
  case inr =>
    have hlt' : ¬ (i : Int) < l.length := by omega
    have hin : l.take i = l := List.take_of_length_le hge
    rw [hin] at hown ⊢
    simp (disch := first | omega | assumption) only [C.ref3_told_gos, vs, T.ts, and_true, true_and, List.getElem?_toArray, List.getElem?_cons_zero, List.getElem?_cons_succ, ↓reduceIte, Nat.reduceEqDiff, Option.bind_some, Option.map_some, Option.isSome_some, ne_eq, Bool.not_true, Bool.not_false, Bool.true_eq_false, Bool.false_eq_true, Bool.not_eq_true', Bool.not_eq_false', reduceCtorEq, Option.some.injEq, decide_eq_true_eq, decide_eq_false_iff_not, not_true_eq_false, not_false_eq_true, decide_true, decide_false, List.size_toArray, List.length_cons, List.length_nil, List.cons_append, List.nil_append, List.append_nil, List.map_cons, List.map_nil, Array.size_push, Int.toNat_natCast, List.toList_toArray, Nat.min_def, Nat.reduceLeDiff, Nat.reducePow, Int.reducePow, Int.reduceToNat, Int.tdiv_eq_ediv_of_nonneg, Int.tmod_eq_emod_of_nonneg, Int.fdiv_eq_ediv_of_nonneg, Nat.mul_one, Nat.reduceAdd, Nat.zero_add, Nat.add_zero, implies_true, false_implies, true_implies, hlt', T.cvo_43_9 hown]
    exact hx
  have hlt' : (i : Int) < l.length := by omega
  have hbl := valsS_len p (l.take i)
  have htl : (l.take i).length = i := by simp; omega
  rw [htl] at hbl
  obtain ⟨bb, o, c', heq, hrd, _⟩ := (hl.ext (by decide) hx).at hlt
  cases heq
  rw [flatV_at hlt] at hrd
  have hfit : (l.getD i VT.zero).Fit := hlf _ (by simp [hlt])
  have hst := take_snoc hlt
  have hfin : ∀ (h' : Heap) (sv' : Value) (i0 : Nat) (e' : Nat), i0 = i → e' = thenE (valsS p (l.take i)).2 (valS p (l.getD i VT.zero)).2 →
      Own h' h.size 5 1 sv' ((valsS p (l.take i)).1 ++ (valS p (l.getD i VT.zero)).1).length (bytesV ((valsS p (l.take i)).1 ++ (valS p (l.getD i VT.zero)).1)) → Ext h h' →
      ∃ m', m' < l.length - i ∧ ∃ (i : Nat) (sv : Value), m' = l.length - i ∧ i ≤ l.length ∧
      [(1, .slice ap p.length cp), (6, sv'), (7, .int .i64 (e' : Int)), (16, .slice (some ⟨bb, o, none⟩) l.length c), (17, .int .i64 l.length), (18, .int .i64 ((i0 : Int) + 1))] =
      [(1, .slice ap p.length cp), (6, sv), (7, .int .i64 (valsS p (l.take i)).2), (16, .slice (some ⟨bb, o, none⟩) l.length c), (17, .int .i64 l.length), (18, .int .i64 i)] ∧
      Own h' h.size 5 1 sv (valsS p (l.take i)).1.length (bytesV (valsS p (l.take i)).1) ∧ Ext h h' := by
    intro h' sv' i0 e' hi0 he ho hx'
    subst hi0 he
    refine ⟨_, ?_, i0 + 1, sv', rfl, by omega, ?_, ?_, hx'⟩
    · omega
    · rw [hst, valsS_snoc]; rfl
    · rw [hst, valsS_snoc]; exact ho
  generalize (valsS p (l.take i)).1 = pre at *
  generalize (valsS p (l.take i)).2 = e1 at *
  generalize l.getD i VT.zero = k at *
  obtain ⟨tag, name, at'⟩ := k
  have hld := ld_agg T.ag_35 hrd rfl
  simp only [VT.cells] at hld hrd
  simp (disch := first | omega | assumption) only [C.ref3_told_gos, vs, T.ts, and_true, true_and, List.getElem?_toArray, List.getElem?_cons_zero, List.getElem?_cons_succ, ↓reduceIte, Nat.reduceEqDiff, Option.bind_some, Option.map_some, Option.isSome_some, ne_eq, Bool.not_true, Bool.not_false, Bool.true_eq_false, Bool.false_eq_true, Bool.not_eq_true', Bool.not_eq_false', reduceCtorEq, Option.some.injEq, decide_eq_true_eq, decide_eq_false_iff_not, not_true_eq_false, not_false_eq_true, decide_true, decide_false, List.size_toArray, List.length_cons, List.length_nil, List.cons_append, List.nil_append, List.append_nil, List.map_cons, List.map_nil, Array.size_push, Int.toNat_natCast, List.toList_toArray, Nat.min_def, Nat.reduceLeDiff, Nat.reducePow, Int.reducePow, Int.reduceToNat, Int.tdiv_eq_ediv_of_nonneg, Int.tmod_eq_emod_of_nonneg, Int.fdiv_eq_ediv_of_nonneg, Nat.mul_one, Nat.reduceAdd, Nat.zero_add, Nat.add_zero, implies_true, false_implies, true_implies, hlt', hld]
  refine eff_alloc_z T.zr_35 ?_
  simp (disch := first | omega | assumption) only [C.ref3_told_gos, vs, T.ts, and_true, true_and, List.getElem?_toArray, List.getElem?_cons_zero, List.getElem?_cons_succ, ↓reduceIte, Nat.reduceEqDiff, Option.bind_some, Option.map_some, Option.isSome_some, ne_eq, Bool.not_true, Bool.not_false, Bool.true_eq_false, Bool.false_eq_true, Bool.not_eq_true', Bool.not_eq_false', reduceCtorEq, Option.some.injEq, decide_eq_true_eq, decide_eq_false_iff_not, not_true_eq_false, not_false_eq_true, decide_true, decide_false, List.size_toArray, List.length_cons, List.length_nil, List.cons_append, List.nil_append, List.append_nil, List.map_cons, List.map_nil, Array.size_push, Int.toNat_natCast, List.toList_toArray, Nat.min_def, Nat.reduceLeDiff, Nat.reducePow, Int.reducePow, Int.reduceToNat, Int.tdiv_eq_ediv_of_nonneg, Int.tmod_eq_emod_of_nonneg, Int.fdiv_eq_ediv_of_nonneg, Nat.mul_one, Nat.reduceAdd, Nat.zero_add, Nat.add_zero, implies_true, false_implies, true_implies]
  refine eff_store_new_z T.zr_35 rfl rfl rfl (by simp [Value.cells, oneCell, str]) rfl ?_
  intro h3 x3 hlt3 hrd3 b3
  change h3[hc.size]? = some (.cells #[.int .u8 (tag : Int), str name, .int .i64 at'] 35 (0, 0)) at b3
  have c0 : cellAt h3 ⟨hc.size, 0, none⟩ = some (.int .u8 (tag : Int)) := hrd3 0 _ rfl
  have hx3 := hx.trans x3
  have own3 := hown.ext x3
  clear hld hrd hrd3 hown
  generalize hc.size = q at *
  have htag : tag < 256 := hfit.tag
  simp (disch := first | omega | assumption) only [C.ref3_told_gos, vs, T.ts, and_true, true_and, List.getElem?_toArray, List.getElem?_cons_zero, List.getElem?_cons_succ, ↓reduceIte, Nat.reduceEqDiff, Option.bind_some, Option.map_some, Option.isSome_some, ne_eq, Bool.not_true, Bool.not_false, Bool.true_eq_false, Bool.false_eq_true, Bool.not_eq_true', Bool.not_eq_false', reduceCtorEq, Option.some.injEq, decide_eq_true_eq, decide_eq_false_iff_not, not_true_eq_false, not_false_eq_true, decide_true, decide_false, List.size_toArray, List.length_cons, List.length_nil, List.cons_append, List.nil_append, List.append_nil, List.map_cons, List.map_nil, Array.size_push, Int.toNat_natCast, List.toList_toArray, Nat.min_def, Nat.reduceLeDiff, Nat.reducePow, Int.reducePow, Int.reduceToNat, Int.tdiv_eq_ediv_of_nonneg, Int.tmod_eq_emod_of_nonneg, Int.fdiv_eq_ediv_of_nonneg, Nat.mul_one, Nat.reduceAdd, Nat.zero_add, Nat.add_zero, implies_true, false_implies, true_implies, c0]
  refine eff_lits T.slT_43 rfl rfl (by decide) ?_
  simp (disch := first | omega | assumption) only [C.ref3_told_gos, vs, T.ts, and_true, true_and, List.getElem?_toArray, List.getElem?_cons_zero, List.getElem?_cons_succ, ↓reduceIte, Nat.reduceEqDiff, Option.bind_some, Option.map_some, Option.isSome_some, ne_eq, Bool.not_true, Bool.not_false, Bool.true_eq_false, Bool.false_eq_true, Bool.not_eq_true', Bool.not_eq_false', reduceCtorEq, Option.some.injEq, decide_eq_true_eq, decide_eq_false_iff_not, not_true_eq_false, not_false_eq_true, decide_true, decide_false, List.size_toArray, List.length_cons, List.length_nil, List.cons_append, List.nil_append, List.append_nil, List.map_cons, List.map_nil, Array.size_push, Int.toNat_natCast, List.toList_toArray, Nat.min_def, Nat.reduceLeDiff, Nat.reducePow, Int.reducePow, Int.reduceToNat, Int.tdiv_eq_ediv_of_nonneg, Int.tmod_eq_emod_of_nonneg, Int.fdiv_eq_ediv_of_nonneg, Nat.mul_one, Nat.reduceAdd, Nat.zero_add, Nat.add_zero, implies_true, false_implies, true_implies]
  refine eff_append_own (m := 1) T.slT_43 rfl rfl (own3.push _) rfl (Rd_new (vs := [.int .u8 (tag : Int)])) (by simp [oneCell]) (by omega) (by omega) (by have := hx3.size; simp; omega) ?_
  intro v4 h4 own4 fr4 _
  have hx4 : Ext h h4 := Ext.app (hx3.trans (Ext.push _ _)) fr4 (fun k hk => (own3.lt k hk).1)
  have b4 := Fr_blk fr4 (push_blk b3) (Own_ne own3 b3 (by decide))
  have d0 : cellAt h4 ⟨q, 0, none⟩ = some (.int .u8 (tag : Int)) := by rw [cellAt_of b4]; rfl
  have d1 : cellAt h4 ⟨q, 1, none⟩ = some (str name) := by rw [cellAt_of b4]; rfl
  have d2 : cellAt h4 ⟨q, 2, none⟩ = some (.int .i64 at') := by rw [cellAt_of b4]; rfl
  have htb : UInt8.ofNat tag = UInt8.ofNat tag := rfl
  have own4' : Own h4 h.size 5 1 v4 (pre ++ [UInt8.ofNat tag]).length (bytesV (pre ++ [UInt8.ofNat tag])) := Own_cast own4 (by simp) (by simp [bytesV]; omega)
  clear own4
  by_cases h8 : 8 < tag
  · have h8' : (8 : Int) < tag := by omega
    have t7 : ¬ tag = 7 := by omega
    have t8 : ¬ tag = 8 := by omega
    have hv : valS p ⟨tag, name, at'⟩ = ([UInt8.ofNat tag], 17) := by simp [valS, t7, t8, h8]
    rw [hv] at hfin
    by_cases he : e1 = 0
    · have he' : (e1 : Int) = 0 := by omega
      simp (disch := first | omega | assumption) only [C.ref3_told_gos, vs, T.ts, and_true, true_and, List.getElem?_toArray, List.getElem?_cons_zero, List.getElem?_cons_succ, ↓reduceIte, Nat.reduceEqDiff, Option.bind_some, Option.map_some, Option.isSome_some, ne_eq, Bool.not_true, Bool.not_false, Bool.true_eq_false, Bool.false_eq_true, Bool.not_eq_true', Bool.not_eq_false', reduceCtorEq, Option.some.injEq, decide_eq_true_eq, decide_eq_false_iff_not, not_true_eq_false, not_false_eq_true, decide_true, decide_false, List.size_toArray, List.length_cons, List.length_nil, List.cons_append, List.nil_append, List.append_nil, List.map_cons, List.map_nil, Array.size_push, Int.toNat_natCast, List.toList_toArray, Nat.min_def, Nat.reduceLeDiff, Nat.reducePow, Int.reducePow, Int.reduceToNat, Int.tdiv_eq_ediv_of_nonneg, Int.tmod_eq_emod_of_nonneg, Int.fdiv_eq_ediv_of_nonneg, Nat.mul_one, Nat.reduceAdd, Nat.zero_add, Nat.add_zero, implies_true, false_implies, true_implies, d0, h8', eq_true he']
      exact hfin h4 v4 i 17 rfl (by simp [thenE, he]) own4' hx4
    · have he' : ¬ (e1 : Int) = 0 := by omega
      simp (disch := first | omega | assumption) only [C.ref3_told_gos, vs, T.ts, and_true, true_and, List.getElem?_toArray, List.getElem?_cons_zero, List.getElem?_cons_succ, ↓reduceIte, Nat.reduceEqDiff, Option.bind_some, Option.map_some, Option.isSome_some, ne_eq, Bool.not_true, Bool.not_false, Bool.true_eq_false, Bool.false_eq_true, Bool.not_eq_true', Bool.not_eq_false', reduceCtorEq, Option.some.injEq, decide_eq_true_eq, decide_eq_false_iff_not, not_true_eq_false, not_false_eq_true, decide_true, decide_false, List.size_toArray, List.length_cons, List.length_nil, List.cons_append, List.nil_append, List.append_nil, List.map_cons, List.map_nil, Array.size_push, Int.toNat_natCast, List.toList_toArray, Nat.min_def, Nat.reduceLeDiff, Nat.reducePow, Int.reducePow, Int.reduceToNat, Int.tdiv_eq_ediv_of_nonneg, Int.tmod_eq_emod_of_nonneg, Int.fdiv_eq_ediv_of_nonneg, Nat.mul_one, Nat.reduceAdd, Nat.zero_add, Nat.add_zero, implies_true, false_implies, true_implies, d0, h8', eq_false he']
      exact hfin h4 v4 i e1 rfl (by simp [thenE, he]) own4' hx4
  have h8' : ¬ (8 : Int) < tag := by omega
  by_cases t8 : tag = 8
  · subst t8
    rw [show ((8 : Nat) : Int) = 8 from rfl] at d0 b4
    obtain ⟨hwx, hltx⟩ := atU_wrap at'
    by_cases hneg : at' < 0 ∨ 65535 < at'
    · have hv : valS p ⟨8, name, at'⟩ = (UInt8.ofNat 8 :: bigS (atU at') 2, 17) := by
        show (_, if at' < 0 ∨ 65535 < at' then 17 else 0) = _
        rw [if_pos hneg]
      rw [hv] at hfin
      have hpick : at' < 0 ∨ (¬ at' < 0 ∧ 65535 < at') := by omega
      rcases hpick with hn | ⟨hn, hn2⟩
      case' inl =>
        simp (disch := first | omega | assumption) only [C.ref3_told_gos, vs, T.ts, and_true, true_and, List.getElem?_toArray, List.getElem?_cons_zero, List.getElem?_cons_succ, ↓reduceIte, Nat.reduceEqDiff, Option.bind_some, Option.map_some, Option.isSome_some, ne_eq, Bool.not_true, Bool.not_false, Bool.true_eq_false, Bool.false_eq_true, Bool.not_eq_true', Bool.not_eq_false', reduceCtorEq, Option.some.injEq, decide_eq_true_eq, decide_eq_false_iff_not, not_true_eq_false, not_false_eq_true, decide_true, decide_false, List.size_toArray, List.length_cons, List.length_nil, List.cons_append, List.nil_append, List.append_nil, List.map_cons, List.map_nil, Array.size_push, Int.toNat_natCast, List.toList_toArray, Nat.min_def, Nat.reduceLeDiff, Nat.reducePow, Int.reducePow, Int.reduceToNat, Int.tdiv_eq_ediv_of_nonneg, Int.tmod_eq_emod_of_nonneg, Int.fdiv_eq_ediv_of_nonneg, Nat.mul_one, Nat.reduceAdd, Nat.zero_add, Nat.add_zero, implies_true, false_implies, true_implies, d0, d2, Int.reduceEq, Int.reduceLT, hn, hwx, decide_true, decide_false]
      case' inr =>
        simp (disch := first | omega | assumption) only [C.ref3_told_gos, vs, T.ts, and_true, true_and, List.getElem?_toArray, List.getElem?_cons_zero, List.getElem?_cons_succ, ↓reduceIte, Nat.reduceEqDiff, Option.bind_some, Option.map_some, Option.isSome_some, ne_eq, Bool.not_true, Bool.not_false, Bool.true_eq_false, Bool.false_eq_true, Bool.not_eq_true', Bool.not_eq_false', reduceCtorEq, Option.some.injEq, decide_eq_true_eq, decide_eq_false_iff_not, not_true_eq_false, not_false_eq_true, decide_true, decide_false, List.size_toArray, List.length_cons, List.length_nil, List.cons_append, List.nil_append, List.append_nil, List.map_cons, List.map_nil, Array.size_push, Int.toNat_natCast, List.toList_toArray, Nat.min_def, Nat.reduceLeDiff, Nat.reducePow, Int.reducePow, Int.reduceToNat, Int.tdiv_eq_ediv_of_nonneg, Int.tmod_eq_emod_of_nonneg, Int.fdiv_eq_ediv_of_nonneg, Nat.mul_one, Nat.reduceAdd, Nat.zero_add, Nat.add_zero, implies_true, false_implies, true_implies, d0, d2, Int.reduceEq, Int.reduceLT, hn, hn2, hwx, decide_true, decide_false]
      all_goals
        refine eff_call_of ?_
        simp (disch := first | omega | assumption) only [C.ref3_told_gos, vs, T.ts, and_true, true_and, List.getElem?_toArray, List.getElem?_cons_zero, List.getElem?_cons_succ, ↓reduceIte, Nat.reduceEqDiff, Option.bind_some, Option.map_some, Option.isSome_some, ne_eq, Bool.not_true, Bool.not_false, Bool.true_eq_false, Bool.false_eq_true, Bool.not_eq_true', Bool.not_eq_false', reduceCtorEq, Option.some.injEq, decide_eq_true_eq, decide_eq_false_iff_not, not_true_eq_false, not_false_eq_true, decide_true, decide_false, List.size_toArray, List.length_cons, List.length_nil, List.cons_append, List.nil_append, List.append_nil, List.map_cons, List.map_nil, Array.size_push, Int.toNat_natCast, List.toList_toArray, Nat.min_def, Nat.reduceLeDiff, Nat.reducePow, Int.reducePow, Int.reduceToNat, Int.tdiv_eq_ediv_of_nonneg, Int.tmod_eq_emod_of_nonneg, Int.fdiv_eq_ediv_of_nonneg, Nat.mul_one, Nat.reduceAdd, Nat.zero_add, Nat.add_zero, implies_true, false_implies, true_implies]
        refine (rbig_any (atU at') 2 h4 (hltx) (by omega)).mono ?_
        rintro v5 h5 ⟨x5, rfl⟩
        simp (disch := first | omega | assumption) only [C.ref3_told_gos, vs, T.ts, and_true, true_and, List.getElem?_toArray, List.getElem?_cons_zero, List.getElem?_cons_succ, ↓reduceIte, Nat.reduceEqDiff, Option.bind_some, Option.map_some, Option.isSome_some, ne_eq, Bool.not_true, Bool.not_false, Bool.true_eq_false, Bool.false_eq_true, Bool.not_eq_true', Bool.not_eq_false', reduceCtorEq, Option.some.injEq, decide_eq_true_eq, decide_eq_false_iff_not, not_true_eq_false, not_false_eq_true, decide_true, decide_false, List.size_toArray, List.length_cons, List.length_nil, List.cons_append, List.nil_append, List.append_nil, List.map_cons, List.map_nil, Array.size_push, Int.toNat_natCast, List.toList_toArray, Nat.min_def, Nat.reduceLeDiff, Nat.reducePow, Int.reducePow, Int.reduceToNat, Int.tdiv_eq_ediv_of_nonneg, Int.tmod_eq_emod_of_nonneg, Int.fdiv_eq_ediv_of_nonneg, Nat.mul_one, Nat.reduceAdd, Nat.zero_add, Nat.add_zero, implies_true, false_implies, true_implies]
        have own5 := own4'.ext x5
        have hx5 := hx4.trans x5
        refine eff_append_str (l := bigS (atU at') 2) T.slT_43 Try.underlying9 rfl rfl own5 (by simp only [List.length_append, List.length_singleton, bigS_len]; omega) (by simp only [List.length_append, List.length_singleton, bigS_len]; omega) hx5.size ?_
        intro v6 h6 own6 fr6
        have hx6 : Ext h h6 := Ext.app hx5 fr6 (fun k hk => (own5.lt k hk).1)
        have own6' : Own h6 h.size 5 1 v6 (pre ++ UInt8.ofNat 8 :: bigS (atU at') 2).length (bytesV (pre ++ UInt8.ofNat 8 :: bigS (atU at') 2)) := Own_cast own6 (by simp [bigS_len] <;> omega) (by simp [bytesV])
        by_cases he : e1 = 0
        · have he' : (e1 : Int) = 0 := by omega
          simp (disch := first | omega | assumption) only [C.ref3_told_gos, vs, T.ts, and_true, true_and, List.getElem?_toArray, List.getElem?_cons_zero, List.getElem?_cons_succ, ↓reduceIte, Nat.reduceEqDiff, Option.bind_some, Option.map_some, Option.isSome_some, ne_eq, Bool.not_true, Bool.not_false, Bool.true_eq_false, Bool.false_eq_true, Bool.not_eq_true', Bool.not_eq_false', reduceCtorEq, Option.some.injEq, decide_eq_true_eq, decide_eq_false_iff_not, not_true_eq_false, not_false_eq_true, decide_true, decide_false, List.size_toArray, List.length_cons, List.length_nil, List.cons_append, List.nil_append, List.append_nil, List.map_cons, List.map_nil, Array.size_push, Int.toNat_natCast, List.toList_toArray, Nat.min_def, Nat.reduceLeDiff, Nat.reducePow, Int.reducePow, Int.reduceToNat, Int.tdiv_eq_ediv_of_nonneg, Int.tmod_eq_emod_of_nonneg, Int.fdiv_eq_ediv_of_nonneg, Nat.mul_one, Nat.reduceAdd, Nat.zero_add, Nat.add_zero, implies_true, false_implies, true_implies, eq_true he']
          exact hfin h6 v6 i 17 rfl (by simp [thenE, he]) own6' hx6
        · have he' : ¬ (e1 : Int) = 0 := by omega
          simp (disch := first | omega | assumption) only [C.ref3_told_gos, vs, T.ts, and_true, true_and, List.getElem?_toArray, List.getElem?_cons_zero, List.getElem?_cons_succ, ↓reduceIte, Nat.reduceEqDiff, Option.bind_some, Option.map_some, Option.isSome_some, ne_eq, Bool.not_true, Bool.not_false, Bool.true_eq_false, Bool.false_eq_true, Bool.not_eq_true', Bool.not_eq_false', reduceCtorEq, Option.some.injEq, decide_eq_true_eq, decide_eq_false_iff_not, not_true_eq_false, not_false_eq_true, decide_true, decide_false, List.size_toArray, List.length_cons, List.length_nil, List.cons_append, List.nil_append, List.append_nil, List.map_cons, List.map_nil, Array.size_push, Int.toNat_natCast, List.toList_toArray, Nat.min_def, Nat.reduceLeDiff, Nat.reducePow, Int.reducePow, Int.reduceToNat, Int.tdiv_eq_ediv_of_nonneg, Int.tmod_eq_emod_of_nonneg, Int.fdiv_eq_ediv_of_nonneg, Nat.mul_one, Nat.reduceAdd, Nat.zero_add, Nat.add_zero, implies_true, false_implies, true_implies, eq_false he']
          exact hfin h6 v6 i e1 rfl (by simp [thenE, he]) own6' hx6
    · have hv : valS p ⟨8, name, at'⟩ = (UInt8.ofNat 8 :: bigS (atU at') 2, 0) := by
        show (_, if at' < 0 ∨ 65535 < at' then 17 else 0) = _
        rw [if_neg hneg]
      rw [hv] at hfin
      have hn : ¬ at' < 0 := fun h => hneg (.inl h)
      have hn2 : ¬ 65535 < at' := fun h => hneg (.inr h)
      simp (disch := first | omega | assumption) only [C.ref3_told_gos, vs, T.ts, and_true, true_and, List.getElem?_toArray, List.getElem?_cons_zero, List.getElem?_cons_succ, ↓reduceIte, Nat.reduceEqDiff, Option.bind_some, Option.map_some, Option.isSome_some, ne_eq, Bool.not_true, Bool.not_false, Bool.true_eq_false, Bool.false_eq_true, Bool.not_eq_true', Bool.not_eq_false', reduceCtorEq, Option.some.injEq, decide_eq_true_eq, decide_eq_false_iff_not, not_true_eq_false, not_false_eq_true, decide_true, decide_false, List.size_toArray, List.length_cons, List.length_nil, List.cons_append, List.nil_append, List.append_nil, List.map_cons, List.map_nil, Array.size_push, Int.toNat_natCast, List.toList_toArray, Nat.min_def, Nat.reduceLeDiff, Nat.reducePow, Int.reducePow, Int.reduceToNat, Int.tdiv_eq_ediv_of_nonneg, Int.tmod_eq_emod_of_nonneg, Int.fdiv_eq_ediv_of_nonneg, Nat.mul_one, Nat.reduceAdd, Nat.zero_add, Nat.add_zero, implies_true, false_implies, true_implies, d0, d2, Int.reduceEq, Int.reduceLT, hn, hn2, hwx, decide_true, decide_false]
      refine eff_call_of ?_
      simp (disch := first | omega | assumption) only [C.ref3_told_gos, vs, T.ts, and_true, true_and, List.getElem?_toArray, List.getElem?_cons_zero, List.getElem?_cons_succ, ↓reduceIte, Nat.reduceEqDiff, Option.bind_some, Option.map_some, Option.isSome_some, ne_eq, Bool.not_true, Bool.not_false, Bool.true_eq_false, Bool.false_eq_true, Bool.not_eq_true', Bool.not_eq_false', reduceCtorEq, Option.some.injEq, decide_eq_true_eq, decide_eq_false_iff_not, not_true_eq_false, not_false_eq_true, decide_true, decide_false, List.size_toArray, List.length_cons, List.length_nil, List.cons_append, List.nil_append, List.append_nil, List.map_cons, List.map_nil, Array.size_push, Int.toNat_natCast, List.toList_toArray, Nat.min_def, Nat.reduceLeDiff, Nat.reducePow, Int.reducePow, Int.reduceToNat, Int.tdiv_eq_ediv_of_nonneg, Int.tmod_eq_emod_of_nonneg, Int.fdiv_eq_ediv_of_nonneg, Nat.mul_one, Nat.reduceAdd, Nat.zero_add, Nat.add_zero, implies_true, false_implies, true_implies]
      refine (rbig_any (atU at') 2 h4 (hltx) (by omega)).mono ?_
      rintro v5 h5 ⟨x5, rfl⟩
      simp (disch := first | omega | assumption) only [C.ref3_told_gos, vs, T.ts, and_true, true_and, List.getElem?_toArray, List.getElem?_cons_zero, List.getElem?_cons_succ, ↓reduceIte, Nat.reduceEqDiff, Option.bind_some, Option.map_some, Option.isSome_some, ne_eq, Bool.not_true, Bool.not_false, Bool.true_eq_false, Bool.false_eq_true, Bool.not_eq_true', Bool.not_eq_false', reduceCtorEq, Option.some.injEq, decide_eq_true_eq, decide_eq_false_iff_not, not_true_eq_false, not_false_eq_true, decide_true, decide_false, List.size_toArray, List.length_cons, List.length_nil, List.cons_append, List.nil_append, List.append_nil, List.map_cons, List.map_nil, Array.size_push, Int.toNat_natCast, List.toList_toArray, Nat.min_def, Nat.reduceLeDiff, Nat.reducePow, Int.reducePow, Int.reduceToNat, Int.tdiv_eq_ediv_of_nonneg, Int.tmod_eq_emod_of_nonneg, Int.fdiv_eq_ediv_of_nonneg, Nat.mul_one, Nat.reduceAdd, Nat.zero_add, Nat.add_zero, implies_true, false_implies, true_implies]
      have own5 := own4'.ext x5
      have hx5 := hx4.trans x5
      refine eff_append_str (l := bigS (atU at') 2) T.slT_43 Try.underlying9 rfl rfl own5 (by simp only [List.length_append, List.length_singleton, bigS_len]; omega) (by simp only [List.length_append, List.length_singleton, bigS_len]; omega) hx5.size ?_
      intro v6 h6 own6 fr6
      have hx6 : Ext h h6 := Ext.app hx5 fr6 (fun k hk => (own5.lt k hk).1)
      have own6' : Own h6 h.size 5 1 v6 (pre ++ UInt8.ofNat 8 :: bigS (atU at') 2).length (bytesV (pre ++ UInt8.ofNat 8 :: bigS (atU at') 2)) := Own_cast own6 (by simp [bigS_len] <;> omega) (by simp [bytesV])
      by_cases he : e1 = 0
      · have he' : (e1 : Int) = 0 := by omega
        simp (disch := first | omega | assumption) only [C.ref3_told_gos, vs, T.ts, and_true, true_and, List.getElem?_toArray, List.getElem?_cons_zero, List.getElem?_cons_succ, ↓reduceIte, Nat.reduceEqDiff, Option.bind_some, Option.map_some, Option.isSome_some, ne_eq, Bool.not_true, Bool.not_false, Bool.true_eq_false, Bool.false_eq_true, Bool.not_eq_true', Bool.not_eq_false', reduceCtorEq, Option.some.injEq, decide_eq_true_eq, decide_eq_false_iff_not, not_true_eq_false, not_false_eq_true, decide_true, decide_false, List.size_toArray, List.length_cons, List.length_nil, List.cons_append, List.nil_append, List.append_nil, List.map_cons, List.map_nil, Array.size_push, Int.toNat_natCast, List.toList_toArray, Nat.min_def, Nat.reduceLeDiff, Nat.reducePow, Int.reducePow, Int.reduceToNat, Int.tdiv_eq_ediv_of_nonneg, Int.tmod_eq_emod_of_nonneg, Int.fdiv_eq_ediv_of_nonneg, Nat.mul_one, Nat.reduceAdd, Nat.zero_add, Nat.add_zero, implies_true, false_implies, true_implies, eq_true he']
        exact hfin h6 v6 i 0 rfl (by simp [thenE, he]) own6' hx6
      · have he' : ¬ (e1 : Int) = 0 := by omega
        simp (disch := first | omega | assumption) only [C.ref3_told_gos, vs, T.ts, and_true, true_and, List.getElem?_toArray, List.getElem?_cons_zero, List.getElem?_cons_succ, ↓reduceIte, Nat.reduceEqDiff, Option.bind_some, Option.map_some, Option.isSome_some, ne_eq, Bool.not_true, Bool.not_false, Bool.true_eq_false, Bool.false_eq_true, Bool.not_eq_true', Bool.not_eq_false', reduceCtorEq, Option.some.injEq, decide_eq_true_eq, decide_eq_false_iff_not, not_true_eq_false, not_false_eq_true, decide_true, decide_false, List.size_toArray, List.length_cons, List.length_nil, List.cons_append, List.nil_append, List.append_nil, List.map_cons, List.map_nil, Array.size_push, Int.toNat_natCast, List.toList_toArray, Nat.min_def, Nat.reduceLeDiff, Nat.reducePow, Int.reducePow, Int.reduceToNat, Int.tdiv_eq_ediv_of_nonneg, Int.tmod_eq_emod_of_nonneg, Int.fdiv_eq_ediv_of_nonneg, Nat.mul_one, Nat.reduceAdd, Nat.zero_add, Nat.add_zero, implies_true, false_implies, true_implies, eq_false he']
        exact hfin h6 v6 i e1 rfl (by simp [thenE, he]) own6' hx6
  have n8 : ¬ (tag : Int) = 8 := by omega
  by_cases t7 : tag = 7
  case neg =>
    have n7 : ¬ (tag : Int) = 7 := by omega
    have hv : valS p ⟨tag, name, at'⟩ = ([UInt8.ofNat tag], 0) := by simp [valS, t7, t8, h8]
    rw [hv] at hfin
    by_cases he : e1 = 0
    · have he' : (e1 : Int) = 0 := by omega
      simp (disch := first | omega | assumption) only [C.ref3_told_gos, vs, T.ts, and_true, true_and, List.getElem?_toArray, List.getElem?_cons_zero, List.getElem?_cons_succ, ↓reduceIte, Nat.reduceEqDiff, Option.bind_some, Option.map_some, Option.isSome_some, ne_eq, Bool.not_true, Bool.not_false, Bool.true_eq_false, Bool.false_eq_true, Bool.not_eq_true', Bool.not_eq_false', reduceCtorEq, Option.some.injEq, decide_eq_true_eq, decide_eq_false_iff_not, not_true_eq_false, not_false_eq_true, decide_true, decide_false, List.size_toArray, List.length_cons, List.length_nil, List.cons_append, List.nil_append, List.append_nil, List.map_cons, List.map_nil, Array.size_push, Int.toNat_natCast, List.toList_toArray, Nat.min_def, Nat.reduceLeDiff, Nat.reducePow, Int.reducePow, Int.reduceToNat, Int.tdiv_eq_ediv_of_nonneg, Int.tmod_eq_emod_of_nonneg, Int.fdiv_eq_ediv_of_nonneg, Nat.mul_one, Nat.reduceAdd, Nat.zero_add, Nat.add_zero, implies_true, false_implies, true_implies, d0, h8', eq_false n7, eq_false n8, decide_false, eq_true he']
      exact hfin h4 v4 i 0 rfl (by simp [thenE, he]) own4' hx4
    · have he' : ¬ (e1 : Int) = 0 := by omega
      simp (disch := first | omega | assumption) only [C.ref3_told_gos, vs, T.ts, and_true, true_and, List.getElem?_toArray, List.getElem?_cons_zero, List.getElem?_cons_succ, ↓reduceIte, Nat.reduceEqDiff, Option.bind_some, Option.map_some, Option.isSome_some, ne_eq, Bool.not_true, Bool.not_false, Bool.true_eq_false, Bool.false_eq_true, Bool.not_eq_true', Bool.not_eq_false', reduceCtorEq, Option.some.injEq, decide_eq_true_eq, decide_eq_false_iff_not, not_true_eq_false, not_false_eq_true, decide_true, decide_false, List.size_toArray, List.length_cons, List.length_nil, List.cons_append, List.nil_append, List.append_nil, List.map_cons, List.map_nil, Array.size_push, Int.toNat_natCast, List.toList_toArray, Nat.min_def, Nat.reduceLeDiff, Nat.reducePow, Int.reducePow, Int.reduceToNat, Int.tdiv_eq_ediv_of_nonneg, Int.tmod_eq_emod_of_nonneg, Int.fdiv_eq_ediv_of_nonneg, Nat.mul_one, Nat.reduceAdd, Nat.zero_add, Nat.add_zero, implies_true, false_implies, true_implies, d0, h8', eq_false n7, eq_false n8, decide_false, eq_false he']
      exact hfin h4 v4 i e1 rfl (by simp [thenE, he]) own4' hx4
  subst t7
  rw [show ((7 : Nat) : Int) = 7 from rfl] at d0 b4
  have hv : valS p ⟨7, name, at'⟩ = (UInt8.ofNat 7 :: bigS (clsS p name) 2, if clsS p name = 0 then 7 else 0) := rfl
  rw [hv] at hfin
  have hp4 := hp.ext (by decide) hx4
  have hcl := clsS_le p name
  simp (disch := first | omega | assumption) only [C.ref3_told_gos, vs, T.ts, and_true, true_and, List.getElem?_toArray, List.getElem?_cons_zero, List.getElem?_cons_succ, ↓reduceIte, Nat.reduceEqDiff, Option.bind_some, Option.map_some, Option.isSome_some, ne_eq, Bool.not_true, Bool.not_false, Bool.true_eq_false, Bool.false_eq_true, Bool.not_eq_true', Bool.not_eq_false', reduceCtorEq, Option.some.injEq, decide_eq_true_eq, decide_eq_false_iff_not, not_true_eq_false, not_false_eq_true, decide_true, decide_false, List.size_toArray, List.length_cons, List.length_nil, List.cons_append, List.nil_append, List.append_nil, List.map_cons, List.map_nil, Array.size_push, Int.toNat_natCast, List.toList_toArray, Nat.min_def, Nat.reduceLeDiff, Nat.reducePow, Int.reducePow, Int.reduceToNat, Int.tdiv_eq_ediv_of_nonneg, Int.tmod_eq_emod_of_nonneg, Int.fdiv_eq_ediv_of_nonneg, Nat.mul_one, Nat.reduceAdd, Nat.zero_add, Nat.add_zero, implies_true, false_implies, true_implies, d0, Int.reduceEq, Int.reduceLT, decide_true, decide_false]
  refine loop_intro [1, 6, 7, 9, 10, 11, 12, 16, 17, 18] (fun m ρ hc => ∃ kk : Int, m = kk.toNat ∧ kk < p.length ∧ -1 ≤ kk ∧ ρ = [(1, .slice ap p.length cp), (6, v4), (7, .int .i64 e1), (9, .pointer (some ⟨q, 0, none⟩)), (10, .int .i64 0),
    (11, .int .i64 (lowF p name kk.toNat)), (12, .int .i64 kk), (16, .slice (some ⟨bb, o, none⟩) l.length c), (17, .int .i64 l.length), (18, .int .i64 i)] ∧ hc = h4) ?_ ?_
  · simp (disch := first | omega | assumption) only [C.ref3_told_gos, vs, T.ts, and_true, true_and, List.getElem?_toArray, List.getElem?_cons_zero, List.getElem?_cons_succ, ↓reduceIte, Nat.reduceEqDiff, Option.bind_some, Option.map_some, Option.isSome_some, ne_eq, Bool.not_true, Bool.not_false, Bool.true_eq_false, Bool.false_eq_true, Bool.not_eq_true', Bool.not_eq_false', reduceCtorEq, Option.some.injEq, decide_eq_true_eq, decide_eq_false_iff_not, not_true_eq_false, not_false_eq_true, decide_true, decide_false, List.size_toArray, List.length_cons, List.length_nil, List.cons_append, List.nil_append, List.append_nil, List.map_cons, List.map_nil, Array.size_push, Int.toNat_natCast, List.toList_toArray, Nat.min_def, Nat.reduceLeDiff, Nat.reducePow, Int.reducePow, Int.reduceToNat, Int.tdiv_eq_ediv_of_nonneg, Int.tmod_eq_emod_of_nonneg, Int.fdiv_eq_ediv_of_nonneg, Nat.mul_one, Nat.reduceAdd, Nat.zero_add, Nat.add_zero, implies_true, false_implies, true_implies]
    exact ⟨_, (p.length : Int) - 1, rfl, by omega, by omega, by rw [lowF_top p name (by omega)]; rfl⟩
  rintro m ρ hc ⟨kk, rfl, hk1, hk2, rfl, rfl⟩
  by_cases hpos : 0 < kk
  case neg =>
    have hk0 : kk.toNat = 0 := by omega
    rw [hk0, lowF_zero]
    by_cases hz : clsS p name = 0
    · have hz' : ((clsS p name : Nat) : Int) = 0 := by omega
      have hwc : IntKind.u64.wrap ((clsS p name : Nat) : Int) = ((clsS p name : Nat) : Int) := wrap_u64 (by omega) (by omega)
      rw [if_pos hz] at hfin
      simp (disch := first | omega | assumption) only [C.ref3_told_gos, vs, T.ts, and_true, true_and, List.getElem?_toArray, List.getElem?_cons_zero, List.getElem?_cons_succ, ↓reduceIte, Nat.reduceEqDiff, Option.bind_some, Option.map_some, Option.isSome_some, ne_eq, Bool.not_true, Bool.not_false, Bool.true_eq_false, Bool.false_eq_true, Bool.not_eq_true', Bool.not_eq_false', reduceCtorEq, Option.some.injEq, decide_eq_true_eq, decide_eq_false_iff_not, not_true_eq_false, not_false_eq_true, decide_true, decide_false, List.size_toArray, List.length_cons, List.length_nil, List.cons_append, List.nil_append, List.append_nil, List.map_cons, List.map_nil, Array.size_push, Int.toNat_natCast, List.toList_toArray, Nat.min_def, Nat.reduceLeDiff, Nat.reducePow, Int.reducePow, Int.reduceToNat, Int.tdiv_eq_ediv_of_nonneg, Int.tmod_eq_emod_of_nonneg, Int.fdiv_eq_ediv_of_nonneg, Nat.mul_one, Nat.reduceAdd, Nat.zero_add, Nat.add_zero, implies_true, false_implies, true_implies, hpos, eq_true hz', hwc]
      refine eff_call_of ?_
      simp (disch := first | omega | assumption) only [C.ref3_told_gos, vs, T.ts, and_true, true_and, List.getElem?_toArray, List.getElem?_cons_zero, List.getElem?_cons_succ, ↓reduceIte, Nat.reduceEqDiff, Option.bind_some, Option.map_some, Option.isSome_some, ne_eq, Bool.not_true, Bool.not_false, Bool.true_eq_false, Bool.false_eq_true, Bool.not_eq_true', Bool.not_eq_false', reduceCtorEq, Option.some.injEq, decide_eq_true_eq, decide_eq_false_iff_not, not_true_eq_false, not_false_eq_true, decide_true, decide_false, List.size_toArray, List.length_cons, List.length_nil, List.cons_append, List.nil_append, List.append_nil, List.map_cons, List.map_nil, Array.size_push, Int.toNat_natCast, List.toList_toArray, Nat.min_def, Nat.reduceLeDiff, Nat.reducePow, Int.reducePow, Int.reduceToNat, Int.tdiv_eq_ediv_of_nonneg, Int.tmod_eq_emod_of_nonneg, Int.fdiv_eq_ediv_of_nonneg, Nat.mul_one, Nat.reduceAdd, Nat.zero_add, Nat.add_zero, implies_true, false_implies, true_implies]
      refine (rbig_any (clsS p name) 2 hc (by omega) (by omega)).mono ?_
      rintro v5 h5 ⟨x5, rfl⟩
      simp (disch := first | omega | assumption) only [C.ref3_told_gos, vs, T.ts, and_true, true_and, List.getElem?_toArray, List.getElem?_cons_zero, List.getElem?_cons_succ, ↓reduceIte, Nat.reduceEqDiff, Option.bind_some, Option.map_some, Option.isSome_some, ne_eq, Bool.not_true, Bool.not_false, Bool.true_eq_false, Bool.false_eq_true, Bool.not_eq_true', Bool.not_eq_false', reduceCtorEq, Option.some.injEq, decide_eq_true_eq, decide_eq_false_iff_not, not_true_eq_false, not_false_eq_true, decide_true, decide_false, List.size_toArray, List.length_cons, List.length_nil, List.cons_append, List.nil_append, List.append_nil, List.map_cons, List.map_nil, Array.size_push, Int.toNat_natCast, List.toList_toArray, Nat.min_def, Nat.reduceLeDiff, Nat.reducePow, Int.reducePow, Int.reduceToNat, Int.tdiv_eq_ediv_of_nonneg, Int.tmod_eq_emod_of_nonneg, Int.fdiv_eq_ediv_of_nonneg, Nat.mul_one, Nat.reduceAdd, Nat.zero_add, Nat.add_zero, implies_true, false_implies, true_implies]
      have own5 := own4'.ext x5
      have hx5 := hx4.trans x5
      refine eff_append_str (l := bigS (clsS p name) 2) T.slT_43 Try.underlying9 rfl rfl own5 (by simp only [List.length_append, List.length_singleton, bigS_len]; omega) (by simp only [List.length_append, List.length_singleton, bigS_len]; omega) hx5.size ?_
      intro v6 h6 own6 fr6
      have hx6 : Ext h h6 := Ext.app hx5 fr6 (fun k hk => (own5.lt k hk).1)
      have own6' : Own h6 h.size 5 1 v6 (pre ++ UInt8.ofNat 7 :: bigS (clsS p name) 2).length (bytesV (pre ++ UInt8.ofNat 7 :: bigS (clsS p name) 2)) := Own_cast own6 (by simp [bigS_len] <;> omega) (by simp [bytesV])
      by_cases he : e1 = 0
      · have he' : (e1 : Int) = 0 := by omega
        simp (disch := first | omega | assumption) only [C.ref3_told_gos, vs, T.ts, and_true, true_and, List.getElem?_toArray, List.getElem?_cons_zero, List.getElem?_cons_succ, ↓reduceIte, Nat.reduceEqDiff, Option.bind_some, Option.map_some, Option.isSome_some, ne_eq, Bool.not_true, Bool.not_false, Bool.true_eq_false, Bool.false_eq_true, Bool.not_eq_true', Bool.not_eq_false', reduceCtorEq, Option.some.injEq, decide_eq_true_eq, decide_eq_false_iff_not, not_true_eq_false, not_false_eq_true, decide_true, decide_false, List.size_toArray, List.length_cons, List.length_nil, List.cons_append, List.nil_append, List.append_nil, List.map_cons, List.map_nil, Array.size_push, Int.toNat_natCast, List.toList_toArray, Nat.min_def, Nat.reduceLeDiff, Nat.reducePow, Int.reducePow, Int.reduceToNat, Int.tdiv_eq_ediv_of_nonneg, Int.tmod_eq_emod_of_nonneg, Int.fdiv_eq_ediv_of_nonneg, Nat.mul_one, Nat.reduceAdd, Nat.zero_add, Nat.add_zero, implies_true, false_implies, true_implies, eq_true he']
        exact hfin h6 v6 i 7 rfl (by simp [thenE, he]) own6' hx6
      · have he' : ¬ (e1 : Int) = 0 := by omega
        simp (disch := first | omega | assumption) only [C.ref3_told_gos, vs, T.ts, and_true, true_and, List.getElem?_toArray, List.getElem?_cons_zero, List.getElem?_cons_succ, ↓reduceIte, Nat.reduceEqDiff, Option.bind_some, Option.map_some, Option.isSome_some, ne_eq, Bool.not_true, Bool.not_false, Bool.true_eq_false, Bool.false_eq_true, Bool.not_eq_true', Bool.not_eq_false', reduceCtorEq, Option.some.injEq, decide_eq_true_eq, decide_eq_false_iff_not, not_true_eq_false, not_false_eq_true, decide_true, decide_false, List.size_toArray, List.length_cons, List.length_nil, List.cons_append, List.nil_append, List.append_nil, List.map_cons, List.map_nil, Array.size_push, Int.toNat_natCast, List.toList_toArray, Nat.min_def, Nat.reduceLeDiff, Nat.reducePow, Int.reducePow, Int.reduceToNat, Int.tdiv_eq_ediv_of_nonneg, Int.tmod_eq_emod_of_nonneg, Int.fdiv_eq_ediv_of_nonneg, Nat.mul_one, Nat.reduceAdd, Nat.zero_add, Nat.add_zero, implies_true, false_implies, true_implies, eq_false he']
        exact hfin h6 v6 i e1 rfl (by simp [thenE, he]) own6' hx6
    · have hz' : ¬ ((clsS p name : Nat) : Int) = 0 := by omega
      have hwc : IntKind.u64.wrap ((clsS p name : Nat) : Int) = ((clsS p name : Nat) : Int) := wrap_u64 (by omega) (by omega)
      rw [if_neg hz] at hfin
      simp (disch := first | omega | assumption) only [C.ref3_told_gos, vs, T.ts, and_true, true_and, List.getElem?_toArray, List.getElem?_cons_zero, List.getElem?_cons_succ, ↓reduceIte, Nat.reduceEqDiff, Option.bind_some, Option.map_some, Option.isSome_some, ne_eq, Bool.not_true, Bool.not_false, Bool.true_eq_false, Bool.false_eq_true, Bool.not_eq_true', Bool.not_eq_false', reduceCtorEq, Option.some.injEq, decide_eq_true_eq, decide_eq_false_iff_not, not_true_eq_false, not_false_eq_true, decide_true, decide_false, List.size_toArray, List.length_cons, List.length_nil, List.cons_append, List.nil_append, List.append_nil, List.map_cons, List.map_nil, Array.size_push, Int.toNat_natCast, List.toList_toArray, Nat.min_def, Nat.reduceLeDiff, Nat.reducePow, Int.reducePow, Int.reduceToNat, Int.tdiv_eq_ediv_of_nonneg, Int.tmod_eq_emod_of_nonneg, Int.fdiv_eq_ediv_of_nonneg, Nat.mul_one, Nat.reduceAdd, Nat.zero_add, Nat.add_zero, implies_true, false_implies, true_implies, hpos, eq_false hz', hwc]
      refine eff_call_of ?_
      simp (disch := first | omega | assumption) only [C.ref3_told_gos, vs, T.ts, and_true, true_and, List.getElem?_toArray, List.getElem?_cons_zero, List.getElem?_cons_succ, ↓reduceIte, Nat.reduceEqDiff, Option.bind_some, Option.map_some, Option.isSome_some, ne_eq, Bool.not_true, Bool.not_false, Bool.true_eq_false, Bool.false_eq_true, Bool.not_eq_true', Bool.not_eq_false', reduceCtorEq, Option.some.injEq, decide_eq_true_eq, decide_eq_false_iff_not, not_true_eq_false, not_false_eq_true, decide_true, decide_false, List.size_toArray, List.length_cons, List.length_nil, List.cons_append, List.nil_append, List.append_nil, List.map_cons, List.map_nil, Array.size_push, Int.toNat_natCast, List.toList_toArray, Nat.min_def, Nat.reduceLeDiff, Nat.reducePow, Int.reducePow, Int.reduceToNat, Int.tdiv_eq_ediv_of_nonneg, Int.tmod_eq_emod_of_nonneg, Int.fdiv_eq_ediv_of_nonneg, Nat.mul_one, Nat.reduceAdd, Nat.zero_add, Nat.add_zero, implies_true, false_implies, true_implies]
      refine (rbig_any (clsS p name) 2 hc (by omega) (by omega)).mono ?_
      rintro v5 h5 ⟨x5, rfl⟩
      simp (disch := first | omega | assumption) only [C.ref3_told_gos, vs, T.ts, and_true, true_and, List.getElem?_toArray, List.getElem?_cons_zero, List.getElem?_cons_succ, ↓reduceIte, Nat.reduceEqDiff, Option.bind_some, Option.map_some, Option.isSome_some, ne_eq, Bool.not_true, Bool.not_false, Bool.true_eq_false, Bool.false_eq_true, Bool.not_eq_true', Bool.not_eq_false', reduceCtorEq, Option.some.injEq, decide_eq_true_eq, decide_eq_false_iff_not, not_true_eq_false, not_false_eq_true, decide_true, decide_false, List.size_toArray, List.length_cons, List.length_nil, List.cons_append, List.nil_append, List.append_nil, List.map_cons, List.map_nil, Array.size_push, Int.toNat_natCast, List.toList_toArray, Nat.min_def, Nat.reduceLeDiff, Nat.reducePow, Int.reducePow, Int.reduceToNat, Int.tdiv_eq_ediv_of_nonneg, Int.tmod_eq_emod_of_nonneg, Int.fdiv_eq_ediv_of_nonneg, Nat.mul_one, Nat.reduceAdd, Nat.zero_add, Nat.add_zero, implies_true, false_implies, true_implies]
      have own5 := own4'.ext x5
      have hx5 := hx4.trans x5
      refine eff_append_str (l := bigS (clsS p name) 2) T.slT_43 Try.underlying9 rfl rfl own5 (by simp only [List.length_append, List.length_singleton, bigS_len]; omega) (by simp only [List.length_append, List.length_singleton, bigS_len]; omega) hx5.size ?_
      intro v6 h6 own6 fr6
      have hx6 : Ext h h6 := Ext.app hx5 fr6 (fun k hk => (own5.lt k hk).1)
      have own6' : Own h6 h.size 5 1 v6 (pre ++ UInt8.ofNat 7 :: bigS (clsS p name) 2).length (bytesV (pre ++ UInt8.ofNat 7 :: bigS (clsS p name) 2)) := Own_cast own6 (by simp [bigS_len] <;> omega) (by simp [bytesV])
      by_cases he : e1 = 0
      · have he' : (e1 : Int) = 0 := by omega
        simp (disch := first | omega | assumption) only [C.ref3_told_gos, vs, T.ts, and_true, true_and, List.getElem?_toArray, List.getElem?_cons_zero, List.getElem?_cons_succ, ↓reduceIte, Nat.reduceEqDiff, Option.bind_some, Option.map_some, Option.isSome_some, ne_eq, Bool.not_true, Bool.not_false, Bool.true_eq_false, Bool.false_eq_true, Bool.not_eq_true', Bool.not_eq_false', reduceCtorEq, Option.some.injEq, decide_eq_true_eq, decide_eq_false_iff_not, not_true_eq_false, not_false_eq_true, decide_true, decide_false, List.size_toArray, List.length_cons, List.length_nil, List.cons_append, List.nil_append, List.append_nil, List.map_cons, List.map_nil, Array.size_push, Int.toNat_natCast, List.toList_toArray, Nat.min_def, Nat.reduceLeDiff, Nat.reducePow, Int.reducePow, Int.reduceToNat, Int.tdiv_eq_ediv_of_nonneg, Int.tmod_eq_emod_of_nonneg, Int.fdiv_eq_ediv_of_nonneg, Nat.mul_one, Nat.reduceAdd, Nat.zero_add, Nat.add_zero, implies_true, false_implies, true_implies, eq_true he']
        exact hfin h6 v6 i 0 rfl (by simp [thenE, he]) own6' hx6
      · have he' : ¬ (e1 : Int) = 0 := by omega
        simp (disch := first | omega | assumption) only [C.ref3_told_gos, vs, T.ts, and_true, true_and, List.getElem?_toArray, List.getElem?_cons_zero, List.getElem?_cons_succ, ↓reduceIte, Nat.reduceEqDiff, Option.bind_some, Option.map_some, Option.isSome_some, ne_eq, Bool.not_true, Bool.not_false, Bool.true_eq_false, Bool.false_eq_true, Bool.not_eq_true', Bool.not_eq_false', reduceCtorEq, Option.some.injEq, decide_eq_true_eq, decide_eq_false_iff_not, not_true_eq_false, not_false_eq_true, decide_true, decide_false, List.size_toArray, List.length_cons, List.length_nil, List.cons_append, List.nil_append, List.append_nil, List.map_cons, List.map_nil, Array.size_push, Int.toNat_natCast, List.toList_toArray, Nat.min_def, Nat.reduceLeDiff, Nat.reducePow, Int.reducePow, Int.reduceToNat, Int.tdiv_eq_ediv_of_nonneg, Int.tmod_eq_emod_of_nonneg, Int.fdiv_eq_ediv_of_nonneg, Nat.mul_one, Nat.reduceAdd, Nat.zero_add, Nat.add_zero, implies_true, false_implies, true_implies, eq_false he']
        exact hfin h6 v6 i e1 rfl (by simp [thenE, he]) own6' hx6
  obtain ⟨n, rfl⟩ : ∃ n : Nat, kk = ((n + 1 : Nat) : Int) := ⟨(kk - 1).toNat, by omega⟩
  have hnl : n + 1 < p.length := by omega
  have hls := lowF_step p name hnl
  rw [Int.toNat_natCast]
  have hdec : ((n + 1 : Nat) : Int) - 1 = (n : Int) := by omega
  simp (disch := first | omega | assumption) only [C.ref3_told_gos, vs, T.ts, and_true, true_and, List.getElem?_toArray, List.getElem?_cons_zero, List.getElem?_cons_succ, ↓reduceIte, Nat.reduceEqDiff, Option.bind_some, Option.map_some, Option.isSome_some, ne_eq, Bool.not_true, Bool.not_false, Bool.true_eq_false, Bool.false_eq_true, Bool.not_eq_true', Bool.not_eq_false', reduceCtorEq, Option.some.injEq, decide_eq_true_eq, decide_eq_false_iff_not, not_true_eq_false, not_false_eq_true, decide_true, decide_false, List.size_toArray, List.length_cons, List.length_nil, List.cons_append, List.nil_append, List.append_nil, List.map_cons, List.map_nil, Array.size_push, Int.toNat_natCast, List.toList_toArray, Nat.min_def, Nat.reduceLeDiff, Nat.reducePow, Int.reducePow, Int.reduceToNat, Int.tdiv_eq_ediv_of_nonneg, Int.tmod_eq_emod_of_nonneg, Int.fdiv_eq_ediv_of_nonneg, Nat.mul_one, Nat.reduceAdd, Nat.zero_add, Nat.add_zero, implies_true, false_implies, true_implies, hpos]
  refine eff_call_of ?_
  simp (disch := first | omega | assumption) only [C.ref3_told_gos, vs, T.ts, and_true, true_and, List.getElem?_toArray, List.getElem?_cons_zero, List.getElem?_cons_succ, ↓reduceIte, Nat.reduceEqDiff, Option.bind_some, Option.map_some, Option.isSome_some, ne_eq, Bool.not_true, Bool.not_false, Bool.true_eq_false, Bool.false_eq_true, Bool.not_eq_true', Bool.not_eq_false', reduceCtorEq, Option.some.injEq, decide_eq_true_eq, decide_eq_false_iff_not, not_true_eq_false, not_false_eq_true, decide_true, decide_false, List.size_toArray, List.length_cons, List.length_nil, List.cons_append, List.nil_append, List.append_nil, List.map_cons, List.map_nil, Array.size_push, Int.toNat_natCast, List.toList_toArray, Nat.min_def, Nat.reduceLeDiff, Nat.reducePow, Int.reducePow, Int.reduceToNat, Int.tdiv_eq_ediv_of_nonneg, Int.tmod_eq_emod_of_nonneg, Int.fdiv_eq_ediv_of_nonneg, Nat.mul_one, Nat.reduceAdd, Nat.zero_add, Nat.add_zero, implies_true, false_implies, true_implies]
  refine (classOf_any (n + 1) hpf hp4).mono ?_
  rintro v5 h5 ⟨rfl, rfl⟩
  by_cases hok : (clsOfS p (n + 1)).2 = true
  · by_cases hnm : (clsOfS p (n + 1)).1 = name
    · rw [if_pos ⟨hok, hnm⟩] at hls
      simp (disch := first | omega | assumption) only [C.ref3_told_gos, vs, T.ts, and_true, true_and, List.getElem?_toArray, List.getElem?_cons_zero, List.getElem?_cons_succ, ↓reduceIte, Nat.reduceEqDiff, Option.bind_some, Option.map_some, Option.isSome_some, ne_eq, Bool.not_true, Bool.not_false, Bool.true_eq_false, Bool.false_eq_true, Bool.not_eq_true', Bool.not_eq_false', reduceCtorEq, Option.some.injEq, decide_eq_true_eq, decide_eq_false_iff_not, not_true_eq_false, not_false_eq_true, decide_true, decide_false, List.size_toArray, List.length_cons, List.length_nil, List.cons_append, List.nil_append, List.append_nil, List.map_cons, List.map_nil, Array.size_push, Int.toNat_natCast, List.toList_toArray, Nat.min_def, Nat.reduceLeDiff, Nat.reducePow, Int.reducePow, Int.reduceToNat, Int.tdiv_eq_ediv_of_nonneg, Int.tmod_eq_emod_of_nonneg, Int.fdiv_eq_ediv_of_nonneg, Nat.mul_one, Nat.reduceAdd, Nat.zero_add, Nat.add_zero, implies_true, false_implies, true_implies, hok, d1, eq_true hnm, hdec]
      exact ⟨n, by omega, (n : Int), rfl, by omega, by omega, by rw [Int.toNat_natCast, hls]⟩
    · rw [if_neg (fun h => hnm h.2)] at hls
      simp (disch := first | omega | assumption) only [C.ref3_told_gos, vs, T.ts, and_true, true_and, List.getElem?_toArray, List.getElem?_cons_zero, List.getElem?_cons_succ, ↓reduceIte, Nat.reduceEqDiff, Option.bind_some, Option.map_some, Option.isSome_some, ne_eq, Bool.not_true, Bool.not_false, Bool.true_eq_false, Bool.false_eq_true, Bool.not_eq_true', Bool.not_eq_false', reduceCtorEq, Option.some.injEq, decide_eq_true_eq, decide_eq_false_iff_not, not_true_eq_false, not_false_eq_true, decide_true, decide_false, List.size_toArray, List.length_cons, List.length_nil, List.cons_append, List.nil_append, List.append_nil, List.map_cons, List.map_nil, Array.size_push, Int.toNat_natCast, List.toList_toArray, Nat.min_def, Nat.reduceLeDiff, Nat.reducePow, Int.reducePow, Int.reduceToNat, Int.tdiv_eq_ediv_of_nonneg, Int.tmod_eq_emod_of_nonneg, Int.fdiv_eq_ediv_of_nonneg, Nat.mul_one, Nat.reduceAdd, Nat.zero_add, Nat.add_zero, implies_true, false_implies, true_implies, hok, d1, eq_false hnm, hdec]
      exact ⟨n, by omega, (n : Int), rfl, by omega, by omega, by rw [Int.toNat_natCast, hls]⟩
  · have hok' : (clsOfS p (n + 1)).2 = false := by simpa using hok
    rw [if_neg (fun h => hok h.1)] at hls
    simp (disch := first | omega | assumption) only [C.ref3_told_gos, vs, T.ts, and_true, true_and, List.getElem?_toArray, List.getElem?_cons_zero, List.getElem?_cons_succ, ↓reduceIte, Nat.reduceEqDiff, Option.bind_some, Option.map_some, Option.isSome_some, ne_eq, Bool.not_true, Bool.not_false, Bool.true_eq_false, Bool.false_eq_true, Bool.not_eq_true', Bool.not_eq_false', reduceCtorEq, Option.some.injEq, decide_eq_true_eq, decide_eq_false_iff_not, not_true_eq_false, not_false_eq_true, decide_true, decide_false, List.size_toArray, List.length_cons, List.length_nil, List.cons_append, List.nil_append, List.append_nil, List.map_cons, List.map_nil, Array.size_push, Int.toNat_natCast, List.toList_toArray, Nat.min_def, Nat.reduceLeDiff, Nat.reducePow, Int.reducePow, Int.reduceToNat, Int.tdiv_eq_ediv_of_nonneg, Int.tmod_eq_emod_of_nonneg, Int.fdiv_eq_ediv_of_nonneg, Nat.mul_one, Nat.reduceAdd, Nat.zero_add, Nat.add_zero, implies_true, false_implies, true_implies, hok', hdec]
    exact ⟨n, by omega, (n : Int), rfl, by omega, by omega, by rw [Int.toNat_natCast, hls]⟩
end Go.Proofs.Ythhfbnkmhgadaaa
