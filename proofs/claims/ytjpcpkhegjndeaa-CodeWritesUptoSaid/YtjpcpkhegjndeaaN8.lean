/- The encoder of instructions, by the reference: one instruction. -/
import Derived.Test.YtjpcpkhegjndeaaN7
import Derived.Test.YtjpcpkhegjndeaaCe
namespace Go.Proofs.Ytjpcpkhegjndeaa
open Go.Vc
set_option maxRecDepth 100000
set_option linter.unusedSimpArgs false
set_option linter.unusedVariables false

def inS (x : Int) (n : Nat) (sign : Bool) : Bool := if sign = true then okI x n else okU x n
set_option maxHeartbeats 1000000 in
theorem rin_any (x : Int) (n : Nat) (sign : Bool) (hn : n = 1 ∨ n = 2 ∨ n = 4) (h : Heap) :
    HCalls Try.prog 43 #[.int .i64 x, .int .i64 n, .bool sign] h fun v h' => h' = h ∧ v = .bool (inS x n sign) := by
  refine C.ref2_in_calls (args := [.int .i64 x, .int .i64 n, .bool sign]) rfl ?_
  cases sign
  · rcases hn with rfl | rfl | rfl
    · rw [show ((1 : Nat) : Int) = 1 from rfl]
      have g : (x < 0 ∨ ¬ x < 256 ∨ (0 ≤ x ∧ x < 256)) := by omega
      have e : inS x 1 false = (decide (0 ≤ x) && decide (x < 256)) := by
        simp only [inS, okU, Bool.false_eq_true, if_false]
        congr 1
        exact decide_eq_decide.2 (by constructor <;> intro h <;> omega)
      by_cases g1 : 0 ≤ x <;> by_cases g2 : x < 256 <;> rw [e] <;>
        simp (disch := first | omega | assumption) only [C.ref2_in_gos, vs, T.ts, and_true, true_and, List.getElem?_toArray, List.getElem?_cons_zero, List.getElem?_cons_succ, ↓reduceIte, Nat.reduceEqDiff, Option.bind_some, Option.map_some, Option.isSome_some, ne_eq, Bool.not_true, Bool.not_false, Bool.true_eq_false, Bool.false_eq_true, Bool.not_eq_true', Bool.not_eq_false', reduceCtorEq, Option.some.injEq, decide_eq_true_eq, decide_eq_false_iff_not, not_true_eq_false, not_false_eq_true, decide_true, decide_false, List.size_toArray, List.length_cons, List.length_nil, List.cons_append, List.nil_append, List.append_nil, List.map_cons, List.map_nil, Array.size_push, Int.toNat_natCast, List.toList_toArray, Nat.min_def, Nat.reduceLeDiff, Nat.reducePow, Int.reducePow, Int.reduceToNat, Int.tdiv_eq_ediv_of_nonneg, Int.tmod_eq_emod_of_nonneg, Int.fdiv_eq_ediv_of_nonneg, Nat.mul_one, Nat.reduceAdd, Nat.zero_add, Nat.add_zero, implies_true, false_implies, true_implies, g1, g2, Int.reduceMul, Int.reduceToNat, Int.reducePow, Int.reduceSub, Int.reduceNeg, Nat.reduceLeDiff, decide_true, decide_false, Bool.and_true, Bool.and_false, Bool.false_and] <;> trivial
    · rw [show ((2 : Nat) : Int) = 2 from rfl]
      have g : (x < 0 ∨ ¬ x < 65536 ∨ (0 ≤ x ∧ x < 65536)) := by omega
      have e : inS x 2 false = (decide (0 ≤ x) && decide (x < 65536)) := by
        simp only [inS, okU, Bool.false_eq_true, if_false]
        congr 1
        exact decide_eq_decide.2 (by constructor <;> intro h <;> omega)
      by_cases g1 : 0 ≤ x <;> by_cases g2 : x < 65536 <;> rw [e] <;>
        simp (disch := first | omega | assumption) only [C.ref2_in_gos, vs, T.ts, and_true, true_and, List.getElem?_toArray, List.getElem?_cons_zero, List.getElem?_cons_succ, ↓reduceIte, Nat.reduceEqDiff, Option.bind_some, Option.map_some, Option.isSome_some, ne_eq, Bool.not_true, Bool.not_false, Bool.true_eq_false, Bool.false_eq_true, Bool.not_eq_true', Bool.not_eq_false', reduceCtorEq, Option.some.injEq, decide_eq_true_eq, decide_eq_false_iff_not, not_true_eq_false, not_false_eq_true, decide_true, decide_false, List.size_toArray, List.length_cons, List.length_nil, List.cons_append, List.nil_append, List.append_nil, List.map_cons, List.map_nil, Array.size_push, Int.toNat_natCast, List.toList_toArray, Nat.min_def, Nat.reduceLeDiff, Nat.reducePow, Int.reducePow, Int.reduceToNat, Int.tdiv_eq_ediv_of_nonneg, Int.tmod_eq_emod_of_nonneg, Int.fdiv_eq_ediv_of_nonneg, Nat.mul_one, Nat.reduceAdd, Nat.zero_add, Nat.add_zero, implies_true, false_implies, true_implies, g1, g2, Int.reduceMul, Int.reduceToNat, Int.reducePow, Int.reduceSub, Int.reduceNeg, Nat.reduceLeDiff, decide_true, decide_false, Bool.and_true, Bool.and_false, Bool.false_and] <;> trivial
    · rw [show ((4 : Nat) : Int) = 4 from rfl]
      have g : (x < 0 ∨ ¬ x < 4294967296 ∨ (0 ≤ x ∧ x < 4294967296)) := by omega
      have e : inS x 4 false = (decide (0 ≤ x) && decide (x < 4294967296)) := by
        simp only [inS, okU, Bool.false_eq_true, if_false]
        congr 1
        exact decide_eq_decide.2 (by constructor <;> intro h <;> omega)
      by_cases g1 : 0 ≤ x <;> by_cases g2 : x < 4294967296 <;> rw [e] <;>
        simp (disch := first | omega | assumption) only [C.ref2_in_gos, vs, T.ts, and_true, true_and, List.getElem?_toArray, List.getElem?_cons_zero, List.getElem?_cons_succ, ↓reduceIte, Nat.reduceEqDiff, Option.bind_some, Option.map_some, Option.isSome_some, ne_eq, Bool.not_true, Bool.not_false, Bool.true_eq_false, Bool.false_eq_true, Bool.not_eq_true', Bool.not_eq_false', reduceCtorEq, Option.some.injEq, decide_eq_true_eq, decide_eq_false_iff_not, not_true_eq_false, not_false_eq_true, decide_true, decide_false, List.size_toArray, List.length_cons, List.length_nil, List.cons_append, List.nil_append, List.append_nil, List.map_cons, List.map_nil, Array.size_push, Int.toNat_natCast, List.toList_toArray, Nat.min_def, Nat.reduceLeDiff, Nat.reducePow, Int.reducePow, Int.reduceToNat, Int.tdiv_eq_ediv_of_nonneg, Int.tmod_eq_emod_of_nonneg, Int.fdiv_eq_ediv_of_nonneg, Nat.mul_one, Nat.reduceAdd, Nat.zero_add, Nat.add_zero, implies_true, false_implies, true_implies, g1, g2, Int.reduceMul, Int.reduceToNat, Int.reducePow, Int.reduceSub, Int.reduceNeg, Nat.reduceLeDiff, decide_true, decide_false, Bool.and_true, Bool.and_false, Bool.false_and] <;> trivial
  · rcases hn with rfl | rfl | rfl
    · rw [show ((1 : Nat) : Int) = 1 from rfl]
      have e : inS x 1 true = (decide (-128 ≤ x) && decide (x < 128)) := by
        simp only [inS, okI, if_true]
        congr 1
        exact decide_eq_decide.2 (by constructor <;> intro h <;> omega)
      by_cases g1 : -128 ≤ x <;> by_cases g2 : x < 128 <;> rw [e] <;>
        simp (disch := first | omega | assumption) only [C.ref2_in_gos, vs, T.ts, and_true, true_and, List.getElem?_toArray, List.getElem?_cons_zero, List.getElem?_cons_succ, ↓reduceIte, Nat.reduceEqDiff, Option.bind_some, Option.map_some, Option.isSome_some, ne_eq, Bool.not_true, Bool.not_false, Bool.true_eq_false, Bool.false_eq_true, Bool.not_eq_true', Bool.not_eq_false', reduceCtorEq, Option.some.injEq, decide_eq_true_eq, decide_eq_false_iff_not, not_true_eq_false, not_false_eq_true, decide_true, decide_false, List.size_toArray, List.length_cons, List.length_nil, List.cons_append, List.nil_append, List.append_nil, List.map_cons, List.map_nil, Array.size_push, Int.toNat_natCast, List.toList_toArray, Nat.min_def, Nat.reduceLeDiff, Nat.reducePow, Int.reducePow, Int.reduceToNat, Int.tdiv_eq_ediv_of_nonneg, Int.tmod_eq_emod_of_nonneg, Int.fdiv_eq_ediv_of_nonneg, Nat.mul_one, Nat.reduceAdd, Nat.zero_add, Nat.add_zero, implies_true, false_implies, true_implies, g1, g2, Int.reduceMul, Int.reduceToNat, Int.reducePow, Int.reduceSub, Int.reduceNeg, Nat.reduceLeDiff, decide_true, decide_false, Bool.and_true, Bool.and_false, Bool.false_and] <;> trivial
    · rw [show ((2 : Nat) : Int) = 2 from rfl]
      have e : inS x 2 true = (decide (-32768 ≤ x) && decide (x < 32768)) := by
        simp only [inS, okI, if_true]
        congr 1
        exact decide_eq_decide.2 (by constructor <;> intro h <;> omega)
      by_cases g1 : -32768 ≤ x <;> by_cases g2 : x < 32768 <;> rw [e] <;>
        simp (disch := first | omega | assumption) only [C.ref2_in_gos, vs, T.ts, and_true, true_and, List.getElem?_toArray, List.getElem?_cons_zero, List.getElem?_cons_succ, ↓reduceIte, Nat.reduceEqDiff, Option.bind_some, Option.map_some, Option.isSome_some, ne_eq, Bool.not_true, Bool.not_false, Bool.true_eq_false, Bool.false_eq_true, Bool.not_eq_true', Bool.not_eq_false', reduceCtorEq, Option.some.injEq, decide_eq_true_eq, decide_eq_false_iff_not, not_true_eq_false, not_false_eq_true, decide_true, decide_false, List.size_toArray, List.length_cons, List.length_nil, List.cons_append, List.nil_append, List.append_nil, List.map_cons, List.map_nil, Array.size_push, Int.toNat_natCast, List.toList_toArray, Nat.min_def, Nat.reduceLeDiff, Nat.reducePow, Int.reducePow, Int.reduceToNat, Int.tdiv_eq_ediv_of_nonneg, Int.tmod_eq_emod_of_nonneg, Int.fdiv_eq_ediv_of_nonneg, Nat.mul_one, Nat.reduceAdd, Nat.zero_add, Nat.add_zero, implies_true, false_implies, true_implies, g1, g2, Int.reduceMul, Int.reduceToNat, Int.reducePow, Int.reduceSub, Int.reduceNeg, Nat.reduceLeDiff, decide_true, decide_false, Bool.and_true, Bool.and_false, Bool.false_and] <;> trivial
    · rw [show ((4 : Nat) : Int) = 4 from rfl]
      have e : inS x 4 true = (decide (-2147483648 ≤ x) && decide (x < 2147483648)) := by
        simp only [inS, okI, if_true]
        congr 1
        exact decide_eq_decide.2 (by constructor <;> intro h <;> omega)
      by_cases g1 : -2147483648 ≤ x <;> by_cases g2 : x < 2147483648 <;> rw [e] <;>
        simp (disch := first | omega | assumption) only [C.ref2_in_gos, vs, T.ts, and_true, true_and, List.getElem?_toArray, List.getElem?_cons_zero, List.getElem?_cons_succ, ↓reduceIte, Nat.reduceEqDiff, Option.bind_some, Option.map_some, Option.isSome_some, ne_eq, Bool.not_true, Bool.not_false, Bool.true_eq_false, Bool.false_eq_true, Bool.not_eq_true', Bool.not_eq_false', reduceCtorEq, Option.some.injEq, decide_eq_true_eq, decide_eq_false_iff_not, not_true_eq_false, not_false_eq_true, decide_true, decide_false, List.size_toArray, List.length_cons, List.length_nil, List.cons_append, List.nil_append, List.append_nil, List.map_cons, List.map_nil, Array.size_push, Int.toNat_natCast, List.toList_toArray, Nat.min_def, Nat.reduceLeDiff, Nat.reducePow, Int.reducePow, Int.reduceToNat, Int.tdiv_eq_ediv_of_nonneg, Int.tmod_eq_emod_of_nonneg, Int.fdiv_eq_ediv_of_nonneg, Nat.mul_one, Nat.reduceAdd, Nat.zero_add, Nat.add_zero, implies_true, false_implies, true_implies, g1, g2, Int.reduceMul, Int.reduceToNat, Int.reducePow, Int.reduceSub, Int.reduceNeg, Nat.reduceLeDiff, decide_true, decide_false, Bool.and_true, Bool.and_false, Bool.false_and] <;> trivial
set_option maxHeartbeats 1000000 in
theorem rbytes_any (x : Int) (n : Nat) (sign : Bool) (hn : n = 1 ∨ n = 2 ∨ n = 4) (h : Heap) :
    HCalls Try.prog 34 #[.int .i64 x, .int .i64 n, .bool sign] h fun v h' => Ext h h' ∧ v = .tuple #[str (bigS (atU x) n), .bool (inS x n sign)] := by
  refine C.ref2_bytes_calls (args := [.int .i64 x, .int .i64 n, .bool sign]) rfl ?_
  obtain ⟨hw, hlt⟩ := atU_wrap x
  simp (disch := first | omega | assumption) only [C.ref2_bytes_gos, vs, T.ts, and_true, true_and, List.getElem?_toArray, List.getElem?_cons_zero, List.getElem?_cons_succ, ↓reduceIte, Nat.reduceEqDiff, Option.bind_some, Option.map_some, Option.isSome_some, ne_eq, Bool.not_true, Bool.not_false, Bool.true_eq_false, Bool.false_eq_true, Bool.not_eq_true', Bool.not_eq_false', reduceCtorEq, Option.some.injEq, decide_eq_true_eq, decide_eq_false_iff_not, not_true_eq_false, not_false_eq_true, decide_true, decide_false, List.size_toArray, List.length_cons, List.length_nil, List.cons_append, List.nil_append, List.append_nil, List.map_cons, List.map_nil, Array.size_push, Int.toNat_natCast, List.toList_toArray, Nat.min_def, Nat.reduceLeDiff, Nat.reducePow, Int.reducePow, Int.reduceToNat, Int.tdiv_eq_ediv_of_nonneg, Int.tmod_eq_emod_of_nonneg, Int.fdiv_eq_ediv_of_nonneg, Nat.mul_one, Nat.reduceAdd, Nat.zero_add, Nat.add_zero, implies_true, false_implies, true_implies, hw]
  refine eff_call_of ?_
  simp (disch := first | omega | assumption) only [C.ref2_bytes_gos, vs, T.ts, and_true, true_and, List.getElem?_toArray, List.getElem?_cons_zero, List.getElem?_cons_succ, ↓reduceIte, Nat.reduceEqDiff, Option.bind_some, Option.map_some, Option.isSome_some, ne_eq, Bool.not_true, Bool.not_false, Bool.true_eq_false, Bool.false_eq_true, Bool.not_eq_true', Bool.not_eq_false', reduceCtorEq, Option.some.injEq, decide_eq_true_eq, decide_eq_false_iff_not, not_true_eq_false, not_false_eq_true, decide_true, decide_false, List.size_toArray, List.length_cons, List.length_nil, List.cons_append, List.nil_append, List.append_nil, List.map_cons, List.map_nil, Array.size_push, Int.toNat_natCast, List.toList_toArray, Nat.min_def, Nat.reduceLeDiff, Nat.reducePow, Int.reducePow, Int.reduceToNat, Int.tdiv_eq_ediv_of_nonneg, Int.tmod_eq_emod_of_nonneg, Int.fdiv_eq_ediv_of_nonneg, Nat.mul_one, Nat.reduceAdd, Nat.zero_add, Nat.add_zero, implies_true, false_implies, true_implies]
  refine (rbig_any (atU x) n h hlt (by omega)).mono ?_
  rintro v1 h1 ⟨x1, rfl⟩
  simp (disch := first | omega | assumption) only [C.ref2_bytes_gos, vs, T.ts, and_true, true_and, List.getElem?_toArray, List.getElem?_cons_zero, List.getElem?_cons_succ, ↓reduceIte, Nat.reduceEqDiff, Option.bind_some, Option.map_some, Option.isSome_some, ne_eq, Bool.not_true, Bool.not_false, Bool.true_eq_false, Bool.false_eq_true, Bool.not_eq_true', Bool.not_eq_false', reduceCtorEq, Option.some.injEq, decide_eq_true_eq, decide_eq_false_iff_not, not_true_eq_false, not_false_eq_true, decide_true, decide_false, List.size_toArray, List.length_cons, List.length_nil, List.cons_append, List.nil_append, List.append_nil, List.map_cons, List.map_nil, Array.size_push, Int.toNat_natCast, List.toList_toArray, Nat.min_def, Nat.reduceLeDiff, Nat.reducePow, Int.reducePow, Int.reduceToNat, Int.tdiv_eq_ediv_of_nonneg, Int.tmod_eq_emod_of_nonneg, Int.fdiv_eq_ediv_of_nonneg, Nat.mul_one, Nat.reduceAdd, Nat.zero_add, Nat.add_zero, implies_true, false_implies, true_implies]
  refine eff_call_of ?_
  simp (disch := first | omega | assumption) only [C.ref2_bytes_gos, vs, T.ts, and_true, true_and, List.getElem?_toArray, List.getElem?_cons_zero, List.getElem?_cons_succ, ↓reduceIte, Nat.reduceEqDiff, Option.bind_some, Option.map_some, Option.isSome_some, ne_eq, Bool.not_true, Bool.not_false, Bool.true_eq_false, Bool.false_eq_true, Bool.not_eq_true', Bool.not_eq_false', reduceCtorEq, Option.some.injEq, decide_eq_true_eq, decide_eq_false_iff_not, not_true_eq_false, not_false_eq_true, decide_true, decide_false, List.size_toArray, List.length_cons, List.length_nil, List.cons_append, List.nil_append, List.append_nil, List.map_cons, List.map_nil, Array.size_push, Int.toNat_natCast, List.toList_toArray, Nat.min_def, Nat.reduceLeDiff, Nat.reducePow, Int.reducePow, Int.reduceToNat, Int.tdiv_eq_ediv_of_nonneg, Int.tmod_eq_emod_of_nonneg, Int.fdiv_eq_ediv_of_nonneg, Nat.mul_one, Nat.reduceAdd, Nat.zero_add, Nat.add_zero, implies_true, false_implies, true_implies]
  refine (rin_any x n sign hn h1).mono ?_
  rintro v2 h2 ⟨rfl, rfl⟩
  simp (disch := first | omega | assumption) only [C.ref2_bytes_gos, vs, T.ts, and_true, true_and, List.getElem?_toArray, List.getElem?_cons_zero, List.getElem?_cons_succ, ↓reduceIte, Nat.reduceEqDiff, Option.bind_some, Option.map_some, Option.isSome_some, ne_eq, Bool.not_true, Bool.not_false, Bool.true_eq_false, Bool.false_eq_true, Bool.not_eq_true', Bool.not_eq_false', reduceCtorEq, Option.some.injEq, decide_eq_true_eq, decide_eq_false_iff_not, not_true_eq_false, not_false_eq_true, decide_true, decide_false, List.size_toArray, List.length_cons, List.length_nil, List.cons_append, List.nil_append, List.append_nil, List.map_cons, List.map_nil, Array.size_push, Int.toNat_natCast, List.toList_toArray, Nat.min_def, Nat.reduceLeDiff, Nat.reducePow, Int.reducePow, Int.reduceToNat, Int.tdiv_eq_ediv_of_nonneg, Int.tmod_eq_emod_of_nonneg, Int.fdiv_eq_ediv_of_nonneg, Nat.mul_one, Nat.reduceAdd, Nat.zero_add, Nat.add_zero, implies_true, false_implies, true_implies]
  exact x1
theorem inS_t (x : Int) (n : Nat) : inS x n true = okI x n := rfl
theorem inS_f (x : Int) (n : Nat) : inS x n false = okU x n := rfl

def choM (x : In) (f : Nat) (s : ES) : ES :=
  let s1 := sgnS s (wr (x.tgts.getD 0 0 - x.at')) 4
  let s2 := if f = 10 then sgnS (sgnS s1 x.low 4) (wr (wr (x.low + (x.tgts.length - 1 : Nat)) - 1)) 4 else sgnS s1 (x.tgts.length - 1 : Nat) 4
  rowE f x.keys x.at' (x.tgts.drop 1) 0 s2
abbrev choBad (x : In) (f : Nat) : Prop := x.tgts.length = 0 ∨ (f = 10 ∧ x.tgts.length = 1) ∨ (f = 11 ∧ x.tgts.length ≠ x.keys.length + 1)
theorem choE_eq (x : In) (f : Nat) (s : ES) : choE x f s = if choBad x f then (padS s.1, false) else choM x f (padS s.1, s.2) := rfl
def choX (x : In) (f : Nat) (p : Nat) : ES := if choBad x f then ([], false) else choM x f (UInt8.ofNat x.op :: List.replicate ((4 - (p + 1) % 4) % 4) 0, true)
def encX (x : In) (f : Nat) (p : Nat) : ES :=
  if f = 10 ∨ f = 11 then choX x f p
  else if x.tgts.length ≠ (if f = 8 ∨ f = 9 then 1 else 0) then ([], false)
  else oneE x f ([], true)
def esV (r : ES) : Value := .tuple #[str r.1, .bool r.2]
theorem okI_count (n : Nat) (hn : n ≤ 1073741824) : okI (n : Int) 4 = true := by
  simp only [okI, Bool.and_eq_true, decide_eq_true_eq]
  constructor <;> simp <;> omega

set_option maxHeartbeats 8000000 in
theorem rchoice_any (x : In) (f p : Nat) (vk vt : Value) (h : Heap) (hf : f = 10 ∨ f = 11) (hx : x.Fit) (hp : x.at' = (p : Int)) (hp2 : p ≤ 1073741824) (hk : SlN h 1 vk x.keys.length (intsV x.keys)) (ht : SlN h 1 vt x.tgts.length (intsV x.tgts)) (htc : capOk vt)
    (hkl : x.keys.length ≤ 1073741824) (htl : x.tgts.length ≤ 1073741824) :
    HCalls Try.prog 33 #[.agg (enV x vk vt), .bool (decide (f = 11))] h fun v h' => Ext h h' ∧ v = esV (choX x f p) := by
  refine C.ref2_choice_calls (args := [.agg (enV x vk vt), .bool (decide (f = 11))]) rfl ?_
  have hk' := hk
  have ht' := ht
  obtain ⟨_, ak, ck, rfl, _⟩ := hk'
  obtain ⟨_, at7, ct, rfl, _⟩ := ht'
  have hcap : x.tgts.length ≤ ct := htc
  have hop := hx.op
  have hopb : UInt8.ofNat ((x.op : Int)).toNat = UInt8.ofNat x.op := by simp
  simp only [enV, InV]
  generalize hX : choX x f p = X
  simp (disch := first | omega | assumption) only [C.ref2_choice_gos, vs, T.ts, and_true, true_and, List.getElem?_toArray, List.getElem?_cons_zero, List.getElem?_cons_succ, ↓reduceIte, Nat.reduceEqDiff, Option.bind_some, Option.map_some, Option.isSome_some, ne_eq, Bool.not_true, Bool.not_false, Bool.true_eq_false, Bool.false_eq_true, Bool.not_eq_true', Bool.not_eq_false', reduceCtorEq, Option.some.injEq, decide_eq_true_eq, decide_eq_false_iff_not, not_true_eq_false, not_false_eq_true, decide_true, decide_false, List.size_toArray, List.length_cons, List.length_nil, List.cons_append, List.nil_append, List.append_nil, List.map_cons, List.map_nil, Array.size_push, Int.toNat_natCast, List.toList_toArray, Nat.min_def, Nat.reduceLeDiff, Nat.reducePow, Int.reducePow, Int.reduceToNat, Int.tdiv_eq_ediv_of_nonneg, Int.tmod_eq_emod_of_nonneg, Int.fdiv_eq_ediv_of_nonneg, Nat.mul_one, Nat.reduceAdd, Nat.zero_add, Nat.add_zero, implies_true, false_implies, true_implies]
  refine eff_box ?_
  have E := Ext.push h (.cells #[.int .i64 x.at', .int .u8 (x.op : Int), .bool x.wide, .int .i64 x.A, .int .i64 x.B, .int .i64 x.low, .slice ak x.keys.length ck, .slice at7 x.tgts.length ct] 35)
  have q0 : (h.push (.cells #[.int .i64 x.at', .int .u8 (x.op : Int), .bool x.wide, .int .i64 x.A, .int .i64 x.B, .int .i64 x.low, .slice ak x.keys.length ck, .slice at7 x.tgts.length ct] 35))[h.size]? = some (.cells #[.int .i64 x.at', .int .u8 (x.op : Int), .bool x.wide, .int .i64 x.A, .int .i64 x.B, .int .i64 x.low, .slice ak x.keys.length ck, .slice at7 x.tgts.length ct] 35 (0, 0)) := by simp
  simp (disch := first | omega | assumption) only [C.ref2_choice_gos, vs, T.ts, and_true, true_and, List.getElem?_toArray, List.getElem?_cons_zero, List.getElem?_cons_succ, ↓reduceIte, Nat.reduceEqDiff, Option.bind_some, Option.map_some, Option.isSome_some, ne_eq, Bool.not_true, Bool.not_false, Bool.true_eq_false, Bool.false_eq_true, Bool.not_eq_true', Bool.not_eq_false', reduceCtorEq, Option.some.injEq, decide_eq_true_eq, decide_eq_false_iff_not, not_true_eq_false, not_false_eq_true, decide_true, decide_false, List.size_toArray, List.length_cons, List.length_nil, List.cons_append, List.nil_append, List.append_nil, List.map_cons, List.map_nil, Array.size_push, Int.toNat_natCast, List.toList_toArray, Nat.min_def, Nat.reduceLeDiff, Nat.reducePow, Int.reducePow, Int.reduceToNat, Int.tdiv_eq_ediv_of_nonneg, Int.tmod_eq_emod_of_nonneg, Int.fdiv_eq_ediv_of_nonneg, Nat.mul_one, Nat.reduceAdd, Nat.zero_add, Nat.add_zero, implies_true, false_implies, true_implies]
  generalize h.push (.cells #[.int .i64 x.at', .int .u8 (x.op : Int), .bool x.wide, .int .i64 x.A, .int .i64 x.B, .int .i64 x.low, .slice ak x.keys.length ck, .slice at7 x.tgts.length ct] 35) = h1 at *
  obtain ⟨q, hq⟩ : ∃ y, y = h.size := ⟨_, rfl⟩
  have hqh : h.size ≤ q := by omega
  rw [← hq] at q0 ⊢
  clear hq
  have facts : ∀ hc : Heap, hc[q]? = some (.cells #[.int .i64 x.at', .int .u8 (x.op : Int), .bool x.wide, .int .i64 x.A, .int .i64 x.B, .int .i64 x.low, .slice ak x.keys.length ck, .slice at7 x.tgts.length ct] 35 (0, 0)) → cellAt hc ⟨q, 0, none⟩ = some (.int .i64 (p : Int)) ∧ cellAt hc ⟨q, 1, none⟩ = some (.int .u8 (x.op : Int)) ∧ cellAt hc ⟨q, 5, none⟩ = some (.int .i64 x.low) ∧ cellAt hc ⟨q, 6, none⟩ = some (.slice ak x.keys.length ck) ∧ cellAt hc ⟨q, 7, none⟩ = some (.slice at7 x.tgts.length ct) := by
    intro hc qk
    refine ⟨by rw [cellAt_of qk, ← hp]; rfl, by rw [cellAt_of qk]; rfl, by rw [cellAt_of qk]; rfl, by rw [cellAt_of qk]; rfl, by rw [cellAt_of qk]; rfl⟩
  have fx := facts h1 q0
  simp (disch := first | omega | assumption) only [C.ref2_choice_gos, vs, T.ts, and_true, true_and, List.getElem?_toArray, List.getElem?_cons_zero, List.getElem?_cons_succ, ↓reduceIte, Nat.reduceEqDiff, Option.bind_some, Option.map_some, Option.isSome_some, ne_eq, Bool.not_true, Bool.not_false, Bool.true_eq_false, Bool.false_eq_true, Bool.not_eq_true', Bool.not_eq_false', reduceCtorEq, Option.some.injEq, decide_eq_true_eq, decide_eq_false_iff_not, not_true_eq_false, not_false_eq_true, decide_true, decide_false, List.size_toArray, List.length_cons, List.length_nil, List.cons_append, List.nil_append, List.append_nil, List.map_cons, List.map_nil, Array.size_push, Int.toNat_natCast, List.toList_toArray, Nat.min_def, Nat.reduceLeDiff, Nat.reducePow, Int.reducePow, Int.reduceToNat, Int.tdiv_eq_ediv_of_nonneg, Int.tmod_eq_emod_of_nonneg, Int.fdiv_eq_ediv_of_nonneg, Nat.mul_one, Nat.reduceAdd, Nat.zero_add, Nat.add_zero, implies_true, false_implies, true_implies, fx]
  refine eff_lits T.slT_37 rfl rfl (by decide) ?_
  simp (disch := first | omega | assumption) only [C.ref2_choice_gos, vs, T.ts, and_true, true_and, List.getElem?_toArray, List.getElem?_cons_zero, List.getElem?_cons_succ, ↓reduceIte, Nat.reduceEqDiff, Option.bind_some, Option.map_some, Option.isSome_some, ne_eq, Bool.not_true, Bool.not_false, Bool.true_eq_false, Bool.false_eq_true, Bool.not_eq_true', Bool.not_eq_false', reduceCtorEq, Option.some.injEq, decide_eq_true_eq, decide_eq_false_iff_not, not_true_eq_false, not_false_eq_true, decide_true, decide_false, List.size_toArray, List.length_cons, List.length_nil, List.cons_append, List.nil_append, List.append_nil, List.map_cons, List.map_nil, Array.size_push, Int.toNat_natCast, List.toList_toArray, Nat.min_def, Nat.reduceLeDiff, Nat.reducePow, Int.reducePow, Int.reduceToNat, Int.tdiv_eq_ediv_of_nonneg, Int.tmod_eq_emod_of_nonneg, Int.fdiv_eq_ediv_of_nonneg, Nat.mul_one, Nat.reduceAdd, Nat.zero_add, Nat.add_zero, implies_true, false_implies, true_implies, T.cvl1_37_9, hopb]
  have E2 := E.trans (Ext.push h1 (.cells #[.int .u8 (x.op : Int)] 5))
  have q2 := push_blk (o' := .cells #[.int .u8 (x.op : Int)] 5) q0
  generalize h1.push (.cells #[.int .u8 (x.op : Int)] 5) = h2 at *
  clear E q0
  have fx2 := facts h2 q2
  refine loop_intro [1, 2, 6] (fun m ρ hc => ∃ i : Nat, m = (4 - (p + 1) % 4) % 4 - i ∧ i ≤ (4 - (p + 1) % 4) % 4 ∧ ρ = [(1, .bool (decide (f = 11))), (2, .pointer (some ⟨q, 0, none⟩)), (6, str (UInt8.ofNat x.op :: List.replicate i 0))] ∧ hc = h2) ?_ ?_
  · simp (disch := first | omega | assumption) only [C.ref2_choice_gos, vs, T.ts, and_true, true_and, List.getElem?_toArray, List.getElem?_cons_zero, List.getElem?_cons_succ, ↓reduceIte, Nat.reduceEqDiff, Option.bind_some, Option.map_some, Option.isSome_some, ne_eq, Bool.not_true, Bool.not_false, Bool.true_eq_false, Bool.false_eq_true, Bool.not_eq_true', Bool.not_eq_false', reduceCtorEq, Option.some.injEq, decide_eq_true_eq, decide_eq_false_iff_not, not_true_eq_false, not_false_eq_true, decide_true, decide_false, List.size_toArray, List.length_cons, List.length_nil, List.cons_append, List.nil_append, List.append_nil, List.map_cons, List.map_nil, Array.size_push, Int.toNat_natCast, List.toList_toArray, Nat.min_def, Nat.reduceLeDiff, Nat.reducePow, Int.reducePow, Int.reduceToNat, Int.tdiv_eq_ediv_of_nonneg, Int.tmod_eq_emod_of_nonneg, Int.fdiv_eq_ediv_of_nonneg, Nat.mul_one, Nat.reduceAdd, Nat.zero_add, Nat.add_zero, implies_true, false_implies, true_implies]
    exact ⟨_, 0, rfl, Nat.zero_le _, rfl⟩
  rintro m ρ hc ⟨i, rfl, hi, rfl, rfl⟩
  have hl : (UInt8.ofNat x.op :: List.replicate i (0 : UInt8)).length = i + 1 := by simp
  have hln : ((UInt8.ofNat x.op :: List.replicate i (0 : UInt8)).length : Int) = (i : Int) + 1 := by simp
  by_cases hmore : i < (4 - (p + 1) % 4) % 4
  · have hmod : ¬ ((p : Int) + ((i : Int) + 1)) % 4 = 0 := by omega
    have hstep : (UInt8.ofNat x.op :: List.replicate i (0 : UInt8)) ++ [0] = UInt8.ofNat x.op :: List.replicate (i + 1) 0 := by simp [List.replicate_succ']
    generalize (UInt8.ofNat x.op :: List.replicate i (0 : UInt8)) = sx at *
    have h01 : ([0] : List UInt8).length = 1 := rfl
    simp (disch := first | omega | assumption) only [C.ref2_choice_gos, vs, T.ts, and_true, true_and, List.getElem?_toArray, List.getElem?_cons_zero, List.getElem?_cons_succ, ↓reduceIte, Nat.reduceEqDiff, Option.bind_some, Option.map_some, Option.isSome_some, ne_eq, Bool.not_true, Bool.not_false, Bool.true_eq_false, Bool.false_eq_true, Bool.not_eq_true', Bool.not_eq_false', reduceCtorEq, Option.some.injEq, decide_eq_true_eq, decide_eq_false_iff_not, not_true_eq_false, not_false_eq_true, decide_true, decide_false, List.size_toArray, List.length_cons, List.length_nil, List.cons_append, List.nil_append, List.append_nil, List.map_cons, List.map_nil, Array.size_push, Int.toNat_natCast, List.toList_toArray, Nat.min_def, Nat.reduceLeDiff, Nat.reducePow, Int.reducePow, Int.reduceToNat, Int.tdiv_eq_ediv_of_nonneg, Int.tmod_eq_emod_of_nonneg, Int.fdiv_eq_ediv_of_nonneg, Nat.mul_one, Nat.reduceAdd, Nat.zero_add, Nat.add_zero, implies_true, false_implies, true_implies, fx2, hln, hmod, hstep]
    exact ⟨_, by omega, i + 1, rfl, by omega, rfl⟩
  have hmod : ((p : Int) + ((i : Int) + 1)) % 4 = 0 := by omega
  have hie : i = (4 - (p + 1) % 4) % 4 := by omega
  rw [show (UInt8.ofNat x.op :: List.replicate i (0 : UInt8)) = (UInt8.ofNat x.op :: List.replicate ((4 - (p + 1) % 4) % 4) (0 : UInt8)) by rw [← hie]] at *
  unfold choX at hX
  have hsl : (UInt8.ofNat x.op :: List.replicate ((4 - (p + 1) % 4) % 4) (0 : UInt8)).length ≤ 4 := by simp; omega
  generalize hsx : (UInt8.ofNat x.op :: List.replicate ((4 - (p + 1) % 4) % 4) (0 : UInt8)) = sx at *
  clear hsx
  by_cases hbad : choBad x f
  · rw [if_pos hbad] at hX
    subst hX
    by_cases b1 : (x.tgts.length : Int) - 1 < 0
    · simp (disch := first | omega | assumption) only [C.ref2_choice_gos, vs, T.ts, and_true, true_and, List.getElem?_toArray, List.getElem?_cons_zero, List.getElem?_cons_succ, ↓reduceIte, Nat.reduceEqDiff, Option.bind_some, Option.map_some, Option.isSome_some, ne_eq, Bool.not_true, Bool.not_false, Bool.true_eq_false, Bool.false_eq_true, Bool.not_eq_true', Bool.not_eq_false', reduceCtorEq, Option.some.injEq, decide_eq_true_eq, decide_eq_false_iff_not, not_true_eq_false, not_false_eq_true, decide_true, decide_false, List.size_toArray, List.length_cons, List.length_nil, List.cons_append, List.nil_append, List.append_nil, List.map_cons, List.map_nil, Array.size_push, Int.toNat_natCast, List.toList_toArray, Nat.min_def, Nat.reduceLeDiff, Nat.reducePow, Int.reducePow, Int.reduceToNat, Int.tdiv_eq_ediv_of_nonneg, Int.tmod_eq_emod_of_nonneg, Int.fdiv_eq_ediv_of_nonneg, Nat.mul_one, Nat.reduceAdd, Nat.zero_add, Nat.add_zero, implies_true, false_implies, true_implies, fx2, hln, eq_true hmod, b1]
      exact ⟨E2, rfl⟩
    rcases hf with rfl | rfl
    · have b2 : (x.tgts.length : Int) - 1 < 1 := by omega
      simp (disch := first | omega | assumption) only [C.ref2_choice_gos, vs, T.ts, and_true, true_and, List.getElem?_toArray, List.getElem?_cons_zero, List.getElem?_cons_succ, ↓reduceIte, Nat.reduceEqDiff, Option.bind_some, Option.map_some, Option.isSome_some, ne_eq, Bool.not_true, Bool.not_false, Bool.true_eq_false, Bool.false_eq_true, Bool.not_eq_true', Bool.not_eq_false', reduceCtorEq, Option.some.injEq, decide_eq_true_eq, decide_eq_false_iff_not, not_true_eq_false, not_false_eq_true, decide_true, decide_false, List.size_toArray, List.length_cons, List.length_nil, List.cons_append, List.nil_append, List.append_nil, List.map_cons, List.map_nil, Array.size_push, Int.toNat_natCast, List.toList_toArray, Nat.min_def, Nat.reduceLeDiff, Nat.reducePow, Int.reducePow, Int.reduceToNat, Int.tdiv_eq_ediv_of_nonneg, Int.tmod_eq_emod_of_nonneg, Int.fdiv_eq_ediv_of_nonneg, Nat.mul_one, Nat.reduceAdd, Nat.zero_add, Nat.add_zero, implies_true, false_implies, true_implies, fx2, hln, eq_true hmod, b1, b2, Nat.reduceEqDiff, decide_true, decide_false]
      exact ⟨E2, rfl⟩
    · have b2 : ¬ (x.tgts.length : Int) - 1 = x.keys.length := by
        rcases hbad with hb | hb | hb <;> omega
      simp (disch := first | omega | assumption) only [C.ref2_choice_gos, vs, T.ts, and_true, true_and, List.getElem?_toArray, List.getElem?_cons_zero, List.getElem?_cons_succ, ↓reduceIte, Nat.reduceEqDiff, Option.bind_some, Option.map_some, Option.isSome_some, ne_eq, Bool.not_true, Bool.not_false, Bool.true_eq_false, Bool.false_eq_true, Bool.not_eq_true', Bool.not_eq_false', reduceCtorEq, Option.some.injEq, decide_eq_true_eq, decide_eq_false_iff_not, not_true_eq_false, not_false_eq_true, decide_true, decide_false, List.size_toArray, List.length_cons, List.length_nil, List.cons_append, List.nil_append, List.append_nil, List.map_cons, List.map_nil, Array.size_push, Int.toNat_natCast, List.toList_toArray, Nat.min_def, Nat.reduceLeDiff, Nat.reducePow, Int.reducePow, Int.reduceToNat, Int.tdiv_eq_ediv_of_nonneg, Int.tmod_eq_emod_of_nonneg, Int.fdiv_eq_ediv_of_nonneg, Nat.mul_one, Nat.reduceAdd, Nat.zero_add, Nat.add_zero, implies_true, false_implies, true_implies, fx2, hln, eq_true hmod, b1, eq_false b2, Nat.reduceEqDiff, decide_true, decide_false]
      exact ⟨E2, rfl⟩
  rw [if_neg hbad] at hX
  have b1 : ¬ (x.tgts.length : Int) - 1 < 0 := by omega
  have h1t : 1 ≤ x.tgts.length := by omega
  have hn1 : (x.tgts.length : Int) - 1 = ((x.tgts.length - 1 : Nat) : Int) := by omega
  have wrt : ∀ n : Int, IntKind.i64.wrap (n - (p : Int)) = wr (n - x.at') := fun n => by rw [hp]; rfl
  obtain ⟨tb, to, tc, heqt, hcell0⟩ : ∃ tb to tc, (Value.slice at7 x.tgts.length ct) = .slice (some ⟨tb, to, none⟩) x.tgts.length tc ∧ ∀ j, j < x.tgts.length → ∀ h', Ext h h' → cellAt h' ⟨tb, to + j, none⟩ = some (.int .i64 (x.tgts.getD j 0)) := by
    obtain ⟨b, o, c, he, _, _⟩ := ht.at (i := 0) (by omega)
    refine ⟨b, o, c, he, ?_⟩
    intro j hj h' hx'
    obtain ⟨b2, o2, c2, he2, hr2, _⟩ := (ht.ext (by decide) hx').at (i := j) hj
    rw [he] at he2
    cases he2
    have := hr2 0 (.int .i64 (x.tgts.getD j 0)) (by simp [intsV, hj])
    simpa using this
  cases heqt
  have t0 := hcell0 0 (by omega) _ E2
  rw [Nat.add_zero] at t0
  have hpos : (0 : Int) < x.tgts.length := by omega
  have facts2 : ∀ hc : Heap, hc[q]? = some (.cells #[.int .i64 x.at', .int .u8 (x.op : Int), .bool x.wide, .int .i64 x.A, .int .i64 x.B, .int .i64 x.low, .slice ak x.keys.length ck, .slice (some ⟨tb, to, none⟩) x.tgts.length ct] 35 (0, 0)) → cellAt hc ⟨q, 0, none⟩ = some (.int .i64 (p : Int)) ∧ cellAt hc ⟨q, 5, none⟩ = some (.int .i64 x.low) ∧ cellAt hc ⟨q, 6, none⟩ = some (.slice ak x.keys.length ck) ∧ cellAt hc ⟨q, 7, none⟩ = some (.slice (some ⟨tb, to, none⟩) x.tgts.length ct) := by
    intro hc qk
    refine ⟨by rw [cellAt_of qk, ← hp]; rfl, by rw [cellAt_of qk]; rfl, by rw [cellAt_of qk]; rfl, by rw [cellAt_of qk]; rfl⟩
  clear facts
  have bl : ∀ z, (bigS z 4).length = 4 := fun z => bigS_len
  rcases hf with rfl | rfl
  · have b2 : ¬ (x.tgts.length : Int) - 1 < 1 := by
      intro hh; exact hbad (Or.inr (Or.inl ⟨rfl, by omega⟩))
    rw [hn1] at b1 b2
    simp (disch := first | omega | assumption) only [C.ref2_choice_gos, vs, T.ts, and_true, true_and, List.getElem?_toArray, List.getElem?_cons_zero, List.getElem?_cons_succ, ↓reduceIte, Nat.reduceEqDiff, Option.bind_some, Option.map_some, Option.isSome_some, ne_eq, Bool.not_true, Bool.not_false, Bool.true_eq_false, Bool.false_eq_true, Bool.not_eq_true', Bool.not_eq_false', reduceCtorEq, Option.some.injEq, decide_eq_true_eq, decide_eq_false_iff_not, not_true_eq_false, not_false_eq_true, decide_true, decide_false, List.size_toArray, List.length_cons, List.length_nil, List.cons_append, List.nil_append, List.append_nil, List.map_cons, List.map_nil, Array.size_push, Int.toNat_natCast, List.toList_toArray, Nat.min_def, Nat.reduceLeDiff, Nat.reducePow, Int.reducePow, Int.reduceToNat, Int.tdiv_eq_ediv_of_nonneg, Int.tmod_eq_emod_of_nonneg, Int.fdiv_eq_ediv_of_nonneg, Nat.mul_one, Nat.reduceAdd, Nat.zero_add, Nat.add_zero, implies_true, false_implies, true_implies, fx2, hln, eq_true hmod, b1, b2, t0, hpos, wrt, hn1, Nat.reduceEqDiff, Nat.zero_mul, decide_true, decide_false]
    refine eff_call_of ?_
    simp (disch := first | omega | assumption) only [C.ref2_choice_gos, vs, T.ts, and_true, true_and, List.getElem?_toArray, List.getElem?_cons_zero, List.getElem?_cons_succ, ↓reduceIte, Nat.reduceEqDiff, Option.bind_some, Option.map_some, Option.isSome_some, ne_eq, Bool.not_true, Bool.not_false, Bool.true_eq_false, Bool.false_eq_true, Bool.not_eq_true', Bool.not_eq_false', reduceCtorEq, Option.some.injEq, decide_eq_true_eq, decide_eq_false_iff_not, not_true_eq_false, not_false_eq_true, decide_true, decide_false, List.size_toArray, List.length_cons, List.length_nil, List.cons_append, List.nil_append, List.append_nil, List.map_cons, List.map_nil, Array.size_push, Int.toNat_natCast, List.toList_toArray, Nat.min_def, Nat.reduceLeDiff, Nat.reducePow, Int.reducePow, Int.reduceToNat, Int.tdiv_eq_ediv_of_nonneg, Int.tmod_eq_emod_of_nonneg, Int.fdiv_eq_ediv_of_nonneg, Nat.mul_one, Nat.reduceAdd, Nat.zero_add, Nat.add_zero, implies_true, false_implies, true_implies]
    refine (rbytes_any _ 4 true (by omega) _).mono ?_
    intro v3 h3 hp3
    have x3 := hp3.1
    have hv3 := hp3.2
    rw [inS_t] at hv3
    have fx3 := facts2 h3 (Fr_blk x3 q2 id)
    have bl1 := bl (atU (wr (x.tgts.getD 0 0 - x.at')))
    simp (disch := first | omega | assumption) only [C.ref2_choice_gos, vs, T.ts, and_true, true_and, List.getElem?_toArray, List.getElem?_cons_zero, List.getElem?_cons_succ, ↓reduceIte, Nat.reduceEqDiff, Option.bind_some, Option.map_some, Option.isSome_some, ne_eq, Bool.not_true, Bool.not_false, Bool.true_eq_false, Bool.false_eq_true, Bool.not_eq_true', Bool.not_eq_false', reduceCtorEq, Option.some.injEq, decide_eq_true_eq, decide_eq_false_iff_not, not_true_eq_false, not_false_eq_true, decide_true, decide_false, List.size_toArray, List.length_cons, List.length_nil, List.cons_append, List.nil_append, List.append_nil, List.map_cons, List.map_nil, Array.size_push, Int.toNat_natCast, List.toList_toArray, Nat.min_def, Nat.reduceLeDiff, Nat.reducePow, Int.reducePow, Int.reduceToNat, Int.tdiv_eq_ediv_of_nonneg, Int.tmod_eq_emod_of_nonneg, Int.fdiv_eq_ediv_of_nonneg, Nat.mul_one, Nat.reduceAdd, Nat.zero_add, Nat.add_zero, implies_true, false_implies, true_implies, hv3, fx3]
    refine eff_call_of ?_
    simp (disch := first | omega | assumption) only [C.ref2_choice_gos, vs, T.ts, and_true, true_and, List.getElem?_toArray, List.getElem?_cons_zero, List.getElem?_cons_succ, ↓reduceIte, Nat.reduceEqDiff, Option.bind_some, Option.map_some, Option.isSome_some, ne_eq, Bool.not_true, Bool.not_false, Bool.true_eq_false, Bool.false_eq_true, Bool.not_eq_true', Bool.not_eq_false', reduceCtorEq, Option.some.injEq, decide_eq_true_eq, decide_eq_false_iff_not, not_true_eq_false, not_false_eq_true, decide_true, decide_false, List.size_toArray, List.length_cons, List.length_nil, List.cons_append, List.nil_append, List.append_nil, List.map_cons, List.map_nil, Array.size_push, Int.toNat_natCast, List.toList_toArray, Nat.min_def, Nat.reduceLeDiff, Nat.reducePow, Int.reducePow, Int.reduceToNat, Int.tdiv_eq_ediv_of_nonneg, Int.tmod_eq_emod_of_nonneg, Int.fdiv_eq_ediv_of_nonneg, Nat.mul_one, Nat.reduceAdd, Nat.zero_add, Nat.add_zero, implies_true, false_implies, true_implies]
    refine (rbytes_any _ 4 true (by omega) _).mono ?_
    intro v4 h4 hp4
    have x4 := hp4.1
    have hv4 := hp4.2
    rw [inS_t] at hv4
    have fx4 := facts2 h4 (Fr_blk x4 (Fr_blk x3 q2 id) id)
    have bl2 := bl (atU x.low)
    have wr2 : IntKind.i64.wrap (x.low + ((x.tgts.length - 1 : Nat) : Int)) = wr (x.low + ((x.tgts.length - 1 : Nat) : Int)) := rfl
    have wr3 : IntKind.i64.wrap (wr (x.low + ((x.tgts.length - 1 : Nat) : Int)) - 1) = wr (wr (x.low + ((x.tgts.length - 1 : Nat) : Int)) - 1) := rfl
    simp (disch := first | omega | assumption) only [C.ref2_choice_gos, vs, T.ts, and_true, true_and, List.getElem?_toArray, List.getElem?_cons_zero, List.getElem?_cons_succ, ↓reduceIte, Nat.reduceEqDiff, Option.bind_some, Option.map_some, Option.isSome_some, ne_eq, Bool.not_true, Bool.not_false, Bool.true_eq_false, Bool.false_eq_true, Bool.not_eq_true', Bool.not_eq_false', reduceCtorEq, Option.some.injEq, decide_eq_true_eq, decide_eq_false_iff_not, not_true_eq_false, not_false_eq_true, decide_true, decide_false, List.size_toArray, List.length_cons, List.length_nil, List.cons_append, List.nil_append, List.append_nil, List.map_cons, List.map_nil, Array.size_push, Int.toNat_natCast, List.toList_toArray, Nat.min_def, Nat.reduceLeDiff, Nat.reducePow, Int.reducePow, Int.reduceToNat, Int.tdiv_eq_ediv_of_nonneg, Int.tmod_eq_emod_of_nonneg, Int.fdiv_eq_ediv_of_nonneg, Nat.mul_one, Nat.reduceAdd, Nat.zero_add, Nat.add_zero, implies_true, false_implies, true_implies, hv4, fx4, wr2, wr3]
    refine eff_call_of ?_
    simp (disch := first | omega | assumption) only [C.ref2_choice_gos, vs, T.ts, and_true, true_and, List.getElem?_toArray, List.getElem?_cons_zero, List.getElem?_cons_succ, ↓reduceIte, Nat.reduceEqDiff, Option.bind_some, Option.map_some, Option.isSome_some, ne_eq, Bool.not_true, Bool.not_false, Bool.true_eq_false, Bool.false_eq_true, Bool.not_eq_true', Bool.not_eq_false', reduceCtorEq, Option.some.injEq, decide_eq_true_eq, decide_eq_false_iff_not, not_true_eq_false, not_false_eq_true, decide_true, decide_false, List.size_toArray, List.length_cons, List.length_nil, List.cons_append, List.nil_append, List.append_nil, List.map_cons, List.map_nil, Array.size_push, Int.toNat_natCast, List.toList_toArray, Nat.min_def, Nat.reduceLeDiff, Nat.reducePow, Int.reducePow, Int.reduceToNat, Int.tdiv_eq_ediv_of_nonneg, Int.tmod_eq_emod_of_nonneg, Int.fdiv_eq_ediv_of_nonneg, Nat.mul_one, Nat.reduceAdd, Nat.zero_add, Nat.add_zero, implies_true, false_implies, true_implies]
    refine (rbytes_any _ 4 true (by omega) _).mono ?_
    intro v5 h5 hp5
    have x5 := hp5.1
    have hv5 := hp5.2
    rw [inS_t] at hv5
    have q5 := Fr_blk x5 (Fr_blk x4 (Fr_blk x3 q2 id) id) id
    have bl3 := bl (atU (wr (wr (x.low + ((x.tgts.length - 1 : Nat) : Int)) - 1)))
    have E5 := ((E2.trans x3).trans x4).trans x5
    have hla : ∀ u v : List UInt8, (u ++ v).length = u.length + v.length := fun u v => List.length_append
    have hX2 : ∀ oo, oo = ((okI (wr (x.tgts.getD 0 0 - x.at')) 4 && okI x.low 4) && okI (wr (wr (x.low + ((x.tgts.length - 1 : Nat) : Int)) - 1)) 4) → rowE 10 x.keys x.at' (x.tgts.drop (1 + 0)) 0 (sx ++ bigS (atU (wr (x.tgts.getD 0 0 - x.at'))) 4 ++ (bigS (atU x.low) 4 ++ bigS (atU (wr (wr (x.low + ((x.tgts.length - 1 : Nat) : Int)) - 1))) 4), oo) = X := by
      rintro oo rfl
      rw [← hX]
      simp [choM, sgnS, putS]
    clear hX
    have hcs : (okI (wr (x.tgts.getD 0 0 - x.at')) 4 = false) ∨ (okI (wr (x.tgts.getD 0 0 - x.at')) 4 = true ∧ okI x.low 4 = false) ∨ (okI (wr (x.tgts.getD 0 0 - x.at')) 4 = true ∧ okI x.low 4 = true) := by
      cases okI (wr (x.tgts.getD 0 0 - x.at')) 4 <;> cases okI x.low 4 <;> simp
    rcases hcs with fc | fc | fc
    all_goals
      simp only [fc, Bool.false_and, Bool.and_false, Bool.true_and] at hX2
      have hX3 := hX2 _ rfl
      clear hX2
      generalize hB1 : bigS (atU (wr (x.tgts.getD 0 0 - x.at'))) 4 = B1 at *
      generalize hB2 : bigS (atU x.low) 4 = B2 at *
      generalize hB3 : bigS (atU (wr (wr (x.low + ((x.tgts.length - 1 : Nat) : Int)) - 1))) 4 = B3 at *
      have h12 := hla sx B1
      have h23 := hla B2 B3
      have h123 := hla (sx ++ B1) (B2 ++ B3)
      simp (disch := first | omega | assumption) only [C.ref2_choice_gos, vs, T.ts, and_true, true_and, List.getElem?_toArray, List.getElem?_cons_zero, List.getElem?_cons_succ, ↓reduceIte, Nat.reduceEqDiff, Option.bind_some, Option.map_some, Option.isSome_some, ne_eq, Bool.not_true, Bool.not_false, Bool.true_eq_false, Bool.false_eq_true, Bool.not_eq_true', Bool.not_eq_false', reduceCtorEq, Option.some.injEq, decide_eq_true_eq, decide_eq_false_iff_not, not_true_eq_false, not_false_eq_true, decide_true, decide_false, List.size_toArray, List.length_cons, List.length_nil, List.cons_append, List.nil_append, List.append_nil, List.map_cons, List.map_nil, Array.size_push, Int.toNat_natCast, List.toList_toArray, Nat.min_def, Nat.reduceLeDiff, Nat.reducePow, Int.reducePow, Int.reduceToNat, Int.tdiv_eq_ediv_of_nonneg, Int.tmod_eq_emod_of_nonneg, Int.fdiv_eq_ediv_of_nonneg, Nat.mul_one, Nat.reduceAdd, Nat.zero_add, Nat.add_zero, implies_true, false_implies, true_implies, hv5, fc]
      refine eff_bytes_of (base := h.size) Try.underlying9 Try.underlying37 Try.underlying5 rfl E5.size (by omega) ?_
      intro v6 h6 own6 x6
      simp (disch := first | omega | assumption) only [C.ref2_choice_gos, vs, T.ts, and_true, true_and, List.getElem?_toArray, List.getElem?_cons_zero, List.getElem?_cons_succ, ↓reduceIte, Nat.reduceEqDiff, Option.bind_some, Option.map_some, Option.isSome_some, ne_eq, Bool.not_true, Bool.not_false, Bool.true_eq_false, Bool.false_eq_true, Bool.not_eq_true', Bool.not_eq_false', reduceCtorEq, Option.some.injEq, decide_eq_true_eq, decide_eq_false_iff_not, not_true_eq_false, not_false_eq_true, decide_true, decide_false, List.size_toArray, List.length_cons, List.length_nil, List.cons_append, List.nil_append, List.append_nil, List.map_cons, List.map_nil, Array.size_push, Int.toNat_natCast, List.toList_toArray, Nat.min_def, Nat.reduceLeDiff, Nat.reducePow, Int.reducePow, Int.reduceToNat, Int.tdiv_eq_ediv_of_nonneg, Int.tmod_eq_emod_of_nonneg, Int.fdiv_eq_ediv_of_nonneg, Nat.mul_one, Nat.reduceAdd, Nat.zero_add, Nat.add_zero, implies_true, false_implies, true_implies]
      refine loop_intro [1, 2, 7, 9, 14, 15] (fun m ρ hc => ∃ (i : Nat) (s' : ES) (vo : Value), m = (x.tgts.length - 1) - i ∧ i ≤ x.tgts.length - 1 ∧ ρ = [(1, .bool false), (2, .pointer (some ⟨q, 0, none⟩)), (7, .int .i64 (x.tgts.length - 1 : Nat)), (9, .bool s'.2), (14, vo), (15, .int .i64 ((i : Int) + 1))] ∧
        Ext h hc ∧ Own hc h.size 5 1 vo s'.1.length (bytesV s'.1) ∧ hc[q]? = some (.cells #[.int .i64 x.at', .int .u8 (x.op : Int), .bool x.wide, .int .i64 x.A, .int .i64 x.B, .int .i64 x.low, .slice ak x.keys.length ck, .slice (some ⟨tb, to, none⟩) x.tgts.length ct] 35 (0, 0)) ∧ rowE 10 x.keys x.at' (x.tgts.drop (1 + i)) i s' = X ∧ s'.1.length ≤ 64 + 8 * i) ?_ ?_
      · simp (disch := first | omega | assumption) only [C.ref2_choice_gos, vs, T.ts, and_true, true_and, List.getElem?_toArray, List.getElem?_cons_zero, List.getElem?_cons_succ, ↓reduceIte, Nat.reduceEqDiff, Option.bind_some, Option.map_some, Option.isSome_some, ne_eq, Bool.not_true, Bool.not_false, Bool.true_eq_false, Bool.false_eq_true, Bool.not_eq_true', Bool.not_eq_false', reduceCtorEq, Option.some.injEq, decide_eq_true_eq, decide_eq_false_iff_not, not_true_eq_false, not_false_eq_true, decide_true, decide_false, List.size_toArray, List.length_cons, List.length_nil, List.cons_append, List.nil_append, List.append_nil, List.map_cons, List.map_nil, Array.size_push, Int.toNat_natCast, List.toList_toArray, Nat.min_def, Nat.reduceLeDiff, Nat.reducePow, Int.reducePow, Int.reduceToNat, Int.tdiv_eq_ediv_of_nonneg, Int.tmod_eq_emod_of_nonneg, Int.fdiv_eq_ediv_of_nonneg, Nat.mul_one, Nat.reduceAdd, Nat.zero_add, Nat.add_zero, implies_true, false_implies, true_implies]
        exact ⟨_, 0, (_, _), _, rfl, Nat.zero_le _, rfl, E5.trans x6, own6, Fr_blk x6 q5 id, hX3, by simp only; omega⟩
      rintro m ρ hc ⟨i, ⟨b', ok'⟩, vo, rfl, hi, rfl, HX, own, qk, hR, hsl'⟩
      simp only at own hsl'
      have hti : ((i : Int) + 1).toNat = i + 1 := by omega
      rcases Nat.lt_or_ge i (x.tgts.length - 1) with hlt | hge
      case inr =>
        have hlt' : ¬ (i : Int) + 1 ≤ ((x.tgts.length - 1 : Nat) : Int) := by omega
        have hd : x.tgts.drop (1 + i) = [] := by rw [List.drop_eq_nil_iff]; omega
        rw [hd, rowE] at hR
        subst hR
        simp (disch := first | omega | assumption) only [C.ref2_choice_gos, vs, T.ts, and_true, true_and, List.getElem?_toArray, List.getElem?_cons_zero, List.getElem?_cons_succ, ↓reduceIte, Nat.reduceEqDiff, Option.bind_some, Option.map_some, Option.isSome_some, ne_eq, Bool.not_true, Bool.not_false, Bool.true_eq_false, Bool.false_eq_true, Bool.not_eq_true', Bool.not_eq_false', reduceCtorEq, Option.some.injEq, decide_eq_true_eq, decide_eq_false_iff_not, not_true_eq_false, not_false_eq_true, decide_true, decide_false, List.size_toArray, List.length_cons, List.length_nil, List.cons_append, List.nil_append, List.append_nil, List.map_cons, List.map_nil, Array.size_push, Int.toNat_natCast, List.toList_toArray, Nat.min_def, Nat.reduceLeDiff, Nat.reducePow, Int.reducePow, Int.reduceToNat, Int.tdiv_eq_ediv_of_nonneg, Int.tmod_eq_emod_of_nonneg, Int.fdiv_eq_ediv_of_nonneg, Nat.mul_one, Nat.reduceAdd, Nat.zero_add, Nat.add_zero, implies_true, false_implies, true_implies, hlt', T.cvo_37_9 own]
        exact ⟨HX, rfl⟩
      have hlt' : (i : Int) + 1 ≤ ((x.tgts.length - 1 : Nat) : Int) := by omega
      have hdr : x.tgts.drop (1 + i) = x.tgts.getD (1 + i) 0 :: x.tgts.drop (1 + (i + 1)) := by
        rw [drop_getD (d := 0) (by omega), show 1 + i + 1 = 1 + (i + 1) by omega]
      have hct := hcell0 (i + 1) (by omega) hc HX
      rw [show i + 1 = 1 + i by omega] at hct hti
      rw [hdr, rowE, if_neg (by decide)] at hR
      have hib : (i : Int) + 1 < (x.tgts.length : Int) := by omega
      have fxk := facts2 hc qk
      simp (disch := first | omega | assumption) only [C.ref2_choice_gos, vs, T.ts, and_true, true_and, List.getElem?_toArray, List.getElem?_cons_zero, List.getElem?_cons_succ, ↓reduceIte, Nat.reduceEqDiff, Option.bind_some, Option.map_some, Option.isSome_some, ne_eq, Bool.not_true, Bool.not_false, Bool.true_eq_false, Bool.false_eq_true, Bool.not_eq_true', Bool.not_eq_false', reduceCtorEq, Option.some.injEq, decide_eq_true_eq, decide_eq_false_iff_not, not_true_eq_false, not_false_eq_true, decide_true, decide_false, List.size_toArray, List.length_cons, List.length_nil, List.cons_append, List.nil_append, List.append_nil, List.map_cons, List.map_nil, Array.size_push, Int.toNat_natCast, List.toList_toArray, Nat.min_def, Nat.reduceLeDiff, Nat.reducePow, Int.reducePow, Int.reduceToNat, Int.tdiv_eq_ediv_of_nonneg, Int.tmod_eq_emod_of_nonneg, Int.fdiv_eq_ediv_of_nonneg, Nat.mul_one, Nat.reduceAdd, Nat.zero_add, Nat.add_zero, implies_true, false_implies, true_implies, hlt', fxk, hti, hct, wrt, hib]
      refine eff_call_of ?_
      simp (disch := first | omega | assumption) only [C.ref2_choice_gos, vs, T.ts, and_true, true_and, List.getElem?_toArray, List.getElem?_cons_zero, List.getElem?_cons_succ, ↓reduceIte, Nat.reduceEqDiff, Option.bind_some, Option.map_some, Option.isSome_some, ne_eq, Bool.not_true, Bool.not_false, Bool.true_eq_false, Bool.false_eq_true, Bool.not_eq_true', Bool.not_eq_false', reduceCtorEq, Option.some.injEq, decide_eq_true_eq, decide_eq_false_iff_not, not_true_eq_false, not_false_eq_true, decide_true, decide_false, List.size_toArray, List.length_cons, List.length_nil, List.cons_append, List.nil_append, List.append_nil, List.map_cons, List.map_nil, Array.size_push, Int.toNat_natCast, List.toList_toArray, Nat.min_def, Nat.reduceLeDiff, Nat.reducePow, Int.reducePow, Int.reduceToNat, Int.tdiv_eq_ediv_of_nonneg, Int.tmod_eq_emod_of_nonneg, Int.fdiv_eq_ediv_of_nonneg, Nat.mul_one, Nat.reduceAdd, Nat.zero_add, Nat.add_zero, implies_true, false_implies, true_implies]
      refine (rbytes_any _ 4 true (by omega) _).mono ?_
      intro v7 h7 hp7
      have x7 := hp7.1
      have hv7 := hp7.2
      rw [inS_t] at hv7
      have q7 := Fr_blk x7 qk id
      have own7 := own.ext x7
      simp (disch := first | omega | assumption) only [C.ref2_choice_gos, vs, T.ts, and_true, true_and, List.getElem?_toArray, List.getElem?_cons_zero, List.getElem?_cons_succ, ↓reduceIte, Nat.reduceEqDiff, Option.bind_some, Option.map_some, Option.isSome_some, ne_eq, Bool.not_true, Bool.not_false, Bool.true_eq_false, Bool.false_eq_true, Bool.not_eq_true', Bool.not_eq_false', reduceCtorEq, Option.some.injEq, decide_eq_true_eq, decide_eq_false_iff_not, not_true_eq_false, not_false_eq_true, decide_true, decide_false, List.size_toArray, List.length_cons, List.length_nil, List.cons_append, List.nil_append, List.append_nil, List.map_cons, List.map_nil, Array.size_push, Int.toNat_natCast, List.toList_toArray, Nat.min_def, Nat.reduceLeDiff, Nat.reducePow, Int.reducePow, Int.reduceToNat, Int.tdiv_eq_ediv_of_nonneg, Int.tmod_eq_emod_of_nonneg, Int.fdiv_eq_ediv_of_nonneg, Nat.mul_one, Nat.reduceAdd, Nat.zero_add, Nat.add_zero, implies_true, false_implies, true_implies, hv7]
      refine eff_append_str T.slT_37 Try.underlying9 rfl rfl own7 (by rw [bigS_len]; omega) (by rw [bigS_len]; omega) (HX.trans x7).size ?_
      intro v8 h8 own8 fr8
      have E8 : Ext h h8 := Ext.app (HX.trans x7) fr8 (fun k hk => (own7.lt k hk).1)
      have q8 := Fr_blk fr8 q7 (Own_ne own7 q7 (by decide))
      have own9 : Own h8 h.size 5 1 v8 (b' ++ bigS (atU (wr (x.tgts.getD (1 + i) 0 - x.at'))) 4).length (bytesV (b' ++ bigS (atU (wr (x.tgts.getD (1 + i) 0 - x.at'))) 4)) := Own_cast own8 (by simp) (by simp [bytesV])
      cases ok'
      · simp (disch := first | omega | assumption) only [C.ref2_choice_gos, vs, T.ts, and_true, true_and, List.getElem?_toArray, List.getElem?_cons_zero, List.getElem?_cons_succ, ↓reduceIte, Nat.reduceEqDiff, Option.bind_some, Option.map_some, Option.isSome_some, ne_eq, Bool.not_true, Bool.not_false, Bool.true_eq_false, Bool.false_eq_true, Bool.not_eq_true', Bool.not_eq_false', reduceCtorEq, Option.some.injEq, decide_eq_true_eq, decide_eq_false_iff_not, not_true_eq_false, not_false_eq_true, decide_true, decide_false, List.size_toArray, List.length_cons, List.length_nil, List.cons_append, List.nil_append, List.append_nil, List.map_cons, List.map_nil, Array.size_push, Int.toNat_natCast, List.toList_toArray, Nat.min_def, Nat.reduceLeDiff, Nat.reducePow, Int.reducePow, Int.reduceToNat, Int.tdiv_eq_ediv_of_nonneg, Int.tmod_eq_emod_of_nonneg, Int.fdiv_eq_ediv_of_nonneg, Nat.mul_one, Nat.reduceAdd, Nat.zero_add, Nat.add_zero, implies_true, false_implies, true_implies]
        exact ⟨_, by omega, i + 1, (b' ++ bigS (atU (wr (x.tgts.getD (1 + i) 0 - x.at'))) 4, _), _, rfl, by omega, rfl, E8, own9, q8, hR, by simp [bigS_len]; omega⟩
      · simp (disch := first | omega | assumption) only [C.ref2_choice_gos, vs, T.ts, and_true, true_and, List.getElem?_toArray, List.getElem?_cons_zero, List.getElem?_cons_succ, ↓reduceIte, Nat.reduceEqDiff, Option.bind_some, Option.map_some, Option.isSome_some, ne_eq, Bool.not_true, Bool.not_false, Bool.true_eq_false, Bool.false_eq_true, Bool.not_eq_true', Bool.not_eq_false', reduceCtorEq, Option.some.injEq, decide_eq_true_eq, decide_eq_false_iff_not, not_true_eq_false, not_false_eq_true, decide_true, decide_false, List.size_toArray, List.length_cons, List.length_nil, List.cons_append, List.nil_append, List.append_nil, List.map_cons, List.map_nil, Array.size_push, Int.toNat_natCast, List.toList_toArray, Nat.min_def, Nat.reduceLeDiff, Nat.reducePow, Int.reducePow, Int.reduceToNat, Int.tdiv_eq_ediv_of_nonneg, Int.tmod_eq_emod_of_nonneg, Int.fdiv_eq_ediv_of_nonneg, Nat.mul_one, Nat.reduceAdd, Nat.zero_add, Nat.add_zero, implies_true, false_implies, true_implies]
        exact ⟨_, by omega, i + 1, (b' ++ bigS (atU (wr (x.tgts.getD (1 + i) 0 - x.at'))) 4, _), _, rfl, by omega, rfl, E8, own9, q8, hR, by simp [bigS_len]; omega⟩
  · have b2 : (x.tgts.length : Int) - 1 = x.keys.length := by
      have : ¬ x.tgts.length ≠ x.keys.length + 1 := fun hh => hbad (Or.inr (Or.inr ⟨rfl, hh⟩))
      omega
    have hwn : IntKind.u64.wrap ((x.tgts.length - 1 : Nat) : Int) = ((x.tgts.length - 1 : Nat) : Int) := wrap_u64 (by omega) (by omega)
    have hkn : x.tgts.length - 1 = x.keys.length := by omega
    have hb2' := b2
    rw [hn1] at hb2'
    rw [hn1] at b1
    simp (disch := first | omega | assumption) only [C.ref2_choice_gos, vs, T.ts, and_true, true_and, List.getElem?_toArray, List.getElem?_cons_zero, List.getElem?_cons_succ, ↓reduceIte, Nat.reduceEqDiff, Option.bind_some, Option.map_some, Option.isSome_some, ne_eq, Bool.not_true, Bool.not_false, Bool.true_eq_false, Bool.false_eq_true, Bool.not_eq_true', Bool.not_eq_false', reduceCtorEq, Option.some.injEq, decide_eq_true_eq, decide_eq_false_iff_not, not_true_eq_false, not_false_eq_true, decide_true, decide_false, List.size_toArray, List.length_cons, List.length_nil, List.cons_append, List.nil_append, List.append_nil, List.map_cons, List.map_nil, Array.size_push, Int.toNat_natCast, List.toList_toArray, Nat.min_def, Nat.reduceLeDiff, Nat.reducePow, Int.reducePow, Int.reduceToNat, Int.tdiv_eq_ediv_of_nonneg, Int.tmod_eq_emod_of_nonneg, Int.fdiv_eq_ediv_of_nonneg, Nat.mul_one, Nat.reduceAdd, Nat.zero_add, Nat.add_zero, implies_true, false_implies, true_implies, fx2, hln, eq_true hmod, hn1, b1, eq_true hb2', t0, hpos, wrt, Nat.reduceEqDiff, Nat.zero_mul, decide_true, decide_false]
    refine eff_call_of ?_
    simp (disch := first | omega | assumption) only [C.ref2_choice_gos, vs, T.ts, and_true, true_and, List.getElem?_toArray, List.getElem?_cons_zero, List.getElem?_cons_succ, ↓reduceIte, Nat.reduceEqDiff, Option.bind_some, Option.map_some, Option.isSome_some, ne_eq, Bool.not_true, Bool.not_false, Bool.true_eq_false, Bool.false_eq_true, Bool.not_eq_true', Bool.not_eq_false', reduceCtorEq, Option.some.injEq, decide_eq_true_eq, decide_eq_false_iff_not, not_true_eq_false, not_false_eq_true, decide_true, decide_false, List.size_toArray, List.length_cons, List.length_nil, List.cons_append, List.nil_append, List.append_nil, List.map_cons, List.map_nil, Array.size_push, Int.toNat_natCast, List.toList_toArray, Nat.min_def, Nat.reduceLeDiff, Nat.reducePow, Int.reducePow, Int.reduceToNat, Int.tdiv_eq_ediv_of_nonneg, Int.tmod_eq_emod_of_nonneg, Int.fdiv_eq_ediv_of_nonneg, Nat.mul_one, Nat.reduceAdd, Nat.zero_add, Nat.add_zero, implies_true, false_implies, true_implies]
    refine (rbytes_any _ 4 true (by omega) _).mono ?_
    intro v3 h3 hp3
    have x3 := hp3.1
    have hv3 := hp3.2
    rw [inS_t] at hv3
    have fx3 := facts2 h3 (Fr_blk x3 q2 id)
    have bl1 := bl (atU (wr (x.tgts.getD 0 0 - x.at')))
    simp (disch := first | omega | assumption) only [C.ref2_choice_gos, vs, T.ts, and_true, true_and, List.getElem?_toArray, List.getElem?_cons_zero, List.getElem?_cons_succ, ↓reduceIte, Nat.reduceEqDiff, Option.bind_some, Option.map_some, Option.isSome_some, ne_eq, Bool.not_true, Bool.not_false, Bool.true_eq_false, Bool.false_eq_true, Bool.not_eq_true', Bool.not_eq_false', reduceCtorEq, Option.some.injEq, decide_eq_true_eq, decide_eq_false_iff_not, not_true_eq_false, not_false_eq_true, decide_true, decide_false, List.size_toArray, List.length_cons, List.length_nil, List.cons_append, List.nil_append, List.append_nil, List.map_cons, List.map_nil, Array.size_push, Int.toNat_natCast, List.toList_toArray, Nat.min_def, Nat.reduceLeDiff, Nat.reducePow, Int.reducePow, Int.reduceToNat, Int.tdiv_eq_ediv_of_nonneg, Int.tmod_eq_emod_of_nonneg, Int.fdiv_eq_ediv_of_nonneg, Nat.mul_one, Nat.reduceAdd, Nat.zero_add, Nat.add_zero, implies_true, false_implies, true_implies, hv3, fx3, hwn]
    refine eff_call_of ?_
    simp (disch := first | omega | assumption) only [C.ref2_choice_gos, vs, T.ts, and_true, true_and, List.getElem?_toArray, List.getElem?_cons_zero, List.getElem?_cons_succ, ↓reduceIte, Nat.reduceEqDiff, Option.bind_some, Option.map_some, Option.isSome_some, ne_eq, Bool.not_true, Bool.not_false, Bool.true_eq_false, Bool.false_eq_true, Bool.not_eq_true', Bool.not_eq_false', reduceCtorEq, Option.some.injEq, decide_eq_true_eq, decide_eq_false_iff_not, not_true_eq_false, not_false_eq_true, decide_true, decide_false, List.size_toArray, List.length_cons, List.length_nil, List.cons_append, List.nil_append, List.append_nil, List.map_cons, List.map_nil, Array.size_push, Int.toNat_natCast, List.toList_toArray, Nat.min_def, Nat.reduceLeDiff, Nat.reducePow, Int.reducePow, Int.reduceToNat, Int.tdiv_eq_ediv_of_nonneg, Int.tmod_eq_emod_of_nonneg, Int.fdiv_eq_ediv_of_nonneg, Nat.mul_one, Nat.reduceAdd, Nat.zero_add, Nat.add_zero, implies_true, false_implies, true_implies]
    refine (rbig_any (x.tgts.length - 1) 4 _ (by omega) (by omega)).mono ?_
    intro v4 h4 hp4
    have x4 := hp4.1
    have hv4 := hp4.2
    have bl2 := bl (x.tgts.length - 1)
    have hla : ∀ u v : List UInt8, (u ++ v).length = u.length + v.length := fun u v => List.length_append
    have q5 := Fr_blk x4 (Fr_blk x3 q2 id) id
    have E5 := (E2.trans x3).trans x4
    have hX3 : rowE 11 x.keys x.at' (x.tgts.drop (1 + 0)) 0 (sx ++ bigS (atU (wr (x.tgts.getD 0 0 - x.at'))) 4 ++ bigS (x.tgts.length - 1) 4, okI (wr (x.tgts.getD 0 0 - x.at')) 4) = X := by
      rw [← hX]
      have hc1 := okI_count (x.tgts.length - 1) (by omega)
      have hc2 : atU ((x.tgts.length - 1 : Nat) : Int) = x.tgts.length - 1 := atU_nat (by omega)
      simp only [choM, sgnS, putS, hc1, hc2, Bool.true_and, Bool.and_true, Nat.add_zero, Nat.reduceEqDiff, if_false]
    clear hX
    generalize hB1 : bigS (atU (wr (x.tgts.getD 0 0 - x.at'))) 4 = B1 at *
    generalize hB2 : bigS (x.tgts.length - 1) 4 = B2 at *
    have h12 := hla sx B1
    have h123 := hla (sx ++ B1) B2
    simp (disch := first | omega | assumption) only [C.ref2_choice_gos, vs, T.ts, and_true, true_and, List.getElem?_toArray, List.getElem?_cons_zero, List.getElem?_cons_succ, ↓reduceIte, Nat.reduceEqDiff, Option.bind_some, Option.map_some, Option.isSome_some, ne_eq, Bool.not_true, Bool.not_false, Bool.true_eq_false, Bool.false_eq_true, Bool.not_eq_true', Bool.not_eq_false', reduceCtorEq, Option.some.injEq, decide_eq_true_eq, decide_eq_false_iff_not, not_true_eq_false, not_false_eq_true, decide_true, decide_false, List.size_toArray, List.length_cons, List.length_nil, List.cons_append, List.nil_append, List.append_nil, List.map_cons, List.map_nil, Array.size_push, Int.toNat_natCast, List.toList_toArray, Nat.min_def, Nat.reduceLeDiff, Nat.reducePow, Int.reducePow, Int.reduceToNat, Int.tdiv_eq_ediv_of_nonneg, Int.tmod_eq_emod_of_nonneg, Int.fdiv_eq_ediv_of_nonneg, Nat.mul_one, Nat.reduceAdd, Nat.zero_add, Nat.add_zero, implies_true, false_implies, true_implies, hv4]
    refine eff_bytes_of (base := h.size) Try.underlying9 Try.underlying37 Try.underlying5 rfl E5.size (by omega) ?_
    intro v6 h6 own6 x6
    simp (disch := first | omega | assumption) only [C.ref2_choice_gos, vs, T.ts, and_true, true_and, List.getElem?_toArray, List.getElem?_cons_zero, List.getElem?_cons_succ, ↓reduceIte, Nat.reduceEqDiff, Option.bind_some, Option.map_some, Option.isSome_some, ne_eq, Bool.not_true, Bool.not_false, Bool.true_eq_false, Bool.false_eq_true, Bool.not_eq_true', Bool.not_eq_false', reduceCtorEq, Option.some.injEq, decide_eq_true_eq, decide_eq_false_iff_not, not_true_eq_false, not_false_eq_true, decide_true, decide_false, List.size_toArray, List.length_cons, List.length_nil, List.cons_append, List.nil_append, List.append_nil, List.map_cons, List.map_nil, Array.size_push, Int.toNat_natCast, List.toList_toArray, Nat.min_def, Nat.reduceLeDiff, Nat.reducePow, Int.reducePow, Int.reduceToNat, Int.tdiv_eq_ediv_of_nonneg, Int.tmod_eq_emod_of_nonneg, Int.fdiv_eq_ediv_of_nonneg, Nat.mul_one, Nat.reduceAdd, Nat.zero_add, Nat.add_zero, implies_true, false_implies, true_implies]
    refine loop_intro [1, 2, 7, 9, 14, 15] (fun m ρ hc => ∃ (i : Nat) (s' : ES) (vo : Value), m = (x.tgts.length - 1) - i ∧ i ≤ x.tgts.length - 1 ∧ ρ = [(1, .bool true), (2, .pointer (some ⟨q, 0, none⟩)), (7, .int .i64 (x.tgts.length - 1 : Nat)), (9, .bool s'.2), (14, vo), (15, .int .i64 ((i : Int) + 1))] ∧
      Ext h hc ∧ Own hc h.size 5 1 vo s'.1.length (bytesV s'.1) ∧ hc[q]? = some (.cells #[.int .i64 x.at', .int .u8 (x.op : Int), .bool x.wide, .int .i64 x.A, .int .i64 x.B, .int .i64 x.low, .slice ak x.keys.length ck, .slice (some ⟨tb, to, none⟩) x.tgts.length ct] 35 (0, 0)) ∧ rowE 11 x.keys x.at' (x.tgts.drop (1 + i)) i s' = X ∧ s'.1.length ≤ 64 + 8 * i) ?_ ?_
    · simp (disch := first | omega | assumption) only [C.ref2_choice_gos, vs, T.ts, and_true, true_and, List.getElem?_toArray, List.getElem?_cons_zero, List.getElem?_cons_succ, ↓reduceIte, Nat.reduceEqDiff, Option.bind_some, Option.map_some, Option.isSome_some, ne_eq, Bool.not_true, Bool.not_false, Bool.true_eq_false, Bool.false_eq_true, Bool.not_eq_true', Bool.not_eq_false', reduceCtorEq, Option.some.injEq, decide_eq_true_eq, decide_eq_false_iff_not, not_true_eq_false, not_false_eq_true, decide_true, decide_false, List.size_toArray, List.length_cons, List.length_nil, List.cons_append, List.nil_append, List.append_nil, List.map_cons, List.map_nil, Array.size_push, Int.toNat_natCast, List.toList_toArray, Nat.min_def, Nat.reduceLeDiff, Nat.reducePow, Int.reducePow, Int.reduceToNat, Int.tdiv_eq_ediv_of_nonneg, Int.tmod_eq_emod_of_nonneg, Int.fdiv_eq_ediv_of_nonneg, Nat.mul_one, Nat.reduceAdd, Nat.zero_add, Nat.add_zero, implies_true, false_implies, true_implies]
      exact ⟨_, 0, (_, _), _, rfl, Nat.zero_le _, rfl, E5.trans x6, own6, Fr_blk x6 q5 id, hX3, by simp only; omega⟩
    rintro m ρ hc ⟨i, ⟨b', ok'⟩, vo, rfl, hi, rfl, HX, own, qk, hR, hsl'⟩
    simp only at own hsl'
    have hti : ((i : Int) + 1).toNat = i + 1 := by omega
    rcases Nat.lt_or_ge i (x.tgts.length - 1) with hlt | hge
    case inr =>
      have hlt' : ¬ (i : Int) + 1 ≤ ((x.tgts.length - 1 : Nat) : Int) := by omega
      have hd : x.tgts.drop (1 + i) = [] := by rw [List.drop_eq_nil_iff]; omega
      rw [hd, rowE] at hR
      subst hR
      simp (disch := first | omega | assumption) only [C.ref2_choice_gos, vs, T.ts, and_true, true_and, List.getElem?_toArray, List.getElem?_cons_zero, List.getElem?_cons_succ, ↓reduceIte, Nat.reduceEqDiff, Option.bind_some, Option.map_some, Option.isSome_some, ne_eq, Bool.not_true, Bool.not_false, Bool.true_eq_false, Bool.false_eq_true, Bool.not_eq_true', Bool.not_eq_false', reduceCtorEq, Option.some.injEq, decide_eq_true_eq, decide_eq_false_iff_not, not_true_eq_false, not_false_eq_true, decide_true, decide_false, List.size_toArray, List.length_cons, List.length_nil, List.cons_append, List.nil_append, List.append_nil, List.map_cons, List.map_nil, Array.size_push, Int.toNat_natCast, List.toList_toArray, Nat.min_def, Nat.reduceLeDiff, Nat.reducePow, Int.reducePow, Int.reduceToNat, Int.tdiv_eq_ediv_of_nonneg, Int.tmod_eq_emod_of_nonneg, Int.fdiv_eq_ediv_of_nonneg, Nat.mul_one, Nat.reduceAdd, Nat.zero_add, Nat.add_zero, implies_true, false_implies, true_implies, hlt', T.cvo_37_9 own]
      exact ⟨HX, rfl⟩
    have hlt' : (i : Int) + 1 ≤ ((x.tgts.length - 1 : Nat) : Int) := by omega
    have hdr : x.tgts.drop (1 + i) = x.tgts.getD (1 + i) 0 :: x.tgts.drop (1 + (i + 1)) := by
      rw [drop_getD (d := 0) (by omega), show 1 + i + 1 = 1 + (i + 1) by omega]
    rw [hdr, rowE, if_pos rfl] at hR
    have hib : (i : Int) + 1 < (x.tgts.length : Int) := by omega
    have fxk := facts2 hc qk
    have kcell : ∀ (h' : Heap), Ext h h' → ∀ j, j < x.keys.length → ∃ kb ko, ak = some ⟨kb, ko, none⟩ ∧ cellAt h' ⟨kb, ko + j, none⟩ = some (.int .i64 (x.keys.getD j 0)) := by
      intro h' hx' j hj
      obtain ⟨b2, o2, c2, he2, hr2, _⟩ := (hk.ext (by decide) hx').at (i := j) hj
      cases he2
      have := hr2 0 (.int .i64 (x.keys.getD j 0)) (by simp [intsV, hj])
      exact ⟨b2, o2, rfl, by simpa using this⟩
    have hik : i < x.keys.length := by omega
    obtain ⟨kb, ko, rfl, k0⟩ := kcell hc HX i hik
    have kcell2 : ∀ (h' : Heap), Ext h h' → ∀ j, j < x.keys.length → cellAt h' ⟨kb, ko + j, none⟩ = some (.int .i64 (x.keys.getD j 0)) := by
      intro h' hx' j hj
      obtain ⟨_, _, hkk, hh⟩ := kcell h' hx' j hj
      cases hkk; exact hh
    clear kcell
    have e1 : (i : Int) + 1 - 1 = (i : Int) := by omega
    have hik' : (i : Int) < (x.keys.length : Int) := by omega
    have e2 : 1 ≤ i → (i : Int) + 1 - 2 = ((i - 1 : Nat) : Int) := by omega
    have bk1 := bl (atU (x.keys.getD i 0))
    have bk2 := bl (atU (wr (x.tgts.getD (1 + i) 0 - x.at')))
    have hcs : (ok' = false) ∨ (ok' = true ∧ okI (x.keys.getD i 0) 4 = false) ∨ (ok' = true ∧ okI (x.keys.getD i 0) 4 = true ∧ (((i : Int) + 1 = 1) = True) ∧ ordK x.keys i = true) ∨
        (ok' = true ∧ okI (x.keys.getD i 0) 4 = true ∧ (((i : Int) + 1 = 1) = False) ∧ ordK x.keys i = true ∧ (i : Int) + 1 - 2 = ((i - 1 : Nat) : Int) ∧ ((((i - 1 : Nat) : Int) < (x.keys.length : Int)) = True) ∧ ((x.keys.getD (i - 1) 0 < x.keys.getD i 0) = True)) ∨
        (ok' = true ∧ okI (x.keys.getD i 0) 4 = true ∧ (((i : Int) + 1 = 1) = False) ∧ ordK x.keys i = false ∧ (i : Int) + 1 - 2 = ((i - 1 : Nat) : Int) ∧ ((((i - 1 : Nat) : Int) < (x.keys.length : Int)) = True) ∧ ((x.keys.getD (i - 1) 0 < x.keys.getD i 0) = False)) := by
      cases hok : ok'
      · exact Or.inl rfl
      refine Or.inr ?_
      cases ht : okI (x.keys.getD i 0) 4
      · exact Or.inl ⟨rfl, rfl⟩
      refine Or.inr ?_
      by_cases hi0 : i = 0
      · exact Or.inl ⟨rfl, rfl, eq_true (by omega), by simp [ordK, hi0]⟩
      refine Or.inr ?_
      by_cases hlk : x.keys.getD (i - 1) 0 < x.keys.getD i 0
      · exact Or.inl ⟨rfl, rfl, eq_false (by omega), by simp only [ordK, hi0, hlk, decide_true, decide_false, Bool.or_true], by omega, eq_true (by omega), eq_true hlk⟩
      · exact Or.inr ⟨rfl, rfl, eq_false (by omega), by simp only [ordK, hi0, hlk, decide_false, Bool.or_false], by omega, eq_true (by omega), eq_false hlk⟩
    rcases hcs with fc | fc | fc | fc | fc
    all_goals
      simp (disch := first | omega | assumption) only [C.ref2_choice_gos, vs, T.ts, and_true, true_and, List.getElem?_toArray, List.getElem?_cons_zero, List.getElem?_cons_succ, ↓reduceIte, Nat.reduceEqDiff, Option.bind_some, Option.map_some, Option.isSome_some, ne_eq, Bool.not_true, Bool.not_false, Bool.true_eq_false, Bool.false_eq_true, Bool.not_eq_true', Bool.not_eq_false', reduceCtorEq, Option.some.injEq, decide_eq_true_eq, decide_eq_false_iff_not, not_true_eq_false, not_false_eq_true, decide_true, decide_false, List.size_toArray, List.length_cons, List.length_nil, List.cons_append, List.nil_append, List.append_nil, List.map_cons, List.map_nil, Array.size_push, Int.toNat_natCast, List.toList_toArray, Nat.min_def, Nat.reduceLeDiff, Nat.reducePow, Int.reducePow, Int.reduceToNat, Int.tdiv_eq_ediv_of_nonneg, Int.tmod_eq_emod_of_nonneg, Int.fdiv_eq_ediv_of_nonneg, Nat.mul_one, Nat.reduceAdd, Nat.zero_add, Nat.add_zero, implies_true, false_implies, true_implies, hlt', fxk, e1, hik', k0]
      refine eff_call_of ?_
      simp (disch := first | omega | assumption) only [C.ref2_choice_gos, vs, T.ts, and_true, true_and, List.getElem?_toArray, List.getElem?_cons_zero, List.getElem?_cons_succ, ↓reduceIte, Nat.reduceEqDiff, Option.bind_some, Option.map_some, Option.isSome_some, ne_eq, Bool.not_true, Bool.not_false, Bool.true_eq_false, Bool.false_eq_true, Bool.not_eq_true', Bool.not_eq_false', reduceCtorEq, Option.some.injEq, decide_eq_true_eq, decide_eq_false_iff_not, not_true_eq_false, not_false_eq_true, decide_true, decide_false, List.size_toArray, List.length_cons, List.length_nil, List.cons_append, List.nil_append, List.append_nil, List.map_cons, List.map_nil, Array.size_push, Int.toNat_natCast, List.toList_toArray, Nat.min_def, Nat.reduceLeDiff, Nat.reducePow, Int.reducePow, Int.reduceToNat, Int.tdiv_eq_ediv_of_nonneg, Int.tmod_eq_emod_of_nonneg, Int.fdiv_eq_ediv_of_nonneg, Nat.mul_one, Nat.reduceAdd, Nat.zero_add, Nat.add_zero, implies_true, false_implies, true_implies]
      refine (rbytes_any _ 4 true (by omega) _).mono ?_
      intro v7 h7 hp7
      have x7 := hp7.1
      have hv7 := hp7.2
      rw [inS_t] at hv7
      have q7 := Fr_blk x7 qk id
      have own7 := own.ext x7
      simp (disch := first | omega | assumption) only [C.ref2_choice_gos, vs, T.ts, and_true, true_and, List.getElem?_toArray, List.getElem?_cons_zero, List.getElem?_cons_succ, ↓reduceIte, Nat.reduceEqDiff, Option.bind_some, Option.map_some, Option.isSome_some, ne_eq, Bool.not_true, Bool.not_false, Bool.true_eq_false, Bool.false_eq_true, Bool.not_eq_true', Bool.not_eq_false', reduceCtorEq, Option.some.injEq, decide_eq_true_eq, decide_eq_false_iff_not, not_true_eq_false, not_false_eq_true, decide_true, decide_false, List.size_toArray, List.length_cons, List.length_nil, List.cons_append, List.nil_append, List.append_nil, List.map_cons, List.map_nil, Array.size_push, Int.toNat_natCast, List.toList_toArray, Nat.min_def, Nat.reduceLeDiff, Nat.reducePow, Int.reducePow, Int.reduceToNat, Int.tdiv_eq_ediv_of_nonneg, Int.tmod_eq_emod_of_nonneg, Int.fdiv_eq_ediv_of_nonneg, Nat.mul_one, Nat.reduceAdd, Nat.zero_add, Nat.add_zero, implies_true, false_implies, true_implies, hv7]
      refine eff_append_str T.slT_37 Try.underlying9 rfl rfl own7 (by rw [bigS_len]; omega) (by rw [bigS_len]; omega) (HX.trans x7).size ?_
      intro v8 h8 own8 fr8
      have E8 : Ext h h8 := Ext.app (HX.trans x7) fr8 (fun k hk => (own7.lt k hk).1)
      have q8 := Fr_blk fr8 q7 (Own_ne own7 q7 (by decide))
      have own9 : Own h8 h.size 5 1 v8 (b' ++ bigS (atU (x.keys.getD i 0)) 4).length (bytesV (b' ++ bigS (atU (x.keys.getD i 0)) 4)) := Own_cast own8 (by simp) (by simp [bytesV])
      have fx8 := facts2 h8 q8
      have k1 := kcell2 h8 E8 i hik
      have k2 := kcell2 h8 E8 (i - 1) (by omega)
      have hct := hcell0 (i + 1) (by omega) h8 E8
      rw [show i + 1 = 1 + i by omega] at hct hti
      simp (disch := first | omega | assumption) only [C.ref2_choice_gos, vs, T.ts, and_true, true_and, List.getElem?_toArray, List.getElem?_cons_zero, List.getElem?_cons_succ, ↓reduceIte, Nat.reduceEqDiff, Option.bind_some, Option.map_some, Option.isSome_some, ne_eq, Bool.not_true, Bool.not_false, Bool.true_eq_false, Bool.false_eq_true, Bool.not_eq_true', Bool.not_eq_false', reduceCtorEq, Option.some.injEq, decide_eq_true_eq, decide_eq_false_iff_not, not_true_eq_false, not_false_eq_true, decide_true, decide_false, List.size_toArray, List.length_cons, List.length_nil, List.cons_append, List.nil_append, List.append_nil, List.map_cons, List.map_nil, Array.size_push, Int.toNat_natCast, List.toList_toArray, Nat.min_def, Nat.reduceLeDiff, Nat.reducePow, Int.reducePow, Int.reduceToNat, Int.tdiv_eq_ediv_of_nonneg, Int.tmod_eq_emod_of_nonneg, Int.fdiv_eq_ediv_of_nonneg, Nat.mul_one, Nat.reduceAdd, Nat.zero_add, Nat.add_zero, implies_true, false_implies, true_implies, fc, fx8, e1, hik', hti, hct, wrt, hib, k1, k2]
      refine eff_call_of ?_
      simp (disch := first | omega | assumption) only [C.ref2_choice_gos, vs, T.ts, and_true, true_and, List.getElem?_toArray, List.getElem?_cons_zero, List.getElem?_cons_succ, ↓reduceIte, Nat.reduceEqDiff, Option.bind_some, Option.map_some, Option.isSome_some, ne_eq, Bool.not_true, Bool.not_false, Bool.true_eq_false, Bool.false_eq_true, Bool.not_eq_true', Bool.not_eq_false', reduceCtorEq, Option.some.injEq, decide_eq_true_eq, decide_eq_false_iff_not, not_true_eq_false, not_false_eq_true, decide_true, decide_false, List.size_toArray, List.length_cons, List.length_nil, List.cons_append, List.nil_append, List.append_nil, List.map_cons, List.map_nil, Array.size_push, Int.toNat_natCast, List.toList_toArray, Nat.min_def, Nat.reduceLeDiff, Nat.reducePow, Int.reducePow, Int.reduceToNat, Int.tdiv_eq_ediv_of_nonneg, Int.tmod_eq_emod_of_nonneg, Int.fdiv_eq_ediv_of_nonneg, Nat.mul_one, Nat.reduceAdd, Nat.zero_add, Nat.add_zero, implies_true, false_implies, true_implies]
      refine (rbytes_any _ 4 true (by omega) _).mono ?_
      intro v10 h10 hp10
      have x10 := hp10.1
      have hv10 := hp10.2
      rw [inS_t] at hv10
      have q10 := Fr_blk x10 q8 id
      have own10 := own9.ext x10
      simp (disch := first | omega | assumption) only [C.ref2_choice_gos, vs, T.ts, and_true, true_and, List.getElem?_toArray, List.getElem?_cons_zero, List.getElem?_cons_succ, ↓reduceIte, Nat.reduceEqDiff, Option.bind_some, Option.map_some, Option.isSome_some, ne_eq, Bool.not_true, Bool.not_false, Bool.true_eq_false, Bool.false_eq_true, Bool.not_eq_true', Bool.not_eq_false', reduceCtorEq, Option.some.injEq, decide_eq_true_eq, decide_eq_false_iff_not, not_true_eq_false, not_false_eq_true, decide_true, decide_false, List.size_toArray, List.length_cons, List.length_nil, List.cons_append, List.nil_append, List.append_nil, List.map_cons, List.map_nil, Array.size_push, Int.toNat_natCast, List.toList_toArray, Nat.min_def, Nat.reduceLeDiff, Nat.reducePow, Int.reducePow, Int.reduceToNat, Int.tdiv_eq_ediv_of_nonneg, Int.tmod_eq_emod_of_nonneg, Int.fdiv_eq_ediv_of_nonneg, Nat.mul_one, Nat.reduceAdd, Nat.zero_add, Nat.add_zero, implies_true, false_implies, true_implies, hv10]
      refine eff_append_str T.slT_37 Try.underlying9 rfl rfl own10 (by rw [bigS_len, hla]; omega) (by rw [bigS_len, hla]; omega) (E8.trans x10).size ?_
      intro v11 h11 own11 fr11
      have E11 : Ext h h11 := Ext.app (E8.trans x10) fr11 (fun k hk => (own10.lt k hk).1)
      have q11 := Fr_blk fr11 q10 (Own_ne own10 q10 (by decide))
      have own12 : Own h11 h.size 5 1 v11 (b' ++ bigS (atU (x.keys.getD i 0)) 4 ++ bigS (atU (wr (x.tgts.getD (1 + i) 0 - x.at'))) 4).length (bytesV (b' ++ bigS (atU (x.keys.getD i 0)) 4 ++ bigS (atU (wr (x.tgts.getD (1 + i) 0 - x.at'))) 4)) := Own_cast own11 (by simp [Nat.add_assoc]) (by simp [bytesV])
      simp only [sgnS, putS, fc, Bool.and_true, Bool.and_false, Bool.true_and, Bool.false_and] at hR
      simp (disch := first | omega | assumption) only [C.ref2_choice_gos, vs, T.ts, and_true, true_and, List.getElem?_toArray, List.getElem?_cons_zero, List.getElem?_cons_succ, ↓reduceIte, Nat.reduceEqDiff, Option.bind_some, Option.map_some, Option.isSome_some, ne_eq, Bool.not_true, Bool.not_false, Bool.true_eq_false, Bool.false_eq_true, Bool.not_eq_true', Bool.not_eq_false', reduceCtorEq, Option.some.injEq, decide_eq_true_eq, decide_eq_false_iff_not, not_true_eq_false, not_false_eq_true, decide_true, decide_false, List.size_toArray, List.length_cons, List.length_nil, List.cons_append, List.nil_append, List.append_nil, List.map_cons, List.map_nil, Array.size_push, Int.toNat_natCast, List.toList_toArray, Nat.min_def, Nat.reduceLeDiff, Nat.reducePow, Int.reducePow, Int.reduceToNat, Int.tdiv_eq_ediv_of_nonneg, Int.tmod_eq_emod_of_nonneg, Int.fdiv_eq_ediv_of_nonneg, Nat.mul_one, Nat.reduceAdd, Nat.zero_add, Nat.add_zero, implies_true, false_implies, true_implies]
      exact ⟨_, by omega, i + 1, (b' ++ bigS (atU (x.keys.getD i 0)) 4 ++ bigS (atU (wr (x.tgts.getD (1 + i) 0 - x.at'))) 4, _), _, rfl, by omega, rfl, E11, own12, q11, hR, by simp [bigS_len]; omega⟩

end Go.Proofs.Ytjpcpkhegjndeaa
