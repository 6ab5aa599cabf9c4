/- The encoder of instructions, by the reference: one instruction, any form. -/
import Derived.Test.YtjpcpkhegjndeaaN8
namespace Go.Proofs.Ytjpcpkhegjndeaa
open Go.Vc
set_option maxRecDepth 100000
set_option linter.unusedSimpArgs false
set_option linter.unusedVariables false

theorem okB (B : Int) : (decide (1 ≤ B) && decide (B ≤ 255)) = (okU B 1 && decide (0 < B)) := by
  rw [Bool.eq_iff_iff]
  simp only [okU, Bool.and_eq_true, decide_eq_true_eq]
  omega
theorem okA (A : Int) : (decide (4 ≤ A) && decide (A ≤ 11)) = (okU A 1 && (decide (4 ≤ A) && decide (A ≤ 11))) := by
  rw [Bool.eq_iff_iff]
  simp only [okU, Bool.and_eq_true, decide_eq_true_eq]
  omega

section
variable {h : Heap}
set_option maxHeartbeats 16000000 in
theorem rencode_any (x : In) (f p : Nat) (vk vt : Value) (hf : f = 0 ∨ f = 2 ∨ f = 3 ∨ f = 4 ∨ f = 5 ∨ f = 6 ∨ f = 7 ∨ f = 8 ∨ f = 9 ∨ f = 10 ∨ f = 11 ∨ f = 12 ∨ f = 13 ∨ f = 14) (hx : x.Fit) (hp : x.at' = (p : Int)) (hp2 : p ≤ 1073741824) (hk : SlN h 1 vk x.keys.length (intsV x.keys)) (hkc : capOk vk) (ht : SlN h 1 vt x.tgts.length (intsV x.tgts)) (htc : capOk vt)
    (hkl : x.keys.length ≤ 1073741824) (htl : x.tgts.length ≤ 1073741824) :
    HCalls Try.prog 17 #[.agg (enV x vk vt), str [letS f]] h fun v h' => Ext h h' ∧ v = esV (encX x f p) := by
  refine C.ref2_encode_calls (args := [.agg (enV x vk vt), str [letS f]]) rfl ?_
  have hk' := hk
  have ht' := ht
  obtain ⟨_, ak, ck, rfl, _⟩ := hk'
  obtain ⟨_, at7, ct, rfl, _⟩ := ht'
  have hcap : x.tgts.length ≤ ct := htc
  have hop := hx.op
  have hopb : UInt8.ofNat ((x.op : Int)).toNat = UInt8.ofNat x.op := by simp
  simp only [enV, InV]
  simp (disch := first | omega | assumption) only [C.ref2_encode_gos, vs, T.ts, and_true, true_and, List.getElem?_toArray, List.getElem?_cons_zero, List.getElem?_cons_succ, ↓reduceIte, Nat.reduceEqDiff, Option.bind_some, Option.map_some, Option.isSome_some, ne_eq, Bool.not_true, Bool.not_false, Bool.true_eq_false, Bool.false_eq_true, Bool.not_eq_true', Bool.not_eq_false', reduceCtorEq, Option.some.injEq, decide_eq_true_eq, decide_eq_false_iff_not, not_true_eq_false, not_false_eq_true, decide_true, decide_false, List.size_toArray, List.length_cons, List.length_nil, List.cons_append, List.nil_append, List.append_nil, List.map_cons, List.map_nil, Array.size_push, Int.toNat_natCast, List.toList_toArray, Nat.min_def, Nat.reduceLeDiff, Nat.reducePow, Int.reducePow, Int.reduceToNat, Int.tdiv_eq_ediv_of_nonneg, Int.tmod_eq_emod_of_nonneg, Int.fdiv_eq_ediv_of_nonneg, Nat.mul_one, Nat.reduceAdd, Nat.zero_add, Nat.add_zero, implies_true, false_implies, true_implies]
  refine eff_box ?_
  have E := Ext.push h (.cells #[.int .i64 x.at', .int .u8 (x.op : Int), .bool x.wide, .int .i64 x.A, .int .i64 x.B, .int .i64 x.low, .slice ak x.keys.length ck, .slice at7 x.tgts.length ct] 35)
  have q0 : (h.push (.cells #[.int .i64 x.at', .int .u8 (x.op : Int), .bool x.wide, .int .i64 x.A, .int .i64 x.B, .int .i64 x.low, .slice ak x.keys.length ck, .slice at7 x.tgts.length ct] 35))[h.size]? = some (.cells #[.int .i64 x.at', .int .u8 (x.op : Int), .bool x.wide, .int .i64 x.A, .int .i64 x.B, .int .i64 x.low, .slice ak x.keys.length ck, .slice at7 x.tgts.length ct] 35 (0, 0)) := by simp
  simp (disch := first | omega | assumption) only [C.ref2_encode_gos, vs, T.ts, and_true, true_and, List.getElem?_toArray, List.getElem?_cons_zero, List.getElem?_cons_succ, ↓reduceIte, Nat.reduceEqDiff, Option.bind_some, Option.map_some, Option.isSome_some, ne_eq, Bool.not_true, Bool.not_false, Bool.true_eq_false, Bool.false_eq_true, Bool.not_eq_true', Bool.not_eq_false', reduceCtorEq, Option.some.injEq, decide_eq_true_eq, decide_eq_false_iff_not, not_true_eq_false, not_false_eq_true, decide_true, decide_false, List.size_toArray, List.length_cons, List.length_nil, List.cons_append, List.nil_append, List.append_nil, List.map_cons, List.map_nil, Array.size_push, Int.toNat_natCast, List.toList_toArray, Nat.min_def, Nat.reduceLeDiff, Nat.reducePow, Int.reducePow, Int.reduceToNat, Int.tdiv_eq_ediv_of_nonneg, Int.tmod_eq_emod_of_nonneg, Int.fdiv_eq_ediv_of_nonneg, Nat.mul_one, Nat.reduceAdd, Nat.zero_add, Nat.add_zero, implies_true, false_implies, true_implies]
  generalize h.push (.cells #[.int .i64 x.at', .int .u8 (x.op : Int), .bool x.wide, .int .i64 x.A, .int .i64 x.B, .int .i64 x.low, .slice ak x.keys.length ck, .slice at7 x.tgts.length ct] 35) = h1 at *
  obtain ⟨q, hq⟩ : ∃ y, y = h.size := ⟨_, rfl⟩
  rw [← hq] at q0 ⊢
  clear hq
  have facts : ∀ hc : Heap, hc[q]? = some (.cells #[.int .i64 x.at', .int .u8 (x.op : Int), .bool x.wide, .int .i64 x.A, .int .i64 x.B, .int .i64 x.low, .slice ak x.keys.length ck, .slice at7 x.tgts.length ct] 35 (0, 0)) → cellAt hc ⟨q, 0, none⟩ = some (.int .i64 x.at') ∧ cellAt hc ⟨q, 1, none⟩ = some (.int .u8 (x.op : Int)) ∧ cellAt hc ⟨q, 2, none⟩ = some (.bool x.wide) ∧ cellAt hc ⟨q, 3, none⟩ = some (.int .i64 x.A) ∧ cellAt hc ⟨q, 4, none⟩ = some (.int .i64 x.B) ∧ cellAt hc ⟨q, 7, none⟩ = some (.slice at7 x.tgts.length ct) ∧ ld Try.prog 35 ⟨q, 0, none⟩ hc = some (.agg #[.int .i64 x.at', .int .u8 (x.op : Int), .bool x.wide, .int .i64 x.A, .int .i64 x.B, .int .i64 x.low, .slice ak x.keys.length ck, .slice at7 x.tgts.length ct]) := by
    intro hc qk
    refine ⟨by rw [cellAt_of qk]; rfl, by rw [cellAt_of qk]; rfl, by rw [cellAt_of qk]; rfl, by rw [cellAt_of qk]; rfl, by rw [cellAt_of qk]; rfl, by rw [cellAt_of qk]; rfl, ?_⟩
    exact ld_agg T.ag_35 (vs := [.int .i64 x.at', .int .u8 (x.op : Int), .bool x.wide, .int .i64 x.A, .int .i64 x.B, .int .i64 x.low, .slice ak x.keys.length ck, .slice at7 x.tgts.length ct]) (fun j v hv => by rw [cellAt_of qk, Nat.zero_add]; simpa using hv) rfl
  have fx := facts h1 q0
  simp (disch := first | omega | assumption) only [C.ref2_encode_gos, vs, T.ts, and_true, true_and, List.getElem?_toArray, List.getElem?_cons_zero, List.getElem?_cons_succ, ↓reduceIte, Nat.reduceEqDiff, Option.bind_some, Option.map_some, Option.isSome_some, ne_eq, Bool.not_true, Bool.not_false, Bool.true_eq_false, Bool.false_eq_true, Bool.not_eq_true', Bool.not_eq_false', reduceCtorEq, Option.some.injEq, decide_eq_true_eq, decide_eq_false_iff_not, not_true_eq_false, not_false_eq_true, decide_true, decide_false, List.size_toArray, List.length_cons, List.length_nil, List.cons_append, List.nil_append, List.append_nil, List.map_cons, List.map_nil, Array.size_push, Int.toNat_natCast, List.toList_toArray, Nat.min_def, Nat.reduceLeDiff, Nat.reducePow, Int.reducePow, Int.reduceToNat, Int.tdiv_eq_ediv_of_nonneg, Int.tmod_eq_emod_of_nonneg, Int.fdiv_eq_ediv_of_nonneg, Nat.mul_one, Nat.reduceAdd, Nat.zero_add, Nat.add_zero, implies_true, false_implies, true_implies, fx]
  refine eff_lits T.slT_37 rfl rfl (by decide) ?_
  simp (disch := first | omega | assumption) only [C.ref2_encode_gos, vs, T.ts, and_true, true_and, List.getElem?_toArray, List.getElem?_cons_zero, List.getElem?_cons_succ, ↓reduceIte, Nat.reduceEqDiff, Option.bind_some, Option.map_some, Option.isSome_some, ne_eq, Bool.not_true, Bool.not_false, Bool.true_eq_false, Bool.false_eq_true, Bool.not_eq_true', Bool.not_eq_false', reduceCtorEq, Option.some.injEq, decide_eq_true_eq, decide_eq_false_iff_not, not_true_eq_false, not_false_eq_true, decide_true, decide_false, List.size_toArray, List.length_cons, List.length_nil, List.cons_append, List.nil_append, List.append_nil, List.map_cons, List.map_nil, Array.size_push, Int.toNat_natCast, List.toList_toArray, Nat.min_def, Nat.reduceLeDiff, Nat.reducePow, Int.reducePow, Int.reduceToNat, Int.tdiv_eq_ediv_of_nonneg, Int.tmod_eq_emod_of_nonneg, Int.fdiv_eq_ediv_of_nonneg, Nat.mul_one, Nat.reduceAdd, Nat.zero_add, Nat.add_zero, implies_true, false_implies, true_implies, T.cvl1_37_9, hopb]
  have E2 := E.trans (Ext.push h1 (.cells #[.int .u8 (x.op : Int)] 5))
  have q2 := push_blk (o' := .cells #[.int .u8 (x.op : Int)] 5) q0
  generalize h1.push (.cells #[.int .u8 (x.op : Int)] 5) = h2 at *
  clear E q0 fx
  have fx := facts h2 q2
  have hla : ∀ u v : List UInt8, (u ++ v).length = u.length + v.length := fun u v => List.length_append
  have hw : x.wide = true ∨ x.wide = false := by cases x.wide <;> simp
  rcases hw with hw | hw
  case' inl =>
    have hhd : headE x ([], true) = ([196] ++ [UInt8.ofNat x.op], true) := by unfold headE; rw [if_pos hw]; rfl
    have hsz : (sizeE x = 1 ∨ sizeE x = 2 ∨ sizeE x = 4) ∧ ((2 : Nat) : Int) = sizeE x := by unfold sizeE; rw [if_pos hw]; simp
    have h01 : ([196] : List UInt8).length = 1 ∧ [UInt8.ofNat x.op].length = 1 := ⟨rfl, rfl⟩
    obtain ⟨h01a, h01b⟩ := h01
    have fw := fx.2.2.1
    rw [hw] at fw
    simp (disch := first | omega | assumption) only [C.ref2_encode_gos, vs, T.ts, and_true, true_and, List.getElem?_toArray, List.getElem?_cons_zero, List.getElem?_cons_succ, ↓reduceIte, Nat.reduceEqDiff, Option.bind_some, Option.map_some, Option.isSome_some, ne_eq, Bool.not_true, Bool.not_false, Bool.true_eq_false, Bool.false_eq_true, Bool.not_eq_true', Bool.not_eq_false', reduceCtorEq, Option.some.injEq, decide_eq_true_eq, decide_eq_false_iff_not, not_true_eq_false, not_false_eq_true, decide_true, decide_false, List.size_toArray, List.length_cons, List.length_nil, List.cons_append, List.nil_append, List.append_nil, List.map_cons, List.map_nil, Array.size_push, Int.toNat_natCast, List.toList_toArray, Nat.min_def, Nat.reduceLeDiff, Nat.reducePow, Int.reducePow, Int.reduceToNat, Int.tdiv_eq_ediv_of_nonneg, Int.tmod_eq_emod_of_nonneg, Int.fdiv_eq_ediv_of_nonneg, Nat.mul_one, Nat.reduceAdd, Nat.zero_add, Nat.add_zero, implies_true, false_implies, true_implies, fw]
    obtain ⟨S, hS⟩ : ∃ y, y = [(196 : UInt8), UInt8.ofNat x.op] := ⟨_, rfl⟩
    have hSl : S.length ≤ 2 := by rw [hS]; simp
  case' inr =>
    have hhd : headE x ([], true) = ([UInt8.ofNat x.op], true) := by unfold headE; rw [if_neg (by simp [hw])]; rfl
    have hsz : (sizeE x = 1 ∨ sizeE x = 2 ∨ sizeE x = 4) ∧ ((1 : Nat) : Int) = sizeE x := by unfold sizeE; rw [if_neg (by simp [hw])]; simp
    have fw := fx.2.2.1
    rw [hw] at fw
    simp (disch := first | omega | assumption) only [C.ref2_encode_gos, vs, T.ts, and_true, true_and, List.getElem?_toArray, List.getElem?_cons_zero, List.getElem?_cons_succ, ↓reduceIte, Nat.reduceEqDiff, Option.bind_some, Option.map_some, Option.isSome_some, ne_eq, Bool.not_true, Bool.not_false, Bool.true_eq_false, Bool.false_eq_true, Bool.not_eq_true', Bool.not_eq_false', reduceCtorEq, Option.some.injEq, decide_eq_true_eq, decide_eq_false_iff_not, not_true_eq_false, not_false_eq_true, decide_true, decide_false, List.size_toArray, List.length_cons, List.length_nil, List.cons_append, List.nil_append, List.append_nil, List.map_cons, List.map_nil, Array.size_push, Int.toNat_natCast, List.toList_toArray, Nat.min_def, Nat.reduceLeDiff, Nat.reducePow, Int.reducePow, Int.reduceToNat, Int.tdiv_eq_ediv_of_nonneg, Int.tmod_eq_emod_of_nonneg, Int.fdiv_eq_ediv_of_nonneg, Nat.mul_one, Nat.reduceAdd, Nat.zero_add, Nat.add_zero, implies_true, false_implies, true_implies, fw]
    obtain ⟨S, hS⟩ : ∃ y, y = [UInt8.ofNat x.op] := ⟨_, rfl⟩
    have hSl : S.length ≤ 2 := by rw [hS]; simp
  all_goals
    obtain ⟨hsz1, hsz2⟩ := hsz
    try simp only [List.cons_append, List.nil_append] at hhd
    rw [← hS] at hhd ⊢
    clear hS fw
    rcases hf with rfl | rfl | rfl | rfl | rfl | rfl | rfl | rfl | rfl | rfl | rfl | rfl | rfl | rfl
    · rw [show [letS 0] = ([46] : List UInt8) from rfl]
      have L : ((([46] : List UInt8) = [116]) = False) ∧ ((([46] : List UInt8) = [107]) = False) ∧ ((([46] : List UInt8) = [106]) = False) ∧ ((([46] : List UInt8) = [74]) = False) ∧ ((([46] : List UInt8) = [98]) = False) ∧ ((([46] : List UInt8) = [115]) = False) ∧ ((([46] : List UInt8) = [99]) = False) ∧ ((([46] : List UInt8) = [97]) = False) ∧ ((([46] : List UInt8) = [105]) = False) ∧ ((([46] : List UInt8) = [108]) = False) ∧ ((([46] : List UInt8) = [110]) = False) ∧ ((([46] : List UInt8) = [102]) = False) ∧ ((([46] : List UInt8) = [109]) = False) := ⟨eq_false (by decide), eq_false (by decide), eq_false (by decide), eq_false (by decide), eq_false (by decide), eq_false (by decide), eq_false (by decide), eq_false (by decide), eq_false (by decide), eq_false (by decide), eq_false (by decide), eq_false (by decide), eq_false (by decide)⟩
      by_cases htn : x.tgts.length = 0
      case neg =>
        have htn' : ¬ (x.tgts.length : Int) = 0 := by omega
        have hE : encX x 0 p = ([], false) := by unfold encX; rw [if_neg (by omega), if_pos (by simpa using htn)]
        rw [hE]
        simp (disch := first | omega | assumption) only [C.ref2_encode_gos, vs, T.ts, and_true, true_and, List.getElem?_toArray, List.getElem?_cons_zero, List.getElem?_cons_succ, ↓reduceIte, Nat.reduceEqDiff, Option.bind_some, Option.map_some, Option.isSome_some, ne_eq, Bool.not_true, Bool.not_false, Bool.true_eq_false, Bool.false_eq_true, Bool.not_eq_true', Bool.not_eq_false', reduceCtorEq, Option.some.injEq, decide_eq_true_eq, decide_eq_false_iff_not, not_true_eq_false, not_false_eq_true, decide_true, decide_false, List.size_toArray, List.length_cons, List.length_nil, List.cons_append, List.nil_append, List.append_nil, List.map_cons, List.map_nil, Array.size_push, Int.toNat_natCast, List.toList_toArray, Nat.min_def, Nat.reduceLeDiff, Nat.reducePow, Int.reducePow, Int.reduceToNat, Int.tdiv_eq_ediv_of_nonneg, Int.tmod_eq_emod_of_nonneg, Int.fdiv_eq_ediv_of_nonneg, Nat.mul_one, Nat.reduceAdd, Nat.zero_add, Nat.add_zero, implies_true, false_implies, true_implies, L, fx, eq_false htn']
        first | exact ⟨E2, rfl⟩ | exact E2
      have htn' : (x.tgts.length : Int) = 0 := by omega
      have hE : encX x 0 p = (S, true) := by
        unfold encX
        rw [if_neg (by omega), if_neg (by simp [htn])]
        unfold oneE
        simp only [Nat.reduceEqDiff, if_false, if_true, hhd, sgnS, unsS, putX, putS, tgtS, htn, decide_true, Bool.true_and, okB, ← okA, List.append_assoc]
      rw [hE]
      clear hE
      have hn0 : ([] : List UInt8).length = 0 := rfl
      simp (disch := first | omega | assumption) only [C.ref2_encode_gos, vs, T.ts, and_true, true_and, List.getElem?_toArray, List.getElem?_cons_zero, List.getElem?_cons_succ, ↓reduceIte, Nat.reduceEqDiff, Option.bind_some, Option.map_some, Option.isSome_some, ne_eq, Bool.not_true, Bool.not_false, Bool.true_eq_false, Bool.false_eq_true, Bool.not_eq_true', Bool.not_eq_false', reduceCtorEq, Option.some.injEq, decide_eq_true_eq, decide_eq_false_iff_not, not_true_eq_false, not_false_eq_true, decide_true, decide_false, List.size_toArray, List.length_cons, List.length_nil, List.cons_append, List.nil_append, List.append_nil, List.map_cons, List.map_nil, Array.size_push, Int.toNat_natCast, List.toList_toArray, Nat.min_def, Nat.reduceLeDiff, Nat.reducePow, Int.reducePow, Int.reduceToNat, Int.tdiv_eq_ediv_of_nonneg, Int.tmod_eq_emod_of_nonneg, Int.fdiv_eq_ediv_of_nonneg, Nat.mul_one, Nat.reduceAdd, Nat.zero_add, Nat.add_zero, implies_true, false_implies, true_implies, L, fx, eq_true htn']
      first | exact ⟨E2, rfl⟩ | exact E2
    · rw [show [letS 2] = ([98] : List UInt8) from rfl]
      have L : ((([98] : List UInt8) = [116]) = False) ∧ ((([98] : List UInt8) = [107]) = False) ∧ ((([98] : List UInt8) = [106]) = False) ∧ ((([98] : List UInt8) = [74]) = False) ∧ ((([98] : List UInt8) = [115]) = False) ∧ ((([98] : List UInt8) = [99]) = False) ∧ ((([98] : List UInt8) = [97]) = False) ∧ ((([98] : List UInt8) = [105]) = False) ∧ ((([98] : List UInt8) = [108]) = False) ∧ ((([98] : List UInt8) = [110]) = False) ∧ ((([98] : List UInt8) = [102]) = False) ∧ ((([98] : List UInt8) = [109]) = False) := ⟨eq_false (by decide), eq_false (by decide), eq_false (by decide), eq_false (by decide), eq_false (by decide), eq_false (by decide), eq_false (by decide), eq_false (by decide), eq_false (by decide), eq_false (by decide), eq_false (by decide), eq_false (by decide)⟩
      by_cases htn : x.tgts.length = 0
      case neg =>
        have htn' : ¬ (x.tgts.length : Int) = 0 := by omega
        have hE : encX x 2 p = ([], false) := by unfold encX; rw [if_neg (by omega), if_pos (by simpa using htn)]
        rw [hE]
        simp (disch := first | omega | assumption) only [C.ref2_encode_gos, vs, T.ts, and_true, true_and, List.getElem?_toArray, List.getElem?_cons_zero, List.getElem?_cons_succ, ↓reduceIte, Nat.reduceEqDiff, Option.bind_some, Option.map_some, Option.isSome_some, ne_eq, Bool.not_true, Bool.not_false, Bool.true_eq_false, Bool.false_eq_true, Bool.not_eq_true', Bool.not_eq_false', reduceCtorEq, Option.some.injEq, decide_eq_true_eq, decide_eq_false_iff_not, not_true_eq_false, not_false_eq_true, decide_true, decide_false, List.size_toArray, List.length_cons, List.length_nil, List.cons_append, List.nil_append, List.append_nil, List.map_cons, List.map_nil, Array.size_push, Int.toNat_natCast, List.toList_toArray, Nat.min_def, Nat.reduceLeDiff, Nat.reducePow, Int.reducePow, Int.reduceToNat, Int.tdiv_eq_ediv_of_nonneg, Int.tmod_eq_emod_of_nonneg, Int.fdiv_eq_ediv_of_nonneg, Nat.mul_one, Nat.reduceAdd, Nat.zero_add, Nat.add_zero, implies_true, false_implies, true_implies, L, fx, eq_false htn']
        first | exact ⟨E2, rfl⟩ | exact E2
      have htn' : (x.tgts.length : Int) = 0 := by omega
      have hE : encX x 2 p = (S ++ bigS (atU x.A) 1, okI x.A 1) := by
        unfold encX
        rw [if_neg (by omega), if_neg (by simp [htn])]
        unfold oneE
        simp only [Nat.reduceEqDiff, if_false, if_true, hhd, sgnS, unsS, putX, putS, tgtS, htn, decide_true, Bool.true_and, okB, ← okA, List.append_assoc]
      rw [hE]
      clear hE
      simp (disch := first | omega | assumption) only [C.ref2_encode_gos, vs, T.ts, and_true, true_and, List.getElem?_toArray, List.getElem?_cons_zero, List.getElem?_cons_succ, ↓reduceIte, Nat.reduceEqDiff, Option.bind_some, Option.map_some, Option.isSome_some, ne_eq, Bool.not_true, Bool.not_false, Bool.true_eq_false, Bool.false_eq_true, Bool.not_eq_true', Bool.not_eq_false', reduceCtorEq, Option.some.injEq, decide_eq_true_eq, decide_eq_false_iff_not, not_true_eq_false, not_false_eq_true, decide_true, decide_false, List.size_toArray, List.length_cons, List.length_nil, List.cons_append, List.nil_append, List.append_nil, List.map_cons, List.map_nil, Array.size_push, Int.toNat_natCast, List.toList_toArray, Nat.min_def, Nat.reduceLeDiff, Nat.reducePow, Int.reducePow, Int.reduceToNat, Int.tdiv_eq_ediv_of_nonneg, Int.tmod_eq_emod_of_nonneg, Int.fdiv_eq_ediv_of_nonneg, Nat.mul_one, Nat.reduceAdd, Nat.zero_add, Nat.add_zero, implies_true, false_implies, true_implies, L, fx, eq_true htn']
      refine eff_call_of ?_
      simp (disch := first | omega | assumption) only [C.ref2_encode_gos, vs, T.ts, and_true, true_and, List.getElem?_toArray, List.getElem?_cons_zero, List.getElem?_cons_succ, ↓reduceIte, Nat.reduceEqDiff, Option.bind_some, Option.map_some, Option.isSome_some, ne_eq, Bool.not_true, Bool.not_false, Bool.true_eq_false, Bool.false_eq_true, Bool.not_eq_true', Bool.not_eq_false', reduceCtorEq, Option.some.injEq, decide_eq_true_eq, decide_eq_false_iff_not, not_true_eq_false, not_false_eq_true, decide_true, decide_false, List.size_toArray, List.length_cons, List.length_nil, List.cons_append, List.nil_append, List.append_nil, List.map_cons, List.map_nil, Array.size_push, Int.toNat_natCast, List.toList_toArray, Nat.min_def, Nat.reduceLeDiff, Nat.reducePow, Int.reducePow, Int.reduceToNat, Int.tdiv_eq_ediv_of_nonneg, Int.tmod_eq_emod_of_nonneg, Int.fdiv_eq_ediv_of_nonneg, Nat.mul_one, Nat.reduceAdd, Nat.zero_add, Nat.add_zero, implies_true, false_implies, true_implies]
      have hU3 := rbytes_any x.A 1 true (by omega) h2
      refine hU3.mono ?_
      intro v3 h3 hp3
      have x3 := hp3.1
      have hv3 := hp3.2
      rw [inS_t] at hv3
      have E3 := E2.trans x3
      have q3 := Fr_blk x3 q2 id
      have fx := facts h3 q3
      have bl3 : (bigS (atU x.A) 1).length = 1 := bigS_len
      have hn0 : ([] : List UInt8).length = 0 ∧ ([0] : List UInt8).length = 1 := ⟨rfl, rfl⟩
      obtain ⟨hn0, hn1⟩ := hn0
      have l1 := hla S (bigS (atU x.A) 1)
      have hcs2 : (okI x.A 1 = false) ∨ (okI x.A 1 = true) := by cases okI x.A 1 <;> simp
      rcases hcs2 with fc | fc
      all_goals
        simp (disch := first | omega | assumption) only [C.ref2_encode_gos, vs, T.ts, and_true, true_and, List.getElem?_toArray, List.getElem?_cons_zero, List.getElem?_cons_succ, ↓reduceIte, Nat.reduceEqDiff, Option.bind_some, Option.map_some, Option.isSome_some, ne_eq, Bool.not_true, Bool.not_false, Bool.true_eq_false, Bool.false_eq_true, Bool.not_eq_true', Bool.not_eq_false', reduceCtorEq, Option.some.injEq, decide_eq_true_eq, decide_eq_false_iff_not, not_true_eq_false, not_false_eq_true, decide_true, decide_false, List.size_toArray, List.length_cons, List.length_nil, List.cons_append, List.nil_append, List.append_nil, List.map_cons, List.map_nil, Array.size_push, Int.toNat_natCast, List.toList_toArray, Nat.min_def, Nat.reduceLeDiff, Nat.reducePow, Int.reducePow, Int.reduceToNat, Int.tdiv_eq_ediv_of_nonneg, Int.tmod_eq_emod_of_nonneg, Int.fdiv_eq_ediv_of_nonneg, Nat.mul_one, Nat.reduceAdd, Nat.zero_add, Nat.add_zero, implies_true, false_implies, true_implies, L, hv3, fx, fc, Bool.true_and, Bool.and_true, Bool.false_and, Bool.and_false]
        first | exact ⟨E3, rfl⟩ | exact E3
    · rw [show [letS 3] = ([115] : List UInt8) from rfl]
      have L : ((([115] : List UInt8) = [116]) = False) ∧ ((([115] : List UInt8) = [107]) = False) ∧ ((([115] : List UInt8) = [106]) = False) ∧ ((([115] : List UInt8) = [74]) = False) ∧ ((([115] : List UInt8) = [98]) = False) ∧ ((([115] : List UInt8) = [99]) = False) ∧ ((([115] : List UInt8) = [97]) = False) ∧ ((([115] : List UInt8) = [105]) = False) ∧ ((([115] : List UInt8) = [108]) = False) ∧ ((([115] : List UInt8) = [110]) = False) ∧ ((([115] : List UInt8) = [102]) = False) ∧ ((([115] : List UInt8) = [109]) = False) := ⟨eq_false (by decide), eq_false (by decide), eq_false (by decide), eq_false (by decide), eq_false (by decide), eq_false (by decide), eq_false (by decide), eq_false (by decide), eq_false (by decide), eq_false (by decide), eq_false (by decide), eq_false (by decide)⟩
      by_cases htn : x.tgts.length = 0
      case neg =>
        have htn' : ¬ (x.tgts.length : Int) = 0 := by omega
        have hE : encX x 3 p = ([], false) := by unfold encX; rw [if_neg (by omega), if_pos (by simpa using htn)]
        rw [hE]
        simp (disch := first | omega | assumption) only [C.ref2_encode_gos, vs, T.ts, and_true, true_and, List.getElem?_toArray, List.getElem?_cons_zero, List.getElem?_cons_succ, ↓reduceIte, Nat.reduceEqDiff, Option.bind_some, Option.map_some, Option.isSome_some, ne_eq, Bool.not_true, Bool.not_false, Bool.true_eq_false, Bool.false_eq_true, Bool.not_eq_true', Bool.not_eq_false', reduceCtorEq, Option.some.injEq, decide_eq_true_eq, decide_eq_false_iff_not, not_true_eq_false, not_false_eq_true, decide_true, decide_false, List.size_toArray, List.length_cons, List.length_nil, List.cons_append, List.nil_append, List.append_nil, List.map_cons, List.map_nil, Array.size_push, Int.toNat_natCast, List.toList_toArray, Nat.min_def, Nat.reduceLeDiff, Nat.reducePow, Int.reducePow, Int.reduceToNat, Int.tdiv_eq_ediv_of_nonneg, Int.tmod_eq_emod_of_nonneg, Int.fdiv_eq_ediv_of_nonneg, Nat.mul_one, Nat.reduceAdd, Nat.zero_add, Nat.add_zero, implies_true, false_implies, true_implies, L, fx, eq_false htn']
        first | exact ⟨E2, rfl⟩ | exact E2
      have htn' : (x.tgts.length : Int) = 0 := by omega
      have hE : encX x 3 p = (S ++ bigS (atU x.A) 2, okI x.A 2) := by
        unfold encX
        rw [if_neg (by omega), if_neg (by simp [htn])]
        unfold oneE
        simp only [Nat.reduceEqDiff, if_false, if_true, hhd, sgnS, unsS, putX, putS, tgtS, htn, decide_true, Bool.true_and, okB, ← okA, List.append_assoc]
      rw [hE]
      clear hE
      simp (disch := first | omega | assumption) only [C.ref2_encode_gos, vs, T.ts, and_true, true_and, List.getElem?_toArray, List.getElem?_cons_zero, List.getElem?_cons_succ, ↓reduceIte, Nat.reduceEqDiff, Option.bind_some, Option.map_some, Option.isSome_some, ne_eq, Bool.not_true, Bool.not_false, Bool.true_eq_false, Bool.false_eq_true, Bool.not_eq_true', Bool.not_eq_false', reduceCtorEq, Option.some.injEq, decide_eq_true_eq, decide_eq_false_iff_not, not_true_eq_false, not_false_eq_true, decide_true, decide_false, List.size_toArray, List.length_cons, List.length_nil, List.cons_append, List.nil_append, List.append_nil, List.map_cons, List.map_nil, Array.size_push, Int.toNat_natCast, List.toList_toArray, Nat.min_def, Nat.reduceLeDiff, Nat.reducePow, Int.reducePow, Int.reduceToNat, Int.tdiv_eq_ediv_of_nonneg, Int.tmod_eq_emod_of_nonneg, Int.fdiv_eq_ediv_of_nonneg, Nat.mul_one, Nat.reduceAdd, Nat.zero_add, Nat.add_zero, implies_true, false_implies, true_implies, L, fx, eq_true htn']
      refine eff_call_of ?_
      simp (disch := first | omega | assumption) only [C.ref2_encode_gos, vs, T.ts, and_true, true_and, List.getElem?_toArray, List.getElem?_cons_zero, List.getElem?_cons_succ, ↓reduceIte, Nat.reduceEqDiff, Option.bind_some, Option.map_some, Option.isSome_some, ne_eq, Bool.not_true, Bool.not_false, Bool.true_eq_false, Bool.false_eq_true, Bool.not_eq_true', Bool.not_eq_false', reduceCtorEq, Option.some.injEq, decide_eq_true_eq, decide_eq_false_iff_not, not_true_eq_false, not_false_eq_true, decide_true, decide_false, List.size_toArray, List.length_cons, List.length_nil, List.cons_append, List.nil_append, List.append_nil, List.map_cons, List.map_nil, Array.size_push, Int.toNat_natCast, List.toList_toArray, Nat.min_def, Nat.reduceLeDiff, Nat.reducePow, Int.reducePow, Int.reduceToNat, Int.tdiv_eq_ediv_of_nonneg, Int.tmod_eq_emod_of_nonneg, Int.fdiv_eq_ediv_of_nonneg, Nat.mul_one, Nat.reduceAdd, Nat.zero_add, Nat.add_zero, implies_true, false_implies, true_implies]
      have hU3 := rbytes_any x.A 2 true (by omega) h2
      refine hU3.mono ?_
      intro v3 h3 hp3
      have x3 := hp3.1
      have hv3 := hp3.2
      rw [inS_t] at hv3
      have E3 := E2.trans x3
      have q3 := Fr_blk x3 q2 id
      have fx := facts h3 q3
      have bl3 : (bigS (atU x.A) 2).length = 2 := bigS_len
      have hn0 : ([] : List UInt8).length = 0 ∧ ([0] : List UInt8).length = 1 := ⟨rfl, rfl⟩
      obtain ⟨hn0, hn1⟩ := hn0
      have l1 := hla S (bigS (atU x.A) 2)
      have hcs2 : (okI x.A 2 = false) ∨ (okI x.A 2 = true) := by cases okI x.A 2 <;> simp
      rcases hcs2 with fc | fc
      all_goals
        simp (disch := first | omega | assumption) only [C.ref2_encode_gos, vs, T.ts, and_true, true_and, List.getElem?_toArray, List.getElem?_cons_zero, List.getElem?_cons_succ, ↓reduceIte, Nat.reduceEqDiff, Option.bind_some, Option.map_some, Option.isSome_some, ne_eq, Bool.not_true, Bool.not_false, Bool.true_eq_false, Bool.false_eq_true, Bool.not_eq_true', Bool.not_eq_false', reduceCtorEq, Option.some.injEq, decide_eq_true_eq, decide_eq_false_iff_not, not_true_eq_false, not_false_eq_true, decide_true, decide_false, List.size_toArray, List.length_cons, List.length_nil, List.cons_append, List.nil_append, List.append_nil, List.map_cons, List.map_nil, Array.size_push, Int.toNat_natCast, List.toList_toArray, Nat.min_def, Nat.reduceLeDiff, Nat.reducePow, Int.reducePow, Int.reduceToNat, Int.tdiv_eq_ediv_of_nonneg, Int.tmod_eq_emod_of_nonneg, Int.fdiv_eq_ediv_of_nonneg, Nat.mul_one, Nat.reduceAdd, Nat.zero_add, Nat.add_zero, implies_true, false_implies, true_implies, L, hv3, fx, fc, Bool.true_and, Bool.and_true, Bool.false_and, Bool.and_false]
        first | exact ⟨E3, rfl⟩ | exact E3
    · rw [show [letS 4] = ([99] : List UInt8) from rfl]
      have L : ((([99] : List UInt8) = [116]) = False) ∧ ((([99] : List UInt8) = [107]) = False) ∧ ((([99] : List UInt8) = [106]) = False) ∧ ((([99] : List UInt8) = [74]) = False) ∧ ((([99] : List UInt8) = [98]) = False) ∧ ((([99] : List UInt8) = [115]) = False) ∧ ((([99] : List UInt8) = [97]) = False) ∧ ((([99] : List UInt8) = [105]) = False) ∧ ((([99] : List UInt8) = [108]) = False) ∧ ((([99] : List UInt8) = [110]) = False) ∧ ((([99] : List UInt8) = [102]) = False) ∧ ((([99] : List UInt8) = [109]) = False) := ⟨eq_false (by decide), eq_false (by decide), eq_false (by decide), eq_false (by decide), eq_false (by decide), eq_false (by decide), eq_false (by decide), eq_false (by decide), eq_false (by decide), eq_false (by decide), eq_false (by decide), eq_false (by decide)⟩
      by_cases htn : x.tgts.length = 0
      case neg =>
        have htn' : ¬ (x.tgts.length : Int) = 0 := by omega
        have hE : encX x 4 p = ([], false) := by unfold encX; rw [if_neg (by omega), if_pos (by simpa using htn)]
        rw [hE]
        simp (disch := first | omega | assumption) only [C.ref2_encode_gos, vs, T.ts, and_true, true_and, List.getElem?_toArray, List.getElem?_cons_zero, List.getElem?_cons_succ, ↓reduceIte, Nat.reduceEqDiff, Option.bind_some, Option.map_some, Option.isSome_some, ne_eq, Bool.not_true, Bool.not_false, Bool.true_eq_false, Bool.false_eq_true, Bool.not_eq_true', Bool.not_eq_false', reduceCtorEq, Option.some.injEq, decide_eq_true_eq, decide_eq_false_iff_not, not_true_eq_false, not_false_eq_true, decide_true, decide_false, List.size_toArray, List.length_cons, List.length_nil, List.cons_append, List.nil_append, List.append_nil, List.map_cons, List.map_nil, Array.size_push, Int.toNat_natCast, List.toList_toArray, Nat.min_def, Nat.reduceLeDiff, Nat.reducePow, Int.reducePow, Int.reduceToNat, Int.tdiv_eq_ediv_of_nonneg, Int.tmod_eq_emod_of_nonneg, Int.fdiv_eq_ediv_of_nonneg, Nat.mul_one, Nat.reduceAdd, Nat.zero_add, Nat.add_zero, implies_true, false_implies, true_implies, L, fx, eq_false htn']
        first | exact ⟨E2, rfl⟩ | exact E2
      have htn' : (x.tgts.length : Int) = 0 := by omega
      have hE : encX x 4 p = (S ++ bigS (atU x.A) 1, okU x.A 1) := by
        unfold encX
        rw [if_neg (by omega), if_neg (by simp [htn])]
        unfold oneE
        simp only [Nat.reduceEqDiff, if_false, if_true, hhd, sgnS, unsS, putX, putS, tgtS, htn, decide_true, Bool.true_and, okB, ← okA, List.append_assoc]
      rw [hE]
      clear hE
      simp (disch := first | omega | assumption) only [C.ref2_encode_gos, vs, T.ts, and_true, true_and, List.getElem?_toArray, List.getElem?_cons_zero, List.getElem?_cons_succ, ↓reduceIte, Nat.reduceEqDiff, Option.bind_some, Option.map_some, Option.isSome_some, ne_eq, Bool.not_true, Bool.not_false, Bool.true_eq_false, Bool.false_eq_true, Bool.not_eq_true', Bool.not_eq_false', reduceCtorEq, Option.some.injEq, decide_eq_true_eq, decide_eq_false_iff_not, not_true_eq_false, not_false_eq_true, decide_true, decide_false, List.size_toArray, List.length_cons, List.length_nil, List.cons_append, List.nil_append, List.append_nil, List.map_cons, List.map_nil, Array.size_push, Int.toNat_natCast, List.toList_toArray, Nat.min_def, Nat.reduceLeDiff, Nat.reducePow, Int.reducePow, Int.reduceToNat, Int.tdiv_eq_ediv_of_nonneg, Int.tmod_eq_emod_of_nonneg, Int.fdiv_eq_ediv_of_nonneg, Nat.mul_one, Nat.reduceAdd, Nat.zero_add, Nat.add_zero, implies_true, false_implies, true_implies, L, fx, eq_true htn']
      refine eff_call_of ?_
      simp (disch := first | omega | assumption) only [C.ref2_encode_gos, vs, T.ts, and_true, true_and, List.getElem?_toArray, List.getElem?_cons_zero, List.getElem?_cons_succ, ↓reduceIte, Nat.reduceEqDiff, Option.bind_some, Option.map_some, Option.isSome_some, ne_eq, Bool.not_true, Bool.not_false, Bool.true_eq_false, Bool.false_eq_true, Bool.not_eq_true', Bool.not_eq_false', reduceCtorEq, Option.some.injEq, decide_eq_true_eq, decide_eq_false_iff_not, not_true_eq_false, not_false_eq_true, decide_true, decide_false, List.size_toArray, List.length_cons, List.length_nil, List.cons_append, List.nil_append, List.append_nil, List.map_cons, List.map_nil, Array.size_push, Int.toNat_natCast, List.toList_toArray, Nat.min_def, Nat.reduceLeDiff, Nat.reducePow, Int.reducePow, Int.reduceToNat, Int.tdiv_eq_ediv_of_nonneg, Int.tmod_eq_emod_of_nonneg, Int.fdiv_eq_ediv_of_nonneg, Nat.mul_one, Nat.reduceAdd, Nat.zero_add, Nat.add_zero, implies_true, false_implies, true_implies]
      have hU3 := rbytes_any x.A 1 false (by omega) h2
      refine hU3.mono ?_
      intro v3 h3 hp3
      have x3 := hp3.1
      have hv3 := hp3.2
      rw [inS_f] at hv3
      have E3 := E2.trans x3
      have q3 := Fr_blk x3 q2 id
      have fx := facts h3 q3
      have bl3 : (bigS (atU x.A) 1).length = 1 := bigS_len
      have hn0 : ([] : List UInt8).length = 0 ∧ ([0] : List UInt8).length = 1 := ⟨rfl, rfl⟩
      obtain ⟨hn0, hn1⟩ := hn0
      have l1 := hla S (bigS (atU x.A) 1)
      have hcs2 : (okU x.A 1 = false) ∨ (okU x.A 1 = true) := by cases okU x.A 1 <;> simp
      rcases hcs2 with fc | fc
      all_goals
        simp (disch := first | omega | assumption) only [C.ref2_encode_gos, vs, T.ts, and_true, true_and, List.getElem?_toArray, List.getElem?_cons_zero, List.getElem?_cons_succ, ↓reduceIte, Nat.reduceEqDiff, Option.bind_some, Option.map_some, Option.isSome_some, ne_eq, Bool.not_true, Bool.not_false, Bool.true_eq_false, Bool.false_eq_true, Bool.not_eq_true', Bool.not_eq_false', reduceCtorEq, Option.some.injEq, decide_eq_true_eq, decide_eq_false_iff_not, not_true_eq_false, not_false_eq_true, decide_true, decide_false, List.size_toArray, List.length_cons, List.length_nil, List.cons_append, List.nil_append, List.append_nil, List.map_cons, List.map_nil, Array.size_push, Int.toNat_natCast, List.toList_toArray, Nat.min_def, Nat.reduceLeDiff, Nat.reducePow, Int.reducePow, Int.reduceToNat, Int.tdiv_eq_ediv_of_nonneg, Int.tmod_eq_emod_of_nonneg, Int.fdiv_eq_ediv_of_nonneg, Nat.mul_one, Nat.reduceAdd, Nat.zero_add, Nat.add_zero, implies_true, false_implies, true_implies, L, hv3, fx, fc, Bool.true_and, Bool.and_true, Bool.false_and, Bool.and_false]
        first | exact ⟨E3, rfl⟩ | exact E3
    · rw [show [letS 5] = ([105] : List UInt8) from rfl]
      have L : ((([105] : List UInt8) = [116]) = False) ∧ ((([105] : List UInt8) = [107]) = False) ∧ ((([105] : List UInt8) = [106]) = False) ∧ ((([105] : List UInt8) = [74]) = False) ∧ ((([105] : List UInt8) = [98]) = False) ∧ ((([105] : List UInt8) = [115]) = False) ∧ ((([105] : List UInt8) = [99]) = False) ∧ ((([105] : List UInt8) = [97]) = False) ∧ ((([105] : List UInt8) = [108]) = False) ∧ ((([105] : List UInt8) = [110]) = False) ∧ ((([105] : List UInt8) = [102]) = False) ∧ ((([105] : List UInt8) = [109]) = False) := ⟨eq_false (by decide), eq_false (by decide), eq_false (by decide), eq_false (by decide), eq_false (by decide), eq_false (by decide), eq_false (by decide), eq_false (by decide), eq_false (by decide), eq_false (by decide), eq_false (by decide), eq_false (by decide)⟩
      by_cases htn : x.tgts.length = 0
      case neg =>
        have htn' : ¬ (x.tgts.length : Int) = 0 := by omega
        have hE : encX x 5 p = ([], false) := by unfold encX; rw [if_neg (by omega), if_pos (by simpa using htn)]
        rw [hE]
        simp (disch := first | omega | assumption) only [C.ref2_encode_gos, vs, T.ts, and_true, true_and, List.getElem?_toArray, List.getElem?_cons_zero, List.getElem?_cons_succ, ↓reduceIte, Nat.reduceEqDiff, Option.bind_some, Option.map_some, Option.isSome_some, ne_eq, Bool.not_true, Bool.not_false, Bool.true_eq_false, Bool.false_eq_true, Bool.not_eq_true', Bool.not_eq_false', reduceCtorEq, Option.some.injEq, decide_eq_true_eq, decide_eq_false_iff_not, not_true_eq_false, not_false_eq_true, decide_true, decide_false, List.size_toArray, List.length_cons, List.length_nil, List.cons_append, List.nil_append, List.append_nil, List.map_cons, List.map_nil, Array.size_push, Int.toNat_natCast, List.toList_toArray, Nat.min_def, Nat.reduceLeDiff, Nat.reducePow, Int.reducePow, Int.reduceToNat, Int.tdiv_eq_ediv_of_nonneg, Int.tmod_eq_emod_of_nonneg, Int.fdiv_eq_ediv_of_nonneg, Nat.mul_one, Nat.reduceAdd, Nat.zero_add, Nat.add_zero, implies_true, false_implies, true_implies, L, fx, eq_false htn']
        first | exact ⟨E2, rfl⟩ | exact E2
      have htn' : (x.tgts.length : Int) = 0 := by omega
      have hE : encX x 5 p = (S ++ bigS (atU x.A) 2, okU x.A 2) := by
        unfold encX
        rw [if_neg (by omega), if_neg (by simp [htn])]
        unfold oneE
        simp only [Nat.reduceEqDiff, if_false, if_true, hhd, sgnS, unsS, putX, putS, tgtS, htn, decide_true, Bool.true_and, okB, ← okA, List.append_assoc]
      rw [hE]
      clear hE
      simp (disch := first | omega | assumption) only [C.ref2_encode_gos, vs, T.ts, and_true, true_and, List.getElem?_toArray, List.getElem?_cons_zero, List.getElem?_cons_succ, ↓reduceIte, Nat.reduceEqDiff, Option.bind_some, Option.map_some, Option.isSome_some, ne_eq, Bool.not_true, Bool.not_false, Bool.true_eq_false, Bool.false_eq_true, Bool.not_eq_true', Bool.not_eq_false', reduceCtorEq, Option.some.injEq, decide_eq_true_eq, decide_eq_false_iff_not, not_true_eq_false, not_false_eq_true, decide_true, decide_false, List.size_toArray, List.length_cons, List.length_nil, List.cons_append, List.nil_append, List.append_nil, List.map_cons, List.map_nil, Array.size_push, Int.toNat_natCast, List.toList_toArray, Nat.min_def, Nat.reduceLeDiff, Nat.reducePow, Int.reducePow, Int.reduceToNat, Int.tdiv_eq_ediv_of_nonneg, Int.tmod_eq_emod_of_nonneg, Int.fdiv_eq_ediv_of_nonneg, Nat.mul_one, Nat.reduceAdd, Nat.zero_add, Nat.add_zero, implies_true, false_implies, true_implies, L, fx, eq_true htn']
      refine eff_call_of ?_
      simp (disch := first | omega | assumption) only [C.ref2_encode_gos, vs, T.ts, and_true, true_and, List.getElem?_toArray, List.getElem?_cons_zero, List.getElem?_cons_succ, ↓reduceIte, Nat.reduceEqDiff, Option.bind_some, Option.map_some, Option.isSome_some, ne_eq, Bool.not_true, Bool.not_false, Bool.true_eq_false, Bool.false_eq_true, Bool.not_eq_true', Bool.not_eq_false', reduceCtorEq, Option.some.injEq, decide_eq_true_eq, decide_eq_false_iff_not, not_true_eq_false, not_false_eq_true, decide_true, decide_false, List.size_toArray, List.length_cons, List.length_nil, List.cons_append, List.nil_append, List.append_nil, List.map_cons, List.map_nil, Array.size_push, Int.toNat_natCast, List.toList_toArray, Nat.min_def, Nat.reduceLeDiff, Nat.reducePow, Int.reducePow, Int.reduceToNat, Int.tdiv_eq_ediv_of_nonneg, Int.tmod_eq_emod_of_nonneg, Int.fdiv_eq_ediv_of_nonneg, Nat.mul_one, Nat.reduceAdd, Nat.zero_add, Nat.add_zero, implies_true, false_implies, true_implies]
      have hU3 := rbytes_any x.A 2 false (by omega) h2
      refine hU3.mono ?_
      intro v3 h3 hp3
      have x3 := hp3.1
      have hv3 := hp3.2
      rw [inS_f] at hv3
      have E3 := E2.trans x3
      have q3 := Fr_blk x3 q2 id
      have fx := facts h3 q3
      have bl3 : (bigS (atU x.A) 2).length = 2 := bigS_len
      have hn0 : ([] : List UInt8).length = 0 ∧ ([0] : List UInt8).length = 1 := ⟨rfl, rfl⟩
      obtain ⟨hn0, hn1⟩ := hn0
      have l1 := hla S (bigS (atU x.A) 2)
      have hcs2 : (okU x.A 2 = false) ∨ (okU x.A 2 = true) := by cases okU x.A 2 <;> simp
      rcases hcs2 with fc | fc
      all_goals
        simp (disch := first | omega | assumption) only [C.ref2_encode_gos, vs, T.ts, and_true, true_and, List.getElem?_toArray, List.getElem?_cons_zero, List.getElem?_cons_succ, ↓reduceIte, Nat.reduceEqDiff, Option.bind_some, Option.map_some, Option.isSome_some, ne_eq, Bool.not_true, Bool.not_false, Bool.true_eq_false, Bool.false_eq_true, Bool.not_eq_true', Bool.not_eq_false', reduceCtorEq, Option.some.injEq, decide_eq_true_eq, decide_eq_false_iff_not, not_true_eq_false, not_false_eq_true, decide_true, decide_false, List.size_toArray, List.length_cons, List.length_nil, List.cons_append, List.nil_append, List.append_nil, List.map_cons, List.map_nil, Array.size_push, Int.toNat_natCast, List.toList_toArray, Nat.min_def, Nat.reduceLeDiff, Nat.reducePow, Int.reducePow, Int.reduceToNat, Int.tdiv_eq_ediv_of_nonneg, Int.tmod_eq_emod_of_nonneg, Int.fdiv_eq_ediv_of_nonneg, Nat.mul_one, Nat.reduceAdd, Nat.zero_add, Nat.add_zero, implies_true, false_implies, true_implies, L, hv3, fx, fc, Bool.true_and, Bool.and_true, Bool.false_and, Bool.and_false]
        first | exact ⟨E3, rfl⟩ | exact E3
    · rw [show [letS 6] = ([108] : List UInt8) from rfl]
      have L : ((([108] : List UInt8) = [116]) = False) ∧ ((([108] : List UInt8) = [107]) = False) ∧ ((([108] : List UInt8) = [106]) = False) ∧ ((([108] : List UInt8) = [74]) = False) ∧ ((([108] : List UInt8) = [98]) = False) ∧ ((([108] : List UInt8) = [115]) = False) ∧ ((([108] : List UInt8) = [99]) = False) ∧ ((([108] : List UInt8) = [97]) = False) ∧ ((([108] : List UInt8) = [105]) = False) ∧ ((([108] : List UInt8) = [110]) = False) ∧ ((([108] : List UInt8) = [102]) = False) ∧ ((([108] : List UInt8) = [109]) = False) := ⟨eq_false (by decide), eq_false (by decide), eq_false (by decide), eq_false (by decide), eq_false (by decide), eq_false (by decide), eq_false (by decide), eq_false (by decide), eq_false (by decide), eq_false (by decide), eq_false (by decide), eq_false (by decide)⟩
      by_cases htn : x.tgts.length = 0
      case neg =>
        have htn' : ¬ (x.tgts.length : Int) = 0 := by omega
        have hE : encX x 6 p = ([], false) := by unfold encX; rw [if_neg (by omega), if_pos (by simpa using htn)]
        rw [hE]
        simp (disch := first | omega | assumption) only [C.ref2_encode_gos, vs, T.ts, and_true, true_and, List.getElem?_toArray, List.getElem?_cons_zero, List.getElem?_cons_succ, ↓reduceIte, Nat.reduceEqDiff, Option.bind_some, Option.map_some, Option.isSome_some, ne_eq, Bool.not_true, Bool.not_false, Bool.true_eq_false, Bool.false_eq_true, Bool.not_eq_true', Bool.not_eq_false', reduceCtorEq, Option.some.injEq, decide_eq_true_eq, decide_eq_false_iff_not, not_true_eq_false, not_false_eq_true, decide_true, decide_false, List.size_toArray, List.length_cons, List.length_nil, List.cons_append, List.nil_append, List.append_nil, List.map_cons, List.map_nil, Array.size_push, Int.toNat_natCast, List.toList_toArray, Nat.min_def, Nat.reduceLeDiff, Nat.reducePow, Int.reducePow, Int.reduceToNat, Int.tdiv_eq_ediv_of_nonneg, Int.tmod_eq_emod_of_nonneg, Int.fdiv_eq_ediv_of_nonneg, Nat.mul_one, Nat.reduceAdd, Nat.zero_add, Nat.add_zero, implies_true, false_implies, true_implies, L, fx, eq_false htn']
        first | exact ⟨E2, rfl⟩ | exact E2
      have htn' : (x.tgts.length : Int) = 0 := by omega
      have hE : encX x 6 p = (S ++ bigS (atU x.A) (sizeE x), okU x.A (sizeE x)) := by
        unfold encX
        rw [if_neg (by omega), if_neg (by simp [htn])]
        unfold oneE
        simp only [Nat.reduceEqDiff, if_false, if_true, hhd, sgnS, unsS, putX, putS, tgtS, htn, decide_true, Bool.true_and, okB, ← okA, List.append_assoc]
      rw [hE]
      clear hE
      simp (disch := first | omega | assumption) only [C.ref2_encode_gos, vs, T.ts, and_true, true_and, List.getElem?_toArray, List.getElem?_cons_zero, List.getElem?_cons_succ, ↓reduceIte, Nat.reduceEqDiff, Option.bind_some, Option.map_some, Option.isSome_some, ne_eq, Bool.not_true, Bool.not_false, Bool.true_eq_false, Bool.false_eq_true, Bool.not_eq_true', Bool.not_eq_false', reduceCtorEq, Option.some.injEq, decide_eq_true_eq, decide_eq_false_iff_not, not_true_eq_false, not_false_eq_true, decide_true, decide_false, List.size_toArray, List.length_cons, List.length_nil, List.cons_append, List.nil_append, List.append_nil, List.map_cons, List.map_nil, Array.size_push, Int.toNat_natCast, List.toList_toArray, Nat.min_def, Nat.reduceLeDiff, Nat.reducePow, Int.reducePow, Int.reduceToNat, Int.tdiv_eq_ediv_of_nonneg, Int.tmod_eq_emod_of_nonneg, Int.fdiv_eq_ediv_of_nonneg, Nat.mul_one, Nat.reduceAdd, Nat.zero_add, Nat.add_zero, implies_true, false_implies, true_implies, L, fx, eq_true htn']
      refine eff_call_of ?_
      simp (disch := first | omega | assumption) only [C.ref2_encode_gos, vs, T.ts, and_true, true_and, List.getElem?_toArray, List.getElem?_cons_zero, List.getElem?_cons_succ, ↓reduceIte, Nat.reduceEqDiff, Option.bind_some, Option.map_some, Option.isSome_some, ne_eq, Bool.not_true, Bool.not_false, Bool.true_eq_false, Bool.false_eq_true, Bool.not_eq_true', Bool.not_eq_false', reduceCtorEq, Option.some.injEq, decide_eq_true_eq, decide_eq_false_iff_not, not_true_eq_false, not_false_eq_true, decide_true, decide_false, List.size_toArray, List.length_cons, List.length_nil, List.cons_append, List.nil_append, List.append_nil, List.map_cons, List.map_nil, Array.size_push, Int.toNat_natCast, List.toList_toArray, Nat.min_def, Nat.reduceLeDiff, Nat.reducePow, Int.reducePow, Int.reduceToNat, Int.tdiv_eq_ediv_of_nonneg, Int.tmod_eq_emod_of_nonneg, Int.fdiv_eq_ediv_of_nonneg, Nat.mul_one, Nat.reduceAdd, Nat.zero_add, Nat.add_zero, implies_true, false_implies, true_implies]
      have hU3 := rbytes_any x.A (sizeE x) false (by omega) h2
      rw [← hsz2] at hU3
      refine hU3.mono ?_
      intro v3 h3 hp3
      have x3 := hp3.1
      have hv3 := hp3.2
      rw [inS_f] at hv3
      try rw [hsz3] at hv3
      have E3 := E2.trans x3
      have q3 := Fr_blk x3 q2 id
      have fx := facts h3 q3
      have bl3 : (bigS (atU x.A) (sizeE x)).length = sizeE x := bigS_len
      have hsle := sizeE_le x
      have hn0 : ([] : List UInt8).length = 0 ∧ ([0] : List UInt8).length = 1 := ⟨rfl, rfl⟩
      obtain ⟨hn0, hn1⟩ := hn0
      have l1 := hla S (bigS (atU x.A) (sizeE x))
      have hcs2 : (okU x.A (sizeE x) = false) ∨ (okU x.A (sizeE x) = true) := by cases okU x.A (sizeE x) <;> simp
      rcases hcs2 with fc | fc
      all_goals
        simp (disch := first | omega | assumption) only [C.ref2_encode_gos, vs, T.ts, and_true, true_and, List.getElem?_toArray, List.getElem?_cons_zero, List.getElem?_cons_succ, ↓reduceIte, Nat.reduceEqDiff, Option.bind_some, Option.map_some, Option.isSome_some, ne_eq, Bool.not_true, Bool.not_false, Bool.true_eq_false, Bool.false_eq_true, Bool.not_eq_true', Bool.not_eq_false', reduceCtorEq, Option.some.injEq, decide_eq_true_eq, decide_eq_false_iff_not, not_true_eq_false, not_false_eq_true, decide_true, decide_false, List.size_toArray, List.length_cons, List.length_nil, List.cons_append, List.nil_append, List.append_nil, List.map_cons, List.map_nil, Array.size_push, Int.toNat_natCast, List.toList_toArray, Nat.min_def, Nat.reduceLeDiff, Nat.reducePow, Int.reducePow, Int.reduceToNat, Int.tdiv_eq_ediv_of_nonneg, Int.tmod_eq_emod_of_nonneg, Int.fdiv_eq_ediv_of_nonneg, Nat.mul_one, Nat.reduceAdd, Nat.zero_add, Nat.add_zero, implies_true, false_implies, true_implies, L, hv3, fx, fc, Bool.true_and, Bool.and_true, Bool.false_and, Bool.and_false]
        first | exact ⟨E3, rfl⟩ | exact E3
    · rw [show [letS 7] = ([110] : List UInt8) from rfl]
      have L : ((([110] : List UInt8) = [116]) = False) ∧ ((([110] : List UInt8) = [107]) = False) ∧ ((([110] : List UInt8) = [106]) = False) ∧ ((([110] : List UInt8) = [74]) = False) ∧ ((([110] : List UInt8) = [98]) = False) ∧ ((([110] : List UInt8) = [115]) = False) ∧ ((([110] : List UInt8) = [99]) = False) ∧ ((([110] : List UInt8) = [97]) = False) ∧ ((([110] : List UInt8) = [105]) = False) ∧ ((([110] : List UInt8) = [108]) = False) ∧ ((([110] : List UInt8) = [102]) = False) ∧ ((([110] : List UInt8) = [109]) = False) := ⟨eq_false (by decide), eq_false (by decide), eq_false (by decide), eq_false (by decide), eq_false (by decide), eq_false (by decide), eq_false (by decide), eq_false (by decide), eq_false (by decide), eq_false (by decide), eq_false (by decide), eq_false (by decide)⟩
      by_cases htn : x.tgts.length = 0
      case neg =>
        have htn' : ¬ (x.tgts.length : Int) = 0 := by omega
        have hE : encX x 7 p = ([], false) := by unfold encX; rw [if_neg (by omega), if_pos (by simpa using htn)]
        rw [hE]
        simp (disch := first | omega | assumption) only [C.ref2_encode_gos, vs, T.ts, and_true, true_and, List.getElem?_toArray, List.getElem?_cons_zero, List.getElem?_cons_succ, ↓reduceIte, Nat.reduceEqDiff, Option.bind_some, Option.map_some, Option.isSome_some, ne_eq, Bool.not_true, Bool.not_false, Bool.true_eq_false, Bool.false_eq_true, Bool.not_eq_true', Bool.not_eq_false', reduceCtorEq, Option.some.injEq, decide_eq_true_eq, decide_eq_false_iff_not, not_true_eq_false, not_false_eq_true, decide_true, decide_false, List.size_toArray, List.length_cons, List.length_nil, List.cons_append, List.nil_append, List.append_nil, List.map_cons, List.map_nil, Array.size_push, Int.toNat_natCast, List.toList_toArray, Nat.min_def, Nat.reduceLeDiff, Nat.reducePow, Int.reducePow, Int.reduceToNat, Int.tdiv_eq_ediv_of_nonneg, Int.tmod_eq_emod_of_nonneg, Int.fdiv_eq_ediv_of_nonneg, Nat.mul_one, Nat.reduceAdd, Nat.zero_add, Nat.add_zero, implies_true, false_implies, true_implies, L, fx, eq_false htn']
        first | exact ⟨E2, rfl⟩ | exact E2
      have htn' : (x.tgts.length : Int) = 0 := by omega
      have hE : encX x 7 p = (S ++ bigS (atU x.A) (sizeE x) ++ bigS (atU x.B) (sizeE x), okU x.A (sizeE x) && okI x.B (sizeE x)) := by
        unfold encX
        rw [if_neg (by omega), if_neg (by simp [htn])]
        unfold oneE
        simp only [Nat.reduceEqDiff, if_false, if_true, hhd, sgnS, unsS, putX, putS, tgtS, htn, decide_true, Bool.true_and, okB, ← okA, List.append_assoc]
      rw [hE]
      clear hE
      simp (disch := first | omega | assumption) only [C.ref2_encode_gos, vs, T.ts, and_true, true_and, List.getElem?_toArray, List.getElem?_cons_zero, List.getElem?_cons_succ, ↓reduceIte, Nat.reduceEqDiff, Option.bind_some, Option.map_some, Option.isSome_some, ne_eq, Bool.not_true, Bool.not_false, Bool.true_eq_false, Bool.false_eq_true, Bool.not_eq_true', Bool.not_eq_false', reduceCtorEq, Option.some.injEq, decide_eq_true_eq, decide_eq_false_iff_not, not_true_eq_false, not_false_eq_true, decide_true, decide_false, List.size_toArray, List.length_cons, List.length_nil, List.cons_append, List.nil_append, List.append_nil, List.map_cons, List.map_nil, Array.size_push, Int.toNat_natCast, List.toList_toArray, Nat.min_def, Nat.reduceLeDiff, Nat.reducePow, Int.reducePow, Int.reduceToNat, Int.tdiv_eq_ediv_of_nonneg, Int.tmod_eq_emod_of_nonneg, Int.fdiv_eq_ediv_of_nonneg, Nat.mul_one, Nat.reduceAdd, Nat.zero_add, Nat.add_zero, implies_true, false_implies, true_implies, L, fx, eq_true htn']
      refine eff_call_of ?_
      simp (disch := first | omega | assumption) only [C.ref2_encode_gos, vs, T.ts, and_true, true_and, List.getElem?_toArray, List.getElem?_cons_zero, List.getElem?_cons_succ, ↓reduceIte, Nat.reduceEqDiff, Option.bind_some, Option.map_some, Option.isSome_some, ne_eq, Bool.not_true, Bool.not_false, Bool.true_eq_false, Bool.false_eq_true, Bool.not_eq_true', Bool.not_eq_false', reduceCtorEq, Option.some.injEq, decide_eq_true_eq, decide_eq_false_iff_not, not_true_eq_false, not_false_eq_true, decide_true, decide_false, List.size_toArray, List.length_cons, List.length_nil, List.cons_append, List.nil_append, List.append_nil, List.map_cons, List.map_nil, Array.size_push, Int.toNat_natCast, List.toList_toArray, Nat.min_def, Nat.reduceLeDiff, Nat.reducePow, Int.reducePow, Int.reduceToNat, Int.tdiv_eq_ediv_of_nonneg, Int.tmod_eq_emod_of_nonneg, Int.fdiv_eq_ediv_of_nonneg, Nat.mul_one, Nat.reduceAdd, Nat.zero_add, Nat.add_zero, implies_true, false_implies, true_implies]
      have hU3 := rbytes_any x.A (sizeE x) false (by omega) h2
      rw [← hsz2] at hU3
      refine hU3.mono ?_
      intro v3 h3 hp3
      have x3 := hp3.1
      have hv3 := hp3.2
      rw [inS_f] at hv3
      try rw [hsz3] at hv3
      have E3 := E2.trans x3
      have q3 := Fr_blk x3 q2 id
      have fx := facts h3 q3
      have bl3 : (bigS (atU x.A) (sizeE x)).length = sizeE x := bigS_len
      simp (disch := first | omega | assumption) only [C.ref2_encode_gos, vs, T.ts, and_true, true_and, List.getElem?_toArray, List.getElem?_cons_zero, List.getElem?_cons_succ, ↓reduceIte, Nat.reduceEqDiff, Option.bind_some, Option.map_some, Option.isSome_some, ne_eq, Bool.not_true, Bool.not_false, Bool.true_eq_false, Bool.false_eq_true, Bool.not_eq_true', Bool.not_eq_false', reduceCtorEq, Option.some.injEq, decide_eq_true_eq, decide_eq_false_iff_not, not_true_eq_false, not_false_eq_true, decide_true, decide_false, List.size_toArray, List.length_cons, List.length_nil, List.cons_append, List.nil_append, List.append_nil, List.map_cons, List.map_nil, Array.size_push, Int.toNat_natCast, List.toList_toArray, Nat.min_def, Nat.reduceLeDiff, Nat.reducePow, Int.reducePow, Int.reduceToNat, Int.tdiv_eq_ediv_of_nonneg, Int.tmod_eq_emod_of_nonneg, Int.fdiv_eq_ediv_of_nonneg, Nat.mul_one, Nat.reduceAdd, Nat.zero_add, Nat.add_zero, implies_true, false_implies, true_implies, L, hv3, fx]
      refine eff_call_of ?_
      simp (disch := first | omega | assumption) only [C.ref2_encode_gos, vs, T.ts, and_true, true_and, List.getElem?_toArray, List.getElem?_cons_zero, List.getElem?_cons_succ, ↓reduceIte, Nat.reduceEqDiff, Option.bind_some, Option.map_some, Option.isSome_some, ne_eq, Bool.not_true, Bool.not_false, Bool.true_eq_false, Bool.false_eq_true, Bool.not_eq_true', Bool.not_eq_false', reduceCtorEq, Option.some.injEq, decide_eq_true_eq, decide_eq_false_iff_not, not_true_eq_false, not_false_eq_true, decide_true, decide_false, List.size_toArray, List.length_cons, List.length_nil, List.cons_append, List.nil_append, List.append_nil, List.map_cons, List.map_nil, Array.size_push, Int.toNat_natCast, List.toList_toArray, Nat.min_def, Nat.reduceLeDiff, Nat.reducePow, Int.reducePow, Int.reduceToNat, Int.tdiv_eq_ediv_of_nonneg, Int.tmod_eq_emod_of_nonneg, Int.fdiv_eq_ediv_of_nonneg, Nat.mul_one, Nat.reduceAdd, Nat.zero_add, Nat.add_zero, implies_true, false_implies, true_implies]
      have hU4 := rbytes_any x.B (sizeE x) true (by omega) h3
      rw [← hsz2] at hU4
      refine hU4.mono ?_
      intro v4 h4 hp4
      have x4 := hp4.1
      have hv4 := hp4.2
      rw [inS_t] at hv4
      try rw [hsz3] at hv4
      have E4 := E3.trans x4
      have q4 := Fr_blk x4 q3 id
      have fx := facts h4 q4
      have bl4 : (bigS (atU x.B) (sizeE x)).length = sizeE x := bigS_len
      have hsle := sizeE_le x
      have hn0 : ([] : List UInt8).length = 0 ∧ ([0] : List UInt8).length = 1 := ⟨rfl, rfl⟩
      obtain ⟨hn0, hn1⟩ := hn0
      have l1 := hla S (bigS (atU x.A) (sizeE x))
      have hcs2 : (okU x.A (sizeE x) = false) ∨ (okU x.A (sizeE x) = true) := by cases okU x.A (sizeE x) <;> simp
      rcases hcs2 with fc | fc
      all_goals
        simp (disch := first | omega | assumption) only [C.ref2_encode_gos, vs, T.ts, and_true, true_and, List.getElem?_toArray, List.getElem?_cons_zero, List.getElem?_cons_succ, ↓reduceIte, Nat.reduceEqDiff, Option.bind_some, Option.map_some, Option.isSome_some, ne_eq, Bool.not_true, Bool.not_false, Bool.true_eq_false, Bool.false_eq_true, Bool.not_eq_true', Bool.not_eq_false', reduceCtorEq, Option.some.injEq, decide_eq_true_eq, decide_eq_false_iff_not, not_true_eq_false, not_false_eq_true, decide_true, decide_false, List.size_toArray, List.length_cons, List.length_nil, List.cons_append, List.nil_append, List.append_nil, List.map_cons, List.map_nil, Array.size_push, Int.toNat_natCast, List.toList_toArray, Nat.min_def, Nat.reduceLeDiff, Nat.reducePow, Int.reducePow, Int.reduceToNat, Int.tdiv_eq_ediv_of_nonneg, Int.tmod_eq_emod_of_nonneg, Int.fdiv_eq_ediv_of_nonneg, Nat.mul_one, Nat.reduceAdd, Nat.zero_add, Nat.add_zero, implies_true, false_implies, true_implies, L, hv4, fx, fc, Bool.true_and, Bool.and_true, Bool.false_and, Bool.and_false]
        first | exact ⟨E4, rfl⟩ | exact E4
    · rw [show [letS 8] = ([106] : List UInt8) from rfl]
      have L : ((([106] : List UInt8) = [116]) = False) ∧ ((([106] : List UInt8) = [107]) = False) ∧ ((([106] : List UInt8) = [74]) = False) ∧ ((([106] : List UInt8) = [98]) = False) ∧ ((([106] : List UInt8) = [115]) = False) ∧ ((([106] : List UInt8) = [99]) = False) ∧ ((([106] : List UInt8) = [97]) = False) ∧ ((([106] : List UInt8) = [105]) = False) ∧ ((([106] : List UInt8) = [108]) = False) ∧ ((([106] : List UInt8) = [110]) = False) ∧ ((([106] : List UInt8) = [102]) = False) ∧ ((([106] : List UInt8) = [109]) = False) := ⟨eq_false (by decide), eq_false (by decide), eq_false (by decide), eq_false (by decide), eq_false (by decide), eq_false (by decide), eq_false (by decide), eq_false (by decide), eq_false (by decide), eq_false (by decide), eq_false (by decide), eq_false (by decide)⟩
      by_cases htn : x.tgts.length = 1
      case neg =>
        have htn' : ¬ (x.tgts.length : Int) = 1 := by omega
        have hE : encX x 8 p = ([], false) := by unfold encX; rw [if_neg (by omega), if_pos (by simpa using htn)]
        rw [hE]
        simp (disch := first | omega | assumption) only [C.ref2_encode_gos, vs, T.ts, and_true, true_and, List.getElem?_toArray, List.getElem?_cons_zero, List.getElem?_cons_succ, ↓reduceIte, Nat.reduceEqDiff, Option.bind_some, Option.map_some, Option.isSome_some, ne_eq, Bool.not_true, Bool.not_false, Bool.true_eq_false, Bool.false_eq_true, Bool.not_eq_true', Bool.not_eq_false', reduceCtorEq, Option.some.injEq, decide_eq_true_eq, decide_eq_false_iff_not, not_true_eq_false, not_false_eq_true, decide_true, decide_false, List.size_toArray, List.length_cons, List.length_nil, List.cons_append, List.nil_append, List.append_nil, List.map_cons, List.map_nil, Array.size_push, Int.toNat_natCast, List.toList_toArray, Nat.min_def, Nat.reduceLeDiff, Nat.reducePow, Int.reducePow, Int.reduceToNat, Int.tdiv_eq_ediv_of_nonneg, Int.tmod_eq_emod_of_nonneg, Int.fdiv_eq_ediv_of_nonneg, Nat.mul_one, Nat.reduceAdd, Nat.zero_add, Nat.add_zero, implies_true, false_implies, true_implies, L, fx, eq_false htn']
        first | exact ⟨E2, rfl⟩ | exact E2
      have htn' : (x.tgts.length : Int) = 1 := by omega
      have hE : encX x 8 p = (S ++ bigS (atU (wr (x.tgts.getD 0 0 - x.at'))) 2, okI (wr (x.tgts.getD 0 0 - x.at')) 2) := by
        unfold encX
        rw [if_neg (by omega), if_neg (by simp [htn])]
        unfold oneE jmpE
        simp only [Nat.reduceEqDiff, if_false, if_true, hhd, sgnS, unsS, putX, putS, tgtS, htn, decide_true, Bool.true_and, okB, ← okA, List.append_assoc]
      rw [hE]
      clear hE
      obtain ⟨tb, to, tc, heqt, hcs, _⟩ := (ht.ext (by decide) E2).at (i := 0) (by omega)
      cases heqt
      have t0 : cellAt h2 ⟨tb, to, none⟩ = some (.int .i64 (x.tgts.getD 0 0)) := by
        have := hcs 0 (.int .i64 (x.tgts.getD 0 0)) (by simp [intsV, show 0 < x.tgts.length by omega])
        simpa using this
      have wr1 : IntKind.i64.wrap (x.tgts.getD 0 0 - x.at') = wr (x.tgts.getD 0 0 - x.at') := rfl
      have hpos : (0 : Int) < x.tgts.length := by omega
      simp (disch := first | omega | assumption) only [C.ref2_encode_gos, vs, T.ts, and_true, true_and, List.getElem?_toArray, List.getElem?_cons_zero, List.getElem?_cons_succ, ↓reduceIte, Nat.reduceEqDiff, Option.bind_some, Option.map_some, Option.isSome_some, ne_eq, Bool.not_true, Bool.not_false, Bool.true_eq_false, Bool.false_eq_true, Bool.not_eq_true', Bool.not_eq_false', reduceCtorEq, Option.some.injEq, decide_eq_true_eq, decide_eq_false_iff_not, not_true_eq_false, not_false_eq_true, decide_true, decide_false, List.size_toArray, List.length_cons, List.length_nil, List.cons_append, List.nil_append, List.append_nil, List.map_cons, List.map_nil, Array.size_push, Int.toNat_natCast, List.toList_toArray, Nat.min_def, Nat.reduceLeDiff, Nat.reducePow, Int.reducePow, Int.reduceToNat, Int.tdiv_eq_ediv_of_nonneg, Int.tmod_eq_emod_of_nonneg, Int.fdiv_eq_ediv_of_nonneg, Nat.mul_one, Nat.reduceAdd, Nat.zero_add, Nat.add_zero, implies_true, false_implies, true_implies, L, fx, eq_true htn', t0, wr1, hpos, Nat.zero_mul]
      refine eff_call_of ?_
      simp (disch := first | omega | assumption) only [C.ref2_encode_gos, vs, T.ts, and_true, true_and, List.getElem?_toArray, List.getElem?_cons_zero, List.getElem?_cons_succ, ↓reduceIte, Nat.reduceEqDiff, Option.bind_some, Option.map_some, Option.isSome_some, ne_eq, Bool.not_true, Bool.not_false, Bool.true_eq_false, Bool.false_eq_true, Bool.not_eq_true', Bool.not_eq_false', reduceCtorEq, Option.some.injEq, decide_eq_true_eq, decide_eq_false_iff_not, not_true_eq_false, not_false_eq_true, decide_true, decide_false, List.size_toArray, List.length_cons, List.length_nil, List.cons_append, List.nil_append, List.append_nil, List.map_cons, List.map_nil, Array.size_push, Int.toNat_natCast, List.toList_toArray, Nat.min_def, Nat.reduceLeDiff, Nat.reducePow, Int.reducePow, Int.reduceToNat, Int.tdiv_eq_ediv_of_nonneg, Int.tmod_eq_emod_of_nonneg, Int.fdiv_eq_ediv_of_nonneg, Nat.mul_one, Nat.reduceAdd, Nat.zero_add, Nat.add_zero, implies_true, false_implies, true_implies]
      have hU3 := rbytes_any (wr (x.tgts.getD 0 0 - x.at')) 2 true (by omega) h2
      refine hU3.mono ?_
      intro v3 h3 hp3
      have x3 := hp3.1
      have hv3 := hp3.2
      rw [inS_t] at hv3
      have E3 := E2.trans x3
      have q3 := Fr_blk x3 q2 id
      have fx := facts h3 q3
      have bl3 : (bigS (atU (wr (x.tgts.getD 0 0 - x.at'))) 2).length = 2 := bigS_len
      have hn0 : ([] : List UInt8).length = 0 ∧ ([0] : List UInt8).length = 1 := ⟨rfl, rfl⟩
      obtain ⟨hn0, hn1⟩ := hn0
      have l1 := hla S (bigS (atU (wr (x.tgts.getD 0 0 - x.at'))) 2)
      have hcs2 : (okI (wr (x.tgts.getD 0 0 - x.at')) 2 = false) ∨ (okI (wr (x.tgts.getD 0 0 - x.at')) 2 = true) := by cases okI (wr (x.tgts.getD 0 0 - x.at')) 2 <;> simp
      rcases hcs2 with fc | fc
      all_goals
        simp (disch := first | omega | assumption) only [C.ref2_encode_gos, vs, T.ts, and_true, true_and, List.getElem?_toArray, List.getElem?_cons_zero, List.getElem?_cons_succ, ↓reduceIte, Nat.reduceEqDiff, Option.bind_some, Option.map_some, Option.isSome_some, ne_eq, Bool.not_true, Bool.not_false, Bool.true_eq_false, Bool.false_eq_true, Bool.not_eq_true', Bool.not_eq_false', reduceCtorEq, Option.some.injEq, decide_eq_true_eq, decide_eq_false_iff_not, not_true_eq_false, not_false_eq_true, decide_true, decide_false, List.size_toArray, List.length_cons, List.length_nil, List.cons_append, List.nil_append, List.append_nil, List.map_cons, List.map_nil, Array.size_push, Int.toNat_natCast, List.toList_toArray, Nat.min_def, Nat.reduceLeDiff, Nat.reducePow, Int.reducePow, Int.reduceToNat, Int.tdiv_eq_ediv_of_nonneg, Int.tmod_eq_emod_of_nonneg, Int.fdiv_eq_ediv_of_nonneg, Nat.mul_one, Nat.reduceAdd, Nat.zero_add, Nat.add_zero, implies_true, false_implies, true_implies, L, hv3, fx, fc, Bool.true_and, Bool.and_true, Bool.false_and, Bool.and_false]
        first | exact ⟨E3, rfl⟩ | exact E3
    · rw [show [letS 9] = ([74] : List UInt8) from rfl]
      have L : ((([74] : List UInt8) = [116]) = False) ∧ ((([74] : List UInt8) = [107]) = False) ∧ ((([74] : List UInt8) = [106]) = False) ∧ ((([74] : List UInt8) = [98]) = False) ∧ ((([74] : List UInt8) = [115]) = False) ∧ ((([74] : List UInt8) = [99]) = False) ∧ ((([74] : List UInt8) = [97]) = False) ∧ ((([74] : List UInt8) = [105]) = False) ∧ ((([74] : List UInt8) = [108]) = False) ∧ ((([74] : List UInt8) = [110]) = False) ∧ ((([74] : List UInt8) = [102]) = False) ∧ ((([74] : List UInt8) = [109]) = False) := ⟨eq_false (by decide), eq_false (by decide), eq_false (by decide), eq_false (by decide), eq_false (by decide), eq_false (by decide), eq_false (by decide), eq_false (by decide), eq_false (by decide), eq_false (by decide), eq_false (by decide), eq_false (by decide)⟩
      by_cases htn : x.tgts.length = 1
      case neg =>
        have htn' : ¬ (x.tgts.length : Int) = 1 := by omega
        have hE : encX x 9 p = ([], false) := by unfold encX; rw [if_neg (by omega), if_pos (by simpa using htn)]
        rw [hE]
        simp (disch := first | omega | assumption) only [C.ref2_encode_gos, vs, T.ts, and_true, true_and, List.getElem?_toArray, List.getElem?_cons_zero, List.getElem?_cons_succ, ↓reduceIte, Nat.reduceEqDiff, Option.bind_some, Option.map_some, Option.isSome_some, ne_eq, Bool.not_true, Bool.not_false, Bool.true_eq_false, Bool.false_eq_true, Bool.not_eq_true', Bool.not_eq_false', reduceCtorEq, Option.some.injEq, decide_eq_true_eq, decide_eq_false_iff_not, not_true_eq_false, not_false_eq_true, decide_true, decide_false, List.size_toArray, List.length_cons, List.length_nil, List.cons_append, List.nil_append, List.append_nil, List.map_cons, List.map_nil, Array.size_push, Int.toNat_natCast, List.toList_toArray, Nat.min_def, Nat.reduceLeDiff, Nat.reducePow, Int.reducePow, Int.reduceToNat, Int.tdiv_eq_ediv_of_nonneg, Int.tmod_eq_emod_of_nonneg, Int.fdiv_eq_ediv_of_nonneg, Nat.mul_one, Nat.reduceAdd, Nat.zero_add, Nat.add_zero, implies_true, false_implies, true_implies, L, fx, eq_false htn']
        first | exact ⟨E2, rfl⟩ | exact E2
      have htn' : (x.tgts.length : Int) = 1 := by omega
      have hE : encX x 9 p = (S ++ bigS (atU (wr (x.tgts.getD 0 0 - x.at'))) 4, okI (wr (x.tgts.getD 0 0 - x.at')) 4) := by
        unfold encX
        rw [if_neg (by omega), if_neg (by simp [htn])]
        unfold oneE jmpE
        simp only [Nat.reduceEqDiff, if_false, if_true, hhd, sgnS, unsS, putX, putS, tgtS, htn, decide_true, Bool.true_and, okB, ← okA, List.append_assoc]
      rw [hE]
      clear hE
      obtain ⟨tb, to, tc, heqt, hcs, _⟩ := (ht.ext (by decide) E2).at (i := 0) (by omega)
      cases heqt
      have t0 : cellAt h2 ⟨tb, to, none⟩ = some (.int .i64 (x.tgts.getD 0 0)) := by
        have := hcs 0 (.int .i64 (x.tgts.getD 0 0)) (by simp [intsV, show 0 < x.tgts.length by omega])
        simpa using this
      have wr1 : IntKind.i64.wrap (x.tgts.getD 0 0 - x.at') = wr (x.tgts.getD 0 0 - x.at') := rfl
      have hpos : (0 : Int) < x.tgts.length := by omega
      simp (disch := first | omega | assumption) only [C.ref2_encode_gos, vs, T.ts, and_true, true_and, List.getElem?_toArray, List.getElem?_cons_zero, List.getElem?_cons_succ, ↓reduceIte, Nat.reduceEqDiff, Option.bind_some, Option.map_some, Option.isSome_some, ne_eq, Bool.not_true, Bool.not_false, Bool.true_eq_false, Bool.false_eq_true, Bool.not_eq_true', Bool.not_eq_false', reduceCtorEq, Option.some.injEq, decide_eq_true_eq, decide_eq_false_iff_not, not_true_eq_false, not_false_eq_true, decide_true, decide_false, List.size_toArray, List.length_cons, List.length_nil, List.cons_append, List.nil_append, List.append_nil, List.map_cons, List.map_nil, Array.size_push, Int.toNat_natCast, List.toList_toArray, Nat.min_def, Nat.reduceLeDiff, Nat.reducePow, Int.reducePow, Int.reduceToNat, Int.tdiv_eq_ediv_of_nonneg, Int.tmod_eq_emod_of_nonneg, Int.fdiv_eq_ediv_of_nonneg, Nat.mul_one, Nat.reduceAdd, Nat.zero_add, Nat.add_zero, implies_true, false_implies, true_implies, L, fx, eq_true htn', t0, wr1, hpos, Nat.zero_mul]
      refine eff_call_of ?_
      simp (disch := first | omega | assumption) only [C.ref2_encode_gos, vs, T.ts, and_true, true_and, List.getElem?_toArray, List.getElem?_cons_zero, List.getElem?_cons_succ, ↓reduceIte, Nat.reduceEqDiff, Option.bind_some, Option.map_some, Option.isSome_some, ne_eq, Bool.not_true, Bool.not_false, Bool.true_eq_false, Bool.false_eq_true, Bool.not_eq_true', Bool.not_eq_false', reduceCtorEq, Option.some.injEq, decide_eq_true_eq, decide_eq_false_iff_not, not_true_eq_false, not_false_eq_true, decide_true, decide_false, List.size_toArray, List.length_cons, List.length_nil, List.cons_append, List.nil_append, List.append_nil, List.map_cons, List.map_nil, Array.size_push, Int.toNat_natCast, List.toList_toArray, Nat.min_def, Nat.reduceLeDiff, Nat.reducePow, Int.reducePow, Int.reduceToNat, Int.tdiv_eq_ediv_of_nonneg, Int.tmod_eq_emod_of_nonneg, Int.fdiv_eq_ediv_of_nonneg, Nat.mul_one, Nat.reduceAdd, Nat.zero_add, Nat.add_zero, implies_true, false_implies, true_implies]
      have hU3 := rbytes_any (wr (x.tgts.getD 0 0 - x.at')) 4 true (by omega) h2
      refine hU3.mono ?_
      intro v3 h3 hp3
      have x3 := hp3.1
      have hv3 := hp3.2
      rw [inS_t] at hv3
      have E3 := E2.trans x3
      have q3 := Fr_blk x3 q2 id
      have fx := facts h3 q3
      have bl3 : (bigS (atU (wr (x.tgts.getD 0 0 - x.at'))) 4).length = 4 := bigS_len
      have hn0 : ([] : List UInt8).length = 0 ∧ ([0] : List UInt8).length = 1 := ⟨rfl, rfl⟩
      obtain ⟨hn0, hn1⟩ := hn0
      have l1 := hla S (bigS (atU (wr (x.tgts.getD 0 0 - x.at'))) 4)
      have hcs2 : (okI (wr (x.tgts.getD 0 0 - x.at')) 4 = false) ∨ (okI (wr (x.tgts.getD 0 0 - x.at')) 4 = true) := by cases okI (wr (x.tgts.getD 0 0 - x.at')) 4 <;> simp
      rcases hcs2 with fc | fc
      all_goals
        simp (disch := first | omega | assumption) only [C.ref2_encode_gos, vs, T.ts, and_true, true_and, List.getElem?_toArray, List.getElem?_cons_zero, List.getElem?_cons_succ, ↓reduceIte, Nat.reduceEqDiff, Option.bind_some, Option.map_some, Option.isSome_some, ne_eq, Bool.not_true, Bool.not_false, Bool.true_eq_false, Bool.false_eq_true, Bool.not_eq_true', Bool.not_eq_false', reduceCtorEq, Option.some.injEq, decide_eq_true_eq, decide_eq_false_iff_not, not_true_eq_false, not_false_eq_true, decide_true, decide_false, List.size_toArray, List.length_cons, List.length_nil, List.cons_append, List.nil_append, List.append_nil, List.map_cons, List.map_nil, Array.size_push, Int.toNat_natCast, List.toList_toArray, Nat.min_def, Nat.reduceLeDiff, Nat.reducePow, Int.reducePow, Int.reduceToNat, Int.tdiv_eq_ediv_of_nonneg, Int.tmod_eq_emod_of_nonneg, Int.fdiv_eq_ediv_of_nonneg, Nat.mul_one, Nat.reduceAdd, Nat.zero_add, Nat.add_zero, implies_true, false_implies, true_implies, L, hv3, fx, fc, Bool.true_and, Bool.and_true, Bool.false_and, Bool.and_false]
        first | exact ⟨E3, rfl⟩ | exact E3
    · rw [show [letS 10] = ([116] : List UInt8) from rfl]
      have L : ((([116] : List UInt8) = [107]) = False) ∧ ((([116] : List UInt8) = [106]) = False) ∧ ((([116] : List UInt8) = [74]) = False) ∧ ((([116] : List UInt8) = [98]) = False) ∧ ((([116] : List UInt8) = [115]) = False) ∧ ((([116] : List UInt8) = [99]) = False) ∧ ((([116] : List UInt8) = [97]) = False) ∧ ((([116] : List UInt8) = [105]) = False) ∧ ((([116] : List UInt8) = [108]) = False) ∧ ((([116] : List UInt8) = [110]) = False) ∧ ((([116] : List UInt8) = [102]) = False) ∧ ((([116] : List UInt8) = [109]) = False) := ⟨eq_false (by decide), eq_false (by decide), eq_false (by decide), eq_false (by decide), eq_false (by decide), eq_false (by decide), eq_false (by decide), eq_false (by decide), eq_false (by decide), eq_false (by decide), eq_false (by decide), eq_false (by decide)⟩
      have hch := rchoice_any x 10 p _ _ h2 (by omega) hx hp hp2 (hk.ext (by decide) E2) (ht.ext (by decide) E2) htc hkl htl
      simp only [enV, InV, Nat.reduceEqDiff, decide_true, decide_false, esV] at hch
      have hE : encX x 10 p = choX x 10 p := rfl
      rw [hE]
      simp (disch := first | omega | assumption) only [C.ref2_encode_gos, vs, T.ts, and_true, true_and, List.getElem?_toArray, List.getElem?_cons_zero, List.getElem?_cons_succ, ↓reduceIte, Nat.reduceEqDiff, Option.bind_some, Option.map_some, Option.isSome_some, ne_eq, Bool.not_true, Bool.not_false, Bool.true_eq_false, Bool.false_eq_true, Bool.not_eq_true', Bool.not_eq_false', reduceCtorEq, Option.some.injEq, decide_eq_true_eq, decide_eq_false_iff_not, not_true_eq_false, not_false_eq_true, decide_true, decide_false, List.size_toArray, List.length_cons, List.length_nil, List.cons_append, List.nil_append, List.append_nil, List.map_cons, List.map_nil, Array.size_push, Int.toNat_natCast, List.toList_toArray, Nat.min_def, Nat.reduceLeDiff, Nat.reducePow, Int.reducePow, Int.reduceToNat, Int.tdiv_eq_ediv_of_nonneg, Int.tmod_eq_emod_of_nonneg, Int.fdiv_eq_ediv_of_nonneg, Nat.mul_one, Nat.reduceAdd, Nat.zero_add, Nat.add_zero, implies_true, false_implies, true_implies, L, fx]
      refine eff_call_of ?_
      simp (disch := first | omega | assumption) only [C.ref2_encode_gos, vs, T.ts, and_true, true_and, List.getElem?_toArray, List.getElem?_cons_zero, List.getElem?_cons_succ, ↓reduceIte, Nat.reduceEqDiff, Option.bind_some, Option.map_some, Option.isSome_some, ne_eq, Bool.not_true, Bool.not_false, Bool.true_eq_false, Bool.false_eq_true, Bool.not_eq_true', Bool.not_eq_false', reduceCtorEq, Option.some.injEq, decide_eq_true_eq, decide_eq_false_iff_not, not_true_eq_false, not_false_eq_true, decide_true, decide_false, List.size_toArray, List.length_cons, List.length_nil, List.cons_append, List.nil_append, List.append_nil, List.map_cons, List.map_nil, Array.size_push, Int.toNat_natCast, List.toList_toArray, Nat.min_def, Nat.reduceLeDiff, Nat.reducePow, Int.reducePow, Int.reduceToNat, Int.tdiv_eq_ediv_of_nonneg, Int.tmod_eq_emod_of_nonneg, Int.fdiv_eq_ediv_of_nonneg, Nat.mul_one, Nat.reduceAdd, Nat.zero_add, Nat.add_zero, implies_true, false_implies, true_implies]
      refine hch.mono ?_
      intro v3 h3 hp3
      have x3 := hp3.1
      have hv3 := hp3.2
      simp (disch := first | omega | assumption) only [C.ref2_encode_gos, vs, T.ts, and_true, true_and, List.getElem?_toArray, List.getElem?_cons_zero, List.getElem?_cons_succ, ↓reduceIte, Nat.reduceEqDiff, Option.bind_some, Option.map_some, Option.isSome_some, ne_eq, Bool.not_true, Bool.not_false, Bool.true_eq_false, Bool.false_eq_true, Bool.not_eq_true', Bool.not_eq_false', reduceCtorEq, Option.some.injEq, decide_eq_true_eq, decide_eq_false_iff_not, not_true_eq_false, not_false_eq_true, decide_true, decide_false, List.size_toArray, List.length_cons, List.length_nil, List.cons_append, List.nil_append, List.append_nil, List.map_cons, List.map_nil, Array.size_push, Int.toNat_natCast, List.toList_toArray, Nat.min_def, Nat.reduceLeDiff, Nat.reducePow, Int.reducePow, Int.reduceToNat, Int.tdiv_eq_ediv_of_nonneg, Int.tmod_eq_emod_of_nonneg, Int.fdiv_eq_ediv_of_nonneg, Nat.mul_one, Nat.reduceAdd, Nat.zero_add, Nat.add_zero, implies_true, false_implies, true_implies, hv3]
      first | exact ⟨E2.trans x3, rfl⟩ | exact E2.trans x3
    · rw [show [letS 11] = ([107] : List UInt8) from rfl]
      have L : ((([107] : List UInt8) = [116]) = False) ∧ ((([107] : List UInt8) = [106]) = False) ∧ ((([107] : List UInt8) = [74]) = False) ∧ ((([107] : List UInt8) = [98]) = False) ∧ ((([107] : List UInt8) = [115]) = False) ∧ ((([107] : List UInt8) = [99]) = False) ∧ ((([107] : List UInt8) = [97]) = False) ∧ ((([107] : List UInt8) = [105]) = False) ∧ ((([107] : List UInt8) = [108]) = False) ∧ ((([107] : List UInt8) = [110]) = False) ∧ ((([107] : List UInt8) = [102]) = False) ∧ ((([107] : List UInt8) = [109]) = False) := ⟨eq_false (by decide), eq_false (by decide), eq_false (by decide), eq_false (by decide), eq_false (by decide), eq_false (by decide), eq_false (by decide), eq_false (by decide), eq_false (by decide), eq_false (by decide), eq_false (by decide), eq_false (by decide)⟩
      have hch := rchoice_any x 11 p _ _ h2 (by omega) hx hp hp2 (hk.ext (by decide) E2) (ht.ext (by decide) E2) htc hkl htl
      simp only [enV, InV, Nat.reduceEqDiff, decide_true, decide_false, esV] at hch
      have hE : encX x 11 p = choX x 11 p := rfl
      rw [hE]
      simp (disch := first | omega | assumption) only [C.ref2_encode_gos, vs, T.ts, and_true, true_and, List.getElem?_toArray, List.getElem?_cons_zero, List.getElem?_cons_succ, ↓reduceIte, Nat.reduceEqDiff, Option.bind_some, Option.map_some, Option.isSome_some, ne_eq, Bool.not_true, Bool.not_false, Bool.true_eq_false, Bool.false_eq_true, Bool.not_eq_true', Bool.not_eq_false', reduceCtorEq, Option.some.injEq, decide_eq_true_eq, decide_eq_false_iff_not, not_true_eq_false, not_false_eq_true, decide_true, decide_false, List.size_toArray, List.length_cons, List.length_nil, List.cons_append, List.nil_append, List.append_nil, List.map_cons, List.map_nil, Array.size_push, Int.toNat_natCast, List.toList_toArray, Nat.min_def, Nat.reduceLeDiff, Nat.reducePow, Int.reducePow, Int.reduceToNat, Int.tdiv_eq_ediv_of_nonneg, Int.tmod_eq_emod_of_nonneg, Int.fdiv_eq_ediv_of_nonneg, Nat.mul_one, Nat.reduceAdd, Nat.zero_add, Nat.add_zero, implies_true, false_implies, true_implies, L, fx]
      refine eff_call_of ?_
      simp (disch := first | omega | assumption) only [C.ref2_encode_gos, vs, T.ts, and_true, true_and, List.getElem?_toArray, List.getElem?_cons_zero, List.getElem?_cons_succ, ↓reduceIte, Nat.reduceEqDiff, Option.bind_some, Option.map_some, Option.isSome_some, ne_eq, Bool.not_true, Bool.not_false, Bool.true_eq_false, Bool.false_eq_true, Bool.not_eq_true', Bool.not_eq_false', reduceCtorEq, Option.some.injEq, decide_eq_true_eq, decide_eq_false_iff_not, not_true_eq_false, not_false_eq_true, decide_true, decide_false, List.size_toArray, List.length_cons, List.length_nil, List.cons_append, List.nil_append, List.append_nil, List.map_cons, List.map_nil, Array.size_push, Int.toNat_natCast, List.toList_toArray, Nat.min_def, Nat.reduceLeDiff, Nat.reducePow, Int.reducePow, Int.reduceToNat, Int.tdiv_eq_ediv_of_nonneg, Int.tmod_eq_emod_of_nonneg, Int.fdiv_eq_ediv_of_nonneg, Nat.mul_one, Nat.reduceAdd, Nat.zero_add, Nat.add_zero, implies_true, false_implies, true_implies]
      refine hch.mono ?_
      intro v3 h3 hp3
      have x3 := hp3.1
      have hv3 := hp3.2
      simp (disch := first | omega | assumption) only [C.ref2_encode_gos, vs, T.ts, and_true, true_and, List.getElem?_toArray, List.getElem?_cons_zero, List.getElem?_cons_succ, ↓reduceIte, Nat.reduceEqDiff, Option.bind_some, Option.map_some, Option.isSome_some, ne_eq, Bool.not_true, Bool.not_false, Bool.true_eq_false, Bool.false_eq_true, Bool.not_eq_true', Bool.not_eq_false', reduceCtorEq, Option.some.injEq, decide_eq_true_eq, decide_eq_false_iff_not, not_true_eq_false, not_false_eq_true, decide_true, decide_false, List.size_toArray, List.length_cons, List.length_nil, List.cons_append, List.nil_append, List.append_nil, List.map_cons, List.map_nil, Array.size_push, Int.toNat_natCast, List.toList_toArray, Nat.min_def, Nat.reduceLeDiff, Nat.reducePow, Int.reducePow, Int.reduceToNat, Int.tdiv_eq_ediv_of_nonneg, Int.tmod_eq_emod_of_nonneg, Int.fdiv_eq_ediv_of_nonneg, Nat.mul_one, Nat.reduceAdd, Nat.zero_add, Nat.add_zero, implies_true, false_implies, true_implies, hv3]
      first | exact ⟨E2.trans x3, rfl⟩ | exact E2.trans x3
    · rw [show [letS 12] = ([102] : List UInt8) from rfl]
      have L : ((([102] : List UInt8) = [116]) = False) ∧ ((([102] : List UInt8) = [107]) = False) ∧ ((([102] : List UInt8) = [106]) = False) ∧ ((([102] : List UInt8) = [74]) = False) ∧ ((([102] : List UInt8) = [98]) = False) ∧ ((([102] : List UInt8) = [115]) = False) ∧ ((([102] : List UInt8) = [99]) = False) ∧ ((([102] : List UInt8) = [97]) = False) ∧ ((([102] : List UInt8) = [105]) = False) ∧ ((([102] : List UInt8) = [108]) = False) ∧ ((([102] : List UInt8) = [110]) = False) ∧ ((([102] : List UInt8) = [109]) = False) := ⟨eq_false (by decide), eq_false (by decide), eq_false (by decide), eq_false (by decide), eq_false (by decide), eq_false (by decide), eq_false (by decide), eq_false (by decide), eq_false (by decide), eq_false (by decide), eq_false (by decide), eq_false (by decide)⟩
      by_cases htn : x.tgts.length = 0
      case neg =>
        have htn' : ¬ (x.tgts.length : Int) = 0 := by omega
        have hE : encX x 12 p = ([], false) := by unfold encX; rw [if_neg (by omega), if_pos (by simpa using htn)]
        rw [hE]
        simp (disch := first | omega | assumption) only [C.ref2_encode_gos, vs, T.ts, and_true, true_and, List.getElem?_toArray, List.getElem?_cons_zero, List.getElem?_cons_succ, ↓reduceIte, Nat.reduceEqDiff, Option.bind_some, Option.map_some, Option.isSome_some, ne_eq, Bool.not_true, Bool.not_false, Bool.true_eq_false, Bool.false_eq_true, Bool.not_eq_true', Bool.not_eq_false', reduceCtorEq, Option.some.injEq, decide_eq_true_eq, decide_eq_false_iff_not, not_true_eq_false, not_false_eq_true, decide_true, decide_false, List.size_toArray, List.length_cons, List.length_nil, List.cons_append, List.nil_append, List.append_nil, List.map_cons, List.map_nil, Array.size_push, Int.toNat_natCast, List.toList_toArray, Nat.min_def, Nat.reduceLeDiff, Nat.reducePow, Int.reducePow, Int.reduceToNat, Int.tdiv_eq_ediv_of_nonneg, Int.tmod_eq_emod_of_nonneg, Int.fdiv_eq_ediv_of_nonneg, Nat.mul_one, Nat.reduceAdd, Nat.zero_add, Nat.add_zero, implies_true, false_implies, true_implies, L, fx, eq_false htn']
        first | exact ⟨E2, rfl⟩ | exact E2
      have htn' : (x.tgts.length : Int) = 0 := by omega
      have hE : encX x 12 p = (S ++ bigS (atU x.A) 2 ++ (bigS (atU x.B) 1 ++ [0]), okU x.A 2 && (okU x.B 1 && decide (0 < x.B))) := by
        unfold encX
        rw [if_neg (by omega), if_neg (by simp [htn])]
        unfold oneE
        simp only [Nat.reduceEqDiff, if_false, if_true, hhd, sgnS, unsS, putX, putS, tgtS, htn, decide_true, Bool.true_and, okB, ← okA, List.append_assoc]
      rw [hE]
      clear hE
      simp (disch := first | omega | assumption) only [C.ref2_encode_gos, vs, T.ts, and_true, true_and, List.getElem?_toArray, List.getElem?_cons_zero, List.getElem?_cons_succ, ↓reduceIte, Nat.reduceEqDiff, Option.bind_some, Option.map_some, Option.isSome_some, ne_eq, Bool.not_true, Bool.not_false, Bool.true_eq_false, Bool.false_eq_true, Bool.not_eq_true', Bool.not_eq_false', reduceCtorEq, Option.some.injEq, decide_eq_true_eq, decide_eq_false_iff_not, not_true_eq_false, not_false_eq_true, decide_true, decide_false, List.size_toArray, List.length_cons, List.length_nil, List.cons_append, List.nil_append, List.append_nil, List.map_cons, List.map_nil, Array.size_push, Int.toNat_natCast, List.toList_toArray, Nat.min_def, Nat.reduceLeDiff, Nat.reducePow, Int.reducePow, Int.reduceToNat, Int.tdiv_eq_ediv_of_nonneg, Int.tmod_eq_emod_of_nonneg, Int.fdiv_eq_ediv_of_nonneg, Nat.mul_one, Nat.reduceAdd, Nat.zero_add, Nat.add_zero, implies_true, false_implies, true_implies, L, fx, eq_true htn']
      refine eff_call_of ?_
      simp (disch := first | omega | assumption) only [C.ref2_encode_gos, vs, T.ts, and_true, true_and, List.getElem?_toArray, List.getElem?_cons_zero, List.getElem?_cons_succ, ↓reduceIte, Nat.reduceEqDiff, Option.bind_some, Option.map_some, Option.isSome_some, ne_eq, Bool.not_true, Bool.not_false, Bool.true_eq_false, Bool.false_eq_true, Bool.not_eq_true', Bool.not_eq_false', reduceCtorEq, Option.some.injEq, decide_eq_true_eq, decide_eq_false_iff_not, not_true_eq_false, not_false_eq_true, decide_true, decide_false, List.size_toArray, List.length_cons, List.length_nil, List.cons_append, List.nil_append, List.append_nil, List.map_cons, List.map_nil, Array.size_push, Int.toNat_natCast, List.toList_toArray, Nat.min_def, Nat.reduceLeDiff, Nat.reducePow, Int.reducePow, Int.reduceToNat, Int.tdiv_eq_ediv_of_nonneg, Int.tmod_eq_emod_of_nonneg, Int.fdiv_eq_ediv_of_nonneg, Nat.mul_one, Nat.reduceAdd, Nat.zero_add, Nat.add_zero, implies_true, false_implies, true_implies]
      have hU3 := rbytes_any x.A 2 false (by omega) h2
      refine hU3.mono ?_
      intro v3 h3 hp3
      have x3 := hp3.1
      have hv3 := hp3.2
      rw [inS_f] at hv3
      have E3 := E2.trans x3
      have q3 := Fr_blk x3 q2 id
      have fx := facts h3 q3
      have bl3 : (bigS (atU x.A) 2).length = 2 := bigS_len
      simp (disch := first | omega | assumption) only [C.ref2_encode_gos, vs, T.ts, and_true, true_and, List.getElem?_toArray, List.getElem?_cons_zero, List.getElem?_cons_succ, ↓reduceIte, Nat.reduceEqDiff, Option.bind_some, Option.map_some, Option.isSome_some, ne_eq, Bool.not_true, Bool.not_false, Bool.true_eq_false, Bool.false_eq_true, Bool.not_eq_true', Bool.not_eq_false', reduceCtorEq, Option.some.injEq, decide_eq_true_eq, decide_eq_false_iff_not, not_true_eq_false, not_false_eq_true, decide_true, decide_false, List.size_toArray, List.length_cons, List.length_nil, List.cons_append, List.nil_append, List.append_nil, List.map_cons, List.map_nil, Array.size_push, Int.toNat_natCast, List.toList_toArray, Nat.min_def, Nat.reduceLeDiff, Nat.reducePow, Int.reducePow, Int.reduceToNat, Int.tdiv_eq_ediv_of_nonneg, Int.tmod_eq_emod_of_nonneg, Int.fdiv_eq_ediv_of_nonneg, Nat.mul_one, Nat.reduceAdd, Nat.zero_add, Nat.add_zero, implies_true, false_implies, true_implies, L, hv3, fx]
      refine eff_call_of ?_
      simp (disch := first | omega | assumption) only [C.ref2_encode_gos, vs, T.ts, and_true, true_and, List.getElem?_toArray, List.getElem?_cons_zero, List.getElem?_cons_succ, ↓reduceIte, Nat.reduceEqDiff, Option.bind_some, Option.map_some, Option.isSome_some, ne_eq, Bool.not_true, Bool.not_false, Bool.true_eq_false, Bool.false_eq_true, Bool.not_eq_true', Bool.not_eq_false', reduceCtorEq, Option.some.injEq, decide_eq_true_eq, decide_eq_false_iff_not, not_true_eq_false, not_false_eq_true, decide_true, decide_false, List.size_toArray, List.length_cons, List.length_nil, List.cons_append, List.nil_append, List.append_nil, List.map_cons, List.map_nil, Array.size_push, Int.toNat_natCast, List.toList_toArray, Nat.min_def, Nat.reduceLeDiff, Nat.reducePow, Int.reducePow, Int.reduceToNat, Int.tdiv_eq_ediv_of_nonneg, Int.tmod_eq_emod_of_nonneg, Int.fdiv_eq_ediv_of_nonneg, Nat.mul_one, Nat.reduceAdd, Nat.zero_add, Nat.add_zero, implies_true, false_implies, true_implies]
      have hU4 := rbytes_any x.B 1 false (by omega) h3
      refine hU4.mono ?_
      intro v4 h4 hp4
      have x4 := hp4.1
      have hv4 := hp4.2
      rw [inS_f] at hv4
      have E4 := E3.trans x4
      have q4 := Fr_blk x4 q3 id
      have fx := facts h4 q4
      have bl4 : (bigS (atU x.B) 1).length = 1 := bigS_len
      have hn0 : ([] : List UInt8).length = 0 ∧ ([0] : List UInt8).length = 1 := ⟨rfl, rfl⟩
      obtain ⟨hn0, hn1⟩ := hn0
      have l1 := hla S (bigS (atU x.A) 2)
      have l2 := hla (bigS (atU x.B) 1) [0]
      have hcs2 : ((0 < x.B) = False ∧ okU x.B 1 = false ∧ okU x.A 2 = false) ∨ ((0 < x.B) = True ∧ okU x.B 1 = false ∧ okU x.A 2 = false) ∨ ((0 < x.B) = False ∧ okU x.B 1 = true ∧ okU x.A 2 = false) ∨ ((0 < x.B) = True ∧ okU x.B 1 = true ∧ okU x.A 2 = false) ∨ ((0 < x.B) = False ∧ okU x.B 1 = false ∧ okU x.A 2 = true) ∨ ((0 < x.B) = True ∧ okU x.B 1 = false ∧ okU x.A 2 = true) ∨ ((0 < x.B) = False ∧ okU x.B 1 = true ∧ okU x.A 2 = true) ∨ ((0 < x.B) = True ∧ okU x.B 1 = true ∧ okU x.A 2 = true) := by
        by_cases g1 : 0 < x.B <;> cases g2 : okU x.B 1 <;> cases g3 : okU x.A 2 <;> simp [g1]
      rcases hcs2 with fc | fc | fc | fc | fc | fc | fc | fc
      all_goals
        simp (disch := first | omega | assumption) only [C.ref2_encode_gos, vs, T.ts, and_true, true_and, List.getElem?_toArray, List.getElem?_cons_zero, List.getElem?_cons_succ, ↓reduceIte, Nat.reduceEqDiff, Option.bind_some, Option.map_some, Option.isSome_some, ne_eq, Bool.not_true, Bool.not_false, Bool.true_eq_false, Bool.false_eq_true, Bool.not_eq_true', Bool.not_eq_false', reduceCtorEq, Option.some.injEq, decide_eq_true_eq, decide_eq_false_iff_not, not_true_eq_false, not_false_eq_true, decide_true, decide_false, List.size_toArray, List.length_cons, List.length_nil, List.cons_append, List.nil_append, List.append_nil, List.map_cons, List.map_nil, Array.size_push, Int.toNat_natCast, List.toList_toArray, Nat.min_def, Nat.reduceLeDiff, Nat.reducePow, Int.reducePow, Int.reduceToNat, Int.tdiv_eq_ediv_of_nonneg, Int.tmod_eq_emod_of_nonneg, Int.fdiv_eq_ediv_of_nonneg, Nat.mul_one, Nat.reduceAdd, Nat.zero_add, Nat.add_zero, implies_true, false_implies, true_implies, L, hv4, fx, fc, Bool.true_and, Bool.and_true, Bool.false_and, Bool.and_false]
        first | exact ⟨E4, rfl⟩ | exact E4
    · rw [show [letS 13] = ([97] : List UInt8) from rfl]
      have L : ((([97] : List UInt8) = [116]) = False) ∧ ((([97] : List UInt8) = [107]) = False) ∧ ((([97] : List UInt8) = [106]) = False) ∧ ((([97] : List UInt8) = [74]) = False) ∧ ((([97] : List UInt8) = [98]) = False) ∧ ((([97] : List UInt8) = [115]) = False) ∧ ((([97] : List UInt8) = [99]) = False) ∧ ((([97] : List UInt8) = [105]) = False) ∧ ((([97] : List UInt8) = [108]) = False) ∧ ((([97] : List UInt8) = [110]) = False) ∧ ((([97] : List UInt8) = [102]) = False) ∧ ((([97] : List UInt8) = [109]) = False) := ⟨eq_false (by decide), eq_false (by decide), eq_false (by decide), eq_false (by decide), eq_false (by decide), eq_false (by decide), eq_false (by decide), eq_false (by decide), eq_false (by decide), eq_false (by decide), eq_false (by decide), eq_false (by decide)⟩
      by_cases htn : x.tgts.length = 0
      case neg =>
        have htn' : ¬ (x.tgts.length : Int) = 0 := by omega
        have hE : encX x 13 p = ([], false) := by unfold encX; rw [if_neg (by omega), if_pos (by simpa using htn)]
        rw [hE]
        simp (disch := first | omega | assumption) only [C.ref2_encode_gos, vs, T.ts, and_true, true_and, List.getElem?_toArray, List.getElem?_cons_zero, List.getElem?_cons_succ, ↓reduceIte, Nat.reduceEqDiff, Option.bind_some, Option.map_some, Option.isSome_some, ne_eq, Bool.not_true, Bool.not_false, Bool.true_eq_false, Bool.false_eq_true, Bool.not_eq_true', Bool.not_eq_false', reduceCtorEq, Option.some.injEq, decide_eq_true_eq, decide_eq_false_iff_not, not_true_eq_false, not_false_eq_true, decide_true, decide_false, List.size_toArray, List.length_cons, List.length_nil, List.cons_append, List.nil_append, List.append_nil, List.map_cons, List.map_nil, Array.size_push, Int.toNat_natCast, List.toList_toArray, Nat.min_def, Nat.reduceLeDiff, Nat.reducePow, Int.reducePow, Int.reduceToNat, Int.tdiv_eq_ediv_of_nonneg, Int.tmod_eq_emod_of_nonneg, Int.fdiv_eq_ediv_of_nonneg, Nat.mul_one, Nat.reduceAdd, Nat.zero_add, Nat.add_zero, implies_true, false_implies, true_implies, L, fx, eq_false htn']
        first | exact ⟨E2, rfl⟩ | exact E2
      have htn' : (x.tgts.length : Int) = 0 := by omega
      have hE : encX x 13 p = (S ++ bigS (atU x.A) 1, okU x.A 1 && (decide (4 ≤ x.A) && decide (x.A ≤ 11))) := by
        unfold encX
        rw [if_neg (by omega), if_neg (by simp [htn])]
        unfold oneE
        simp only [Nat.reduceEqDiff, if_false, if_true, hhd, sgnS, unsS, putX, putS, tgtS, htn, decide_true, Bool.true_and, okB, ← okA, List.append_assoc]
      rw [hE]
      clear hE
      simp (disch := first | omega | assumption) only [C.ref2_encode_gos, vs, T.ts, and_true, true_and, List.getElem?_toArray, List.getElem?_cons_zero, List.getElem?_cons_succ, ↓reduceIte, Nat.reduceEqDiff, Option.bind_some, Option.map_some, Option.isSome_some, ne_eq, Bool.not_true, Bool.not_false, Bool.true_eq_false, Bool.false_eq_true, Bool.not_eq_true', Bool.not_eq_false', reduceCtorEq, Option.some.injEq, decide_eq_true_eq, decide_eq_false_iff_not, not_true_eq_false, not_false_eq_true, decide_true, decide_false, List.size_toArray, List.length_cons, List.length_nil, List.cons_append, List.nil_append, List.append_nil, List.map_cons, List.map_nil, Array.size_push, Int.toNat_natCast, List.toList_toArray, Nat.min_def, Nat.reduceLeDiff, Nat.reducePow, Int.reducePow, Int.reduceToNat, Int.tdiv_eq_ediv_of_nonneg, Int.tmod_eq_emod_of_nonneg, Int.fdiv_eq_ediv_of_nonneg, Nat.mul_one, Nat.reduceAdd, Nat.zero_add, Nat.add_zero, implies_true, false_implies, true_implies, L, fx, eq_true htn']
      refine eff_call_of ?_
      simp (disch := first | omega | assumption) only [C.ref2_encode_gos, vs, T.ts, and_true, true_and, List.getElem?_toArray, List.getElem?_cons_zero, List.getElem?_cons_succ, ↓reduceIte, Nat.reduceEqDiff, Option.bind_some, Option.map_some, Option.isSome_some, ne_eq, Bool.not_true, Bool.not_false, Bool.true_eq_false, Bool.false_eq_true, Bool.not_eq_true', Bool.not_eq_false', reduceCtorEq, Option.some.injEq, decide_eq_true_eq, decide_eq_false_iff_not, not_true_eq_false, not_false_eq_true, decide_true, decide_false, List.size_toArray, List.length_cons, List.length_nil, List.cons_append, List.nil_append, List.append_nil, List.map_cons, List.map_nil, Array.size_push, Int.toNat_natCast, List.toList_toArray, Nat.min_def, Nat.reduceLeDiff, Nat.reducePow, Int.reducePow, Int.reduceToNat, Int.tdiv_eq_ediv_of_nonneg, Int.tmod_eq_emod_of_nonneg, Int.fdiv_eq_ediv_of_nonneg, Nat.mul_one, Nat.reduceAdd, Nat.zero_add, Nat.add_zero, implies_true, false_implies, true_implies]
      have hU3 := rbytes_any x.A 1 false (by omega) h2
      refine hU3.mono ?_
      intro v3 h3 hp3
      have x3 := hp3.1
      have hv3 := hp3.2
      rw [inS_f] at hv3
      have E3 := E2.trans x3
      have q3 := Fr_blk x3 q2 id
      have fx := facts h3 q3
      have bl3 : (bigS (atU x.A) 1).length = 1 := bigS_len
      have hn0 : ([] : List UInt8).length = 0 ∧ ([0] : List UInt8).length = 1 := ⟨rfl, rfl⟩
      obtain ⟨hn0, hn1⟩ := hn0
      have l1 := hla S (bigS (atU x.A) 1)
      have hcs2 : ((4 ≤ x.A) = False ∧ okU x.A 1 = false) ∨ ((4 ≤ x.A) = True ∧ (x.A ≤ 11) = False ∧ okU x.A 1 = false) ∨ ((4 ≤ x.A) = True ∧ (x.A ≤ 11) = True ∧ okU x.A 1 = false) ∨ ((4 ≤ x.A) = False ∧ okU x.A 1 = true) ∨ ((4 ≤ x.A) = True ∧ (x.A ≤ 11) = False ∧ okU x.A 1 = true) ∨ ((4 ≤ x.A) = True ∧ (x.A ≤ 11) = True ∧ okU x.A 1 = true) := by
        by_cases g1 : 4 ≤ x.A <;> by_cases g2 : x.A ≤ 11 <;> cases g3 : okU x.A 1 <;> simp [g1, g2]
      rcases hcs2 with fc | fc | fc | fc | fc | fc
      all_goals
        simp (disch := first | omega | assumption) only [C.ref2_encode_gos, vs, T.ts, and_true, true_and, List.getElem?_toArray, List.getElem?_cons_zero, List.getElem?_cons_succ, ↓reduceIte, Nat.reduceEqDiff, Option.bind_some, Option.map_some, Option.isSome_some, ne_eq, Bool.not_true, Bool.not_false, Bool.true_eq_false, Bool.false_eq_true, Bool.not_eq_true', Bool.not_eq_false', reduceCtorEq, Option.some.injEq, decide_eq_true_eq, decide_eq_false_iff_not, not_true_eq_false, not_false_eq_true, decide_true, decide_false, List.size_toArray, List.length_cons, List.length_nil, List.cons_append, List.nil_append, List.append_nil, List.map_cons, List.map_nil, Array.size_push, Int.toNat_natCast, List.toList_toArray, Nat.min_def, Nat.reduceLeDiff, Nat.reducePow, Int.reducePow, Int.reduceToNat, Int.tdiv_eq_ediv_of_nonneg, Int.tmod_eq_emod_of_nonneg, Int.fdiv_eq_ediv_of_nonneg, Nat.mul_one, Nat.reduceAdd, Nat.zero_add, Nat.add_zero, implies_true, false_implies, true_implies, L, hv3, fx, fc, Bool.true_and, Bool.and_true, Bool.false_and, Bool.and_false]
        first | exact ⟨E3, rfl⟩ | exact E3
    · rw [show [letS 14] = ([109] : List UInt8) from rfl]
      have L : ((([109] : List UInt8) = [116]) = False) ∧ ((([109] : List UInt8) = [107]) = False) ∧ ((([109] : List UInt8) = [106]) = False) ∧ ((([109] : List UInt8) = [74]) = False) ∧ ((([109] : List UInt8) = [98]) = False) ∧ ((([109] : List UInt8) = [115]) = False) ∧ ((([109] : List UInt8) = [99]) = False) ∧ ((([109] : List UInt8) = [97]) = False) ∧ ((([109] : List UInt8) = [105]) = False) ∧ ((([109] : List UInt8) = [108]) = False) ∧ ((([109] : List UInt8) = [110]) = False) ∧ ((([109] : List UInt8) = [102]) = False) := ⟨eq_false (by decide), eq_false (by decide), eq_false (by decide), eq_false (by decide), eq_false (by decide), eq_false (by decide), eq_false (by decide), eq_false (by decide), eq_false (by decide), eq_false (by decide), eq_false (by decide), eq_false (by decide)⟩
      by_cases htn : x.tgts.length = 0
      case neg =>
        have htn' : ¬ (x.tgts.length : Int) = 0 := by omega
        have hE : encX x 14 p = ([], false) := by unfold encX; rw [if_neg (by omega), if_pos (by simpa using htn)]
        rw [hE]
        simp (disch := first | omega | assumption) only [C.ref2_encode_gos, vs, T.ts, and_true, true_and, List.getElem?_toArray, List.getElem?_cons_zero, List.getElem?_cons_succ, ↓reduceIte, Nat.reduceEqDiff, Option.bind_some, Option.map_some, Option.isSome_some, ne_eq, Bool.not_true, Bool.not_false, Bool.true_eq_false, Bool.false_eq_true, Bool.not_eq_true', Bool.not_eq_false', reduceCtorEq, Option.some.injEq, decide_eq_true_eq, decide_eq_false_iff_not, not_true_eq_false, not_false_eq_true, decide_true, decide_false, List.size_toArray, List.length_cons, List.length_nil, List.cons_append, List.nil_append, List.append_nil, List.map_cons, List.map_nil, Array.size_push, Int.toNat_natCast, List.toList_toArray, Nat.min_def, Nat.reduceLeDiff, Nat.reducePow, Int.reducePow, Int.reduceToNat, Int.tdiv_eq_ediv_of_nonneg, Int.tmod_eq_emod_of_nonneg, Int.fdiv_eq_ediv_of_nonneg, Nat.mul_one, Nat.reduceAdd, Nat.zero_add, Nat.add_zero, implies_true, false_implies, true_implies, L, fx, eq_false htn']
        first | exact ⟨E2, rfl⟩ | exact E2
      have htn' : (x.tgts.length : Int) = 0 := by omega
      have hE : encX x 14 p = (S ++ bigS (atU x.A) 2 ++ bigS (atU x.B) 1, okU x.A 2 && (okU x.B 1 && decide (0 < x.B))) := by
        unfold encX
        rw [if_neg (by omega), if_neg (by simp [htn])]
        unfold oneE
        simp only [Nat.reduceEqDiff, if_false, if_true, hhd, sgnS, unsS, putX, putS, tgtS, htn, decide_true, Bool.true_and, okB, ← okA, List.append_assoc]
      rw [hE]
      clear hE
      simp (disch := first | omega | assumption) only [C.ref2_encode_gos, vs, T.ts, and_true, true_and, List.getElem?_toArray, List.getElem?_cons_zero, List.getElem?_cons_succ, ↓reduceIte, Nat.reduceEqDiff, Option.bind_some, Option.map_some, Option.isSome_some, ne_eq, Bool.not_true, Bool.not_false, Bool.true_eq_false, Bool.false_eq_true, Bool.not_eq_true', Bool.not_eq_false', reduceCtorEq, Option.some.injEq, decide_eq_true_eq, decide_eq_false_iff_not, not_true_eq_false, not_false_eq_true, decide_true, decide_false, List.size_toArray, List.length_cons, List.length_nil, List.cons_append, List.nil_append, List.append_nil, List.map_cons, List.map_nil, Array.size_push, Int.toNat_natCast, List.toList_toArray, Nat.min_def, Nat.reduceLeDiff, Nat.reducePow, Int.reducePow, Int.reduceToNat, Int.tdiv_eq_ediv_of_nonneg, Int.tmod_eq_emod_of_nonneg, Int.fdiv_eq_ediv_of_nonneg, Nat.mul_one, Nat.reduceAdd, Nat.zero_add, Nat.add_zero, implies_true, false_implies, true_implies, L, fx, eq_true htn']
      refine eff_call_of ?_
      simp (disch := first | omega | assumption) only [C.ref2_encode_gos, vs, T.ts, and_true, true_and, List.getElem?_toArray, List.getElem?_cons_zero, List.getElem?_cons_succ, ↓reduceIte, Nat.reduceEqDiff, Option.bind_some, Option.map_some, Option.isSome_some, ne_eq, Bool.not_true, Bool.not_false, Bool.true_eq_false, Bool.false_eq_true, Bool.not_eq_true', Bool.not_eq_false', reduceCtorEq, Option.some.injEq, decide_eq_true_eq, decide_eq_false_iff_not, not_true_eq_false, not_false_eq_true, decide_true, decide_false, List.size_toArray, List.length_cons, List.length_nil, List.cons_append, List.nil_append, List.append_nil, List.map_cons, List.map_nil, Array.size_push, Int.toNat_natCast, List.toList_toArray, Nat.min_def, Nat.reduceLeDiff, Nat.reducePow, Int.reducePow, Int.reduceToNat, Int.tdiv_eq_ediv_of_nonneg, Int.tmod_eq_emod_of_nonneg, Int.fdiv_eq_ediv_of_nonneg, Nat.mul_one, Nat.reduceAdd, Nat.zero_add, Nat.add_zero, implies_true, false_implies, true_implies]
      have hU3 := rbytes_any x.A 2 false (by omega) h2
      refine hU3.mono ?_
      intro v3 h3 hp3
      have x3 := hp3.1
      have hv3 := hp3.2
      rw [inS_f] at hv3
      have E3 := E2.trans x3
      have q3 := Fr_blk x3 q2 id
      have fx := facts h3 q3
      have bl3 : (bigS (atU x.A) 2).length = 2 := bigS_len
      simp (disch := first | omega | assumption) only [C.ref2_encode_gos, vs, T.ts, and_true, true_and, List.getElem?_toArray, List.getElem?_cons_zero, List.getElem?_cons_succ, ↓reduceIte, Nat.reduceEqDiff, Option.bind_some, Option.map_some, Option.isSome_some, ne_eq, Bool.not_true, Bool.not_false, Bool.true_eq_false, Bool.false_eq_true, Bool.not_eq_true', Bool.not_eq_false', reduceCtorEq, Option.some.injEq, decide_eq_true_eq, decide_eq_false_iff_not, not_true_eq_false, not_false_eq_true, decide_true, decide_false, List.size_toArray, List.length_cons, List.length_nil, List.cons_append, List.nil_append, List.append_nil, List.map_cons, List.map_nil, Array.size_push, Int.toNat_natCast, List.toList_toArray, Nat.min_def, Nat.reduceLeDiff, Nat.reducePow, Int.reducePow, Int.reduceToNat, Int.tdiv_eq_ediv_of_nonneg, Int.tmod_eq_emod_of_nonneg, Int.fdiv_eq_ediv_of_nonneg, Nat.mul_one, Nat.reduceAdd, Nat.zero_add, Nat.add_zero, implies_true, false_implies, true_implies, L, hv3, fx]
      refine eff_call_of ?_
      simp (disch := first | omega | assumption) only [C.ref2_encode_gos, vs, T.ts, and_true, true_and, List.getElem?_toArray, List.getElem?_cons_zero, List.getElem?_cons_succ, ↓reduceIte, Nat.reduceEqDiff, Option.bind_some, Option.map_some, Option.isSome_some, ne_eq, Bool.not_true, Bool.not_false, Bool.true_eq_false, Bool.false_eq_true, Bool.not_eq_true', Bool.not_eq_false', reduceCtorEq, Option.some.injEq, decide_eq_true_eq, decide_eq_false_iff_not, not_true_eq_false, not_false_eq_true, decide_true, decide_false, List.size_toArray, List.length_cons, List.length_nil, List.cons_append, List.nil_append, List.append_nil, List.map_cons, List.map_nil, Array.size_push, Int.toNat_natCast, List.toList_toArray, Nat.min_def, Nat.reduceLeDiff, Nat.reducePow, Int.reducePow, Int.reduceToNat, Int.tdiv_eq_ediv_of_nonneg, Int.tmod_eq_emod_of_nonneg, Int.fdiv_eq_ediv_of_nonneg, Nat.mul_one, Nat.reduceAdd, Nat.zero_add, Nat.add_zero, implies_true, false_implies, true_implies]
      have hU4 := rbytes_any x.B 1 false (by omega) h3
      refine hU4.mono ?_
      intro v4 h4 hp4
      have x4 := hp4.1
      have hv4 := hp4.2
      rw [inS_f] at hv4
      have E4 := E3.trans x4
      have q4 := Fr_blk x4 q3 id
      have fx := facts h4 q4
      have bl4 : (bigS (atU x.B) 1).length = 1 := bigS_len
      have hn0 : ([] : List UInt8).length = 0 ∧ ([0] : List UInt8).length = 1 := ⟨rfl, rfl⟩
      obtain ⟨hn0, hn1⟩ := hn0
      have l1 := hla S (bigS (atU x.A) 2)
      have hcs2 : ((0 < x.B) = False ∧ okU x.B 1 = false ∧ okU x.A 2 = false) ∨ ((0 < x.B) = True ∧ okU x.B 1 = false ∧ okU x.A 2 = false) ∨ ((0 < x.B) = False ∧ okU x.B 1 = true ∧ okU x.A 2 = false) ∨ ((0 < x.B) = True ∧ okU x.B 1 = true ∧ okU x.A 2 = false) ∨ ((0 < x.B) = False ∧ okU x.B 1 = false ∧ okU x.A 2 = true) ∨ ((0 < x.B) = True ∧ okU x.B 1 = false ∧ okU x.A 2 = true) ∨ ((0 < x.B) = False ∧ okU x.B 1 = true ∧ okU x.A 2 = true) ∨ ((0 < x.B) = True ∧ okU x.B 1 = true ∧ okU x.A 2 = true) := by
        by_cases g1 : 0 < x.B <;> cases g2 : okU x.B 1 <;> cases g3 : okU x.A 2 <;> simp [g1]
      rcases hcs2 with fc | fc | fc | fc | fc | fc | fc | fc
      all_goals
        simp (disch := first | omega | assumption) only [C.ref2_encode_gos, vs, T.ts, and_true, true_and, List.getElem?_toArray, List.getElem?_cons_zero, List.getElem?_cons_succ, ↓reduceIte, Nat.reduceEqDiff, Option.bind_some, Option.map_some, Option.isSome_some, ne_eq, Bool.not_true, Bool.not_false, Bool.true_eq_false, Bool.false_eq_true, Bool.not_eq_true', Bool.not_eq_false', reduceCtorEq, Option.some.injEq, decide_eq_true_eq, decide_eq_false_iff_not, not_true_eq_false, not_false_eq_true, decide_true, decide_false, List.size_toArray, List.length_cons, List.length_nil, List.cons_append, List.nil_append, List.append_nil, List.map_cons, List.map_nil, Array.size_push, Int.toNat_natCast, List.toList_toArray, Nat.min_def, Nat.reduceLeDiff, Nat.reducePow, Int.reducePow, Int.reduceToNat, Int.tdiv_eq_ediv_of_nonneg, Int.tmod_eq_emod_of_nonneg, Int.fdiv_eq_ediv_of_nonneg, Nat.mul_one, Nat.reduceAdd, Nat.zero_add, Nat.add_zero, implies_true, false_implies, true_implies, L, hv4, fx, fc, Bool.true_and, Bool.and_true, Bool.false_and, Bool.and_false]
        first | exact ⟨E4, rfl⟩ | exact E4
end
end Go.Proofs.Ytjpcpkhegjndeaa
