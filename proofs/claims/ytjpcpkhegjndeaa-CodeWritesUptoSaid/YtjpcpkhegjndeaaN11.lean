/- The encoder of instructions, by the reference: all of them. -/
import Derived.Test.YtjpcpkhegjndeaaN10
namespace Go.Proofs.Ytjpcpkhegjndeaa
open Go.Vc
set_option maxRecDepth 100000
set_option linter.unusedSimpArgs false
set_option linter.unusedVariables false

def begV (n : Nat) (ats : List Int) : List Value := (List.range n).map fun j => .bool (ats.contains ((j : Nat) : Int))
theorem begV_len (n : Nat) (ats : List Int) : (begV n ats).length = n := by simp [begV]
theorem begV_zero (n : Nat) : madeCells #[.bool false] n = (begV n []).toArray := by
  apply Array.ext
  · simp [madeCells, begV]
  · intro i h1 h2
    simp [madeCells, begV, Nat.mod_one]
theorem begV_at {n j : Nat} (hj : j < n) (ats : List Int) : (begV n ats)[j]? = some (.bool (ats.contains ((j : Nat) : Int))) := by simp [begV, hj]
theorem begV_set {n : Nat} (ats : List Int) (a : Nat) : (begV n ats).toArray.setIfInBounds a (.bool true) = (begV n (ats ++ [(a : Int)])).toArray := by
  apply Array.ext
  · simp [begV]
  · intro i h1 h2
    simp only [Array.size_setIfInBounds, List.size_toArray, begV_len] at h1
    rw [Array.getElem_setIfInBounds (by simpa [begV_len] using h1)]
    simp only [List.getElem_toArray]
    by_cases he : a = i
    · subst he; simp [begV]
    · simp [begV, he]; omega
theorem letS_x : ∀ f, f < 16 → (([letS f] : List UInt8) = [120] ↔ f = 1) := by decide +kernel
theorem letS_w : ∀ f, f < 16 → (([letS f] : List UInt8) = [119] ↔ f = 15) := by decide +kernel
theorem letS_l : ∀ f, f < 16 → (([letS f] : List UInt8) = [108] ↔ f = 6) := by decide +kernel
theorem letS_n : ∀ f, f < 16 → (([letS f] : List UInt8) = [110] ↔ f = 7) := by decide +kernel
theorem tgt_in {ats : List Int} {n : Nat} (ha : ∀ a ∈ ats, 0 ≤ a ∧ a < (n : Int)) (t : Int) : ats.contains t = true → 0 ≤ t ∧ t < (n : Int) := by
  intro h
  exact ha t (by simpa using h)

set_option maxHeartbeats 4000000 in
theorem rencodeAll_any (l : List In) (v : Value) (h : Heap) (hl : InsC h v l) (hlf : ∀ x ∈ l, x.Fit) (hll : l.length ≤ 1073741824) (hLl : ∀ x ∈ l, x.keys.length ≤ 1073741824 ∧ x.tgts.length ≤ 1073741824) :
    HCalls Try.prog 9 #[v] h fun r h' => Ext h h' ∧ r = erV (encR l l 0 []) := by
  refine C.ref2_Encode_calls (args := [v]) rfl ?_
  have hl2 := hl
  obtain ⟨rows, hr1, hr2, hr3⟩ := hl2
  obtain ⟨_, a, c, rfl, _⟩ := hr2
  generalize hX : encR l l 0 [] = X
  by_cases hz : l.length = 0
  · have hz' : (l.length : Int) = 0 := by omega
    have : l = [] := List.eq_nil_of_length_eq_zero hz
    have hX2 : X = ([], 12, 0) := by rw [← hX, this]; rfl
    subst hX2
    simp (disch := first | omega | assumption) only [C.ref2_Encode_gos, vs, T.ts, and_true, true_and, List.getElem?_toArray, List.getElem?_cons_zero, List.getElem?_cons_succ, ↓reduceIte, Nat.reduceEqDiff, Option.bind_some, Option.map_some, Option.isSome_some, ne_eq, Bool.not_true, Bool.not_false, Bool.true_eq_false, Bool.false_eq_true, Bool.not_eq_true', Bool.not_eq_false', reduceCtorEq, Option.some.injEq, decide_eq_true_eq, decide_eq_false_iff_not, not_true_eq_false, not_false_eq_true, decide_true, decide_false, List.size_toArray, List.length_cons, List.length_nil, List.cons_append, List.nil_append, List.append_nil, List.map_cons, List.map_nil, Array.size_push, Int.toNat_natCast, List.toList_toArray, Nat.min_def, Nat.reduceLeDiff, Nat.reducePow, Int.reducePow, Int.reduceToNat, Int.tdiv_eq_ediv_of_nonneg, Int.tmod_eq_emod_of_nonneg, Int.fdiv_eq_ediv_of_nonneg, Nat.mul_one, Nat.reduceAdd, Nat.zero_add, Nat.add_zero, implies_true, false_implies, true_implies, eq_true hz']
    exact ⟨Ext.refl _, rfl⟩
  have hz' : ¬ (l.length : Int) = 0 := by omega
  simp (disch := first | omega | assumption) only [C.ref2_Encode_gos, vs, T.ts, and_true, true_and, List.getElem?_toArray, List.getElem?_cons_zero, List.getElem?_cons_succ, ↓reduceIte, Nat.reduceEqDiff, Option.bind_some, Option.map_some, Option.isSome_some, ne_eq, Bool.not_true, Bool.not_false, Bool.true_eq_false, Bool.false_eq_true, Bool.not_eq_true', Bool.not_eq_false', reduceCtorEq, Option.some.injEq, decide_eq_true_eq, decide_eq_false_iff_not, not_true_eq_false, not_false_eq_true, decide_true, decide_false, List.size_toArray, List.length_cons, List.length_nil, List.cons_append, List.nil_append, List.append_nil, List.map_cons, List.map_nil, Array.size_push, Int.toNat_natCast, List.toList_toArray, Nat.min_def, Nat.reduceLeDiff, Nat.reducePow, Int.reducePow, Int.reduceToNat, Int.tdiv_eq_ediv_of_nonneg, Int.tmod_eq_emod_of_nonneg, Int.fdiv_eq_ediv_of_nonneg, Nat.mul_one, Nat.reduceAdd, Nat.zero_add, Nat.add_zero, implies_true, false_implies, true_implies, eq_false hz']
  refine loop_intro [0, 5, 21, 22, 23] (fun m ρ hc => ∃ (i : Nat) (b : List UInt8) (vb : Value), m = l.length - i ∧ i ≤ l.length ∧
      ρ = [(0, .slice a l.length c), (5, vb), (21, .slice a l.length c), (22, .int .i64 l.length), (23, .int .i64 i)] ∧
      Ext h hc ∧ Own hc h.size 5 1 vb b.length (bytesV b) ∧ (∀ x ∈ l.take i, 0 ≤ x.at' ∧ x.at' < (b.length : Int)) ∧ b.length ≤ 65535 ∧ encR l (l.drop i) i b = X) ?_ ?_
  · simp (disch := first | omega | assumption) only [C.ref2_Encode_gos, vs, T.ts, and_true, true_and, List.getElem?_toArray, List.getElem?_cons_zero, List.getElem?_cons_succ, ↓reduceIte, Nat.reduceEqDiff, Option.bind_some, Option.map_some, Option.isSome_some, ne_eq, Bool.not_true, Bool.not_false, Bool.true_eq_false, Bool.false_eq_true, Bool.not_eq_true', Bool.not_eq_false', reduceCtorEq, Option.some.injEq, decide_eq_true_eq, decide_eq_false_iff_not, not_true_eq_false, not_false_eq_true, decide_true, decide_false, List.size_toArray, List.length_cons, List.length_nil, List.cons_append, List.nil_append, List.append_nil, List.map_cons, List.map_nil, Array.size_push, Int.toNat_natCast, List.toList_toArray, Nat.min_def, Nat.reduceLeDiff, Nat.reducePow, Int.reducePow, Int.reduceToNat, Int.tdiv_eq_ediv_of_nonneg, Int.tmod_eq_emod_of_nonneg, Int.fdiv_eq_ediv_of_nonneg, Nat.mul_one, Nat.reduceAdd, Nat.zero_add, Nat.add_zero, implies_true, false_implies, true_implies]
    exact ⟨_, 0, [], _, rfl, Nat.zero_le _, rfl, Ext.refl _, Own.nil, by simp, by simp, hX⟩
  rintro m ρ hc ⟨i, b, vb, rfl, hi, rfl, HX, own, hats, hb, hR⟩
  obtain ⟨ab, cb, rfl, _⟩ := own.slN.2
  rcases Nat.lt_or_ge i l.length with hlt | hge
  case inr =>
    have hlt' : ¬ (i : Int) < l.length := by omega
    have hd : l.drop i = [] := by rw [List.drop_eq_nil_iff]; omega
    rw [hd, encR] at hR
    have htk : l.take i = l := List.take_of_length_le hge
    rw [htk] at hats
    unfold endR at hR
    rw [if_neg hz] at hR
    simp (disch := first | omega | assumption) only [C.ref2_Encode_gos, vs, T.ts, and_true, true_and, List.getElem?_toArray, List.getElem?_cons_zero, List.getElem?_cons_succ, ↓reduceIte, Nat.reduceEqDiff, Option.bind_some, Option.map_some, Option.isSome_some, ne_eq, Bool.not_true, Bool.not_false, Bool.true_eq_false, Bool.false_eq_true, Bool.not_eq_true', Bool.not_eq_false', reduceCtorEq, Option.some.injEq, decide_eq_true_eq, decide_eq_false_iff_not, not_true_eq_false, not_false_eq_true, decide_true, decide_false, List.size_toArray, List.length_cons, List.length_nil, List.cons_append, List.nil_append, List.append_nil, List.map_cons, List.map_nil, Array.size_push, Int.toNat_natCast, List.toList_toArray, Nat.min_def, Nat.reduceLeDiff, Nat.reducePow, Int.reducePow, Int.reduceToNat, Int.tdiv_eq_ediv_of_nonneg, Int.tmod_eq_emod_of_nonneg, Int.fdiv_eq_ediv_of_nonneg, Nat.mul_one, Nat.reduceAdd, Nat.zero_add, Nat.add_zero, implies_true, false_implies, true_implies, hlt']
    refine eff_make T.slT_47 rfl rfl (by omega) (by omega) (by omega) ?_
    intro cs z ii hii hzz hcs
    have hz1 : z.cells = #[.bool false] := by
      obtain ⟨ii', z', w1, w2, w3, _⟩ := zr_spec T.zr_4
      rw [hii] at w1; cases w1
      rw [hzz] at w2; cases w2
      exact w3
    rw [hz1, show ((b.length : Nat) : Int).toNat * 1 = b.length by omega, begV_zero] at hcs
    subst hcs
    have own1 := own.push (.cells (begV b.length []).toArray 4)
    have blk1 : (hc.push (.cells (begV b.length []).toArray 4))[hc.size]? = some (.cells (begV b.length []).toArray 4 (0, 0)) := by simp
    have X1 := HX.trans (Ext.push hc (.cells (begV b.length []).toArray 4))
    have hgh : h.size ≤ hc.size := HX.size
    generalize hc.push (.cells (begV b.length []).toArray 4) = h1 at *
    generalize hc.size = gb at *
    simp (disch := first | omega | assumption) only [C.ref2_Encode_gos, vs, T.ts, and_true, true_and, List.getElem?_toArray, List.getElem?_cons_zero, List.getElem?_cons_succ, ↓reduceIte, Nat.reduceEqDiff, Option.bind_some, Option.map_some, Option.isSome_some, ne_eq, Bool.not_true, Bool.not_false, Bool.true_eq_false, Bool.false_eq_true, Bool.not_eq_true', Bool.not_eq_false', reduceCtorEq, Option.some.injEq, decide_eq_true_eq, decide_eq_false_iff_not, not_true_eq_false, not_false_eq_true, decide_true, decide_false, List.size_toArray, List.length_cons, List.length_nil, List.cons_append, List.nil_append, List.append_nil, List.map_cons, List.map_nil, Array.size_push, Int.toNat_natCast, List.toList_toArray, Nat.min_def, Nat.reduceLeDiff, Nat.reducePow, Int.reducePow, Int.reduceToNat, Int.tdiv_eq_ediv_of_nonneg, Int.tmod_eq_emod_of_nonneg, Int.fdiv_eq_ediv_of_nonneg, Nat.mul_one, Nat.reduceAdd, Nat.zero_add, Nat.add_zero, implies_true, false_implies, true_implies]
    refine loop_intro [0, 5, 11, 77, 78, 79] (fun m ρ hc => ∃ (i : Nat), m = l.length - i ∧ i ≤ l.length ∧
      ρ = [(0, .slice a l.length c), (5, .slice ab b.length cb), (11, .slice (some ⟨gb, 0, none⟩) b.length b.length), (77, .slice a l.length c), (78, .int .i64 l.length), (79, .int .i64 i)] ∧
      Ext h hc ∧ Own hc h.size 5 1 (.slice ab b.length cb) b.length (bytesV b) ∧ hc[gb]? = some (.cells (begV b.length ((l.take i).map In.at')).toArray 4 (0, 0))) ?_ ?_
    · simp (disch := first | omega | assumption) only [C.ref2_Encode_gos, vs, T.ts, and_true, true_and, List.getElem?_toArray, List.getElem?_cons_zero, List.getElem?_cons_succ, ↓reduceIte, Nat.reduceEqDiff, Option.bind_some, Option.map_some, Option.isSome_some, ne_eq, Bool.not_true, Bool.not_false, Bool.true_eq_false, Bool.false_eq_true, Bool.not_eq_true', Bool.not_eq_false', reduceCtorEq, Option.some.injEq, decide_eq_true_eq, decide_eq_false_iff_not, not_true_eq_false, not_false_eq_true, decide_true, decide_false, List.size_toArray, List.length_cons, List.length_nil, List.cons_append, List.nil_append, List.append_nil, List.map_cons, List.map_nil, Array.size_push, Int.toNat_natCast, List.toList_toArray, Nat.min_def, Nat.reduceLeDiff, Nat.reducePow, Int.reducePow, Int.reduceToNat, Int.tdiv_eq_ediv_of_nonneg, Int.tmod_eq_emod_of_nonneg, Int.fdiv_eq_ediv_of_nonneg, Nat.mul_one, Nat.reduceAdd, Nat.zero_add, Nat.add_zero, implies_true, false_implies, true_implies]
      exact ⟨_, 0, rfl, Nat.zero_le _, rfl, X1, own1, blk1⟩
    clear own1 blk1 X1 own HX
    rintro m ρ hc ⟨i, rfl, hi, rfl, HX, own, blk⟩
    rcases Nat.lt_or_ge i l.length with hlt | hge
    case inr =>
      have hlt' : ¬ (i : Int) < l.length := by omega
      rw [List.take_of_length_le hge] at blk
      simp (disch := first | omega | assumption) only [C.ref2_Encode_gos, vs, T.ts, and_true, true_and, List.getElem?_toArray, List.getElem?_cons_zero, List.getElem?_cons_succ, ↓reduceIte, Nat.reduceEqDiff, Option.bind_some, Option.map_some, Option.isSome_some, ne_eq, Bool.not_true, Bool.not_false, Bool.true_eq_false, Bool.false_eq_true, Bool.not_eq_true', Bool.not_eq_false', reduceCtorEq, Option.some.injEq, decide_eq_true_eq, decide_eq_false_iff_not, not_true_eq_false, not_false_eq_true, decide_true, decide_false, List.size_toArray, List.length_cons, List.length_nil, List.cons_append, List.nil_append, List.append_nil, List.map_cons, List.map_nil, Array.size_push, Int.toNat_natCast, List.toList_toArray, Nat.min_def, Nat.reduceLeDiff, Nat.reducePow, Int.reducePow, Int.reduceToNat, Int.tdiv_eq_ediv_of_nonneg, Int.tmod_eq_emod_of_nonneg, Int.fdiv_eq_ediv_of_nonneg, Nat.mul_one, Nat.reduceAdd, Nat.zero_add, Nat.add_zero, implies_true, false_implies, true_implies, hlt']
      refine loop_intro [0, 5, 11, 88, 89, 90] (fun m ρ hc => ∃ (i : Nat), m = l.length - i ∧ i ≤ l.length ∧
        ρ = [(0, .slice a l.length c), (5, .slice ab b.length cb), (11, .slice (some ⟨gb, 0, none⟩) b.length b.length), (88, .slice a l.length c), (89, .int .i64 l.length), (90, .int .i64 i)] ∧
        Ext h hc ∧ Own hc h.size 5 1 (.slice ab b.length cb) b.length (bytesV b) ∧ hc[gb]? = some (.cells (begV b.length (l.map In.at')).toArray 4 (0, 0)) ∧ (match tgtR (l.map In.at') (l.drop i) i with
        | some k => ([], 16, k)
        | none => (b, 0, 0)) = X) ?_ ?_
      · simp (disch := first | omega | assumption) only [C.ref2_Encode_gos, vs, T.ts, and_true, true_and, List.getElem?_toArray, List.getElem?_cons_zero, List.getElem?_cons_succ, ↓reduceIte, Nat.reduceEqDiff, Option.bind_some, Option.map_some, Option.isSome_some, ne_eq, Bool.not_true, Bool.not_false, Bool.true_eq_false, Bool.false_eq_true, Bool.not_eq_true', Bool.not_eq_false', reduceCtorEq, Option.some.injEq, decide_eq_true_eq, decide_eq_false_iff_not, not_true_eq_false, not_false_eq_true, decide_true, decide_false, List.size_toArray, List.length_cons, List.length_nil, List.cons_append, List.nil_append, List.append_nil, List.map_cons, List.map_nil, Array.size_push, Int.toNat_natCast, List.toList_toArray, Nat.min_def, Nat.reduceLeDiff, Nat.reducePow, Int.reducePow, Int.reduceToNat, Int.tdiv_eq_ediv_of_nonneg, Int.tmod_eq_emod_of_nonneg, Int.fdiv_eq_ediv_of_nonneg, Nat.mul_one, Nat.reduceAdd, Nat.zero_add, Nat.add_zero, implies_true, false_implies, true_implies]
        exact ⟨_, 0, rfl, Nat.zero_le _, rfl, HX, own, blk, hR⟩
      clear own blk HX hR
      rintro m ρ hc ⟨i, rfl, hi, rfl, HX, own, blk, hR⟩
      rcases Nat.lt_or_ge i l.length with hlt | hge
      case inr =>
        have hlt' : ¬ (i : Int) < l.length := by omega
        have hd : l.drop i = [] := by rw [List.drop_eq_nil_iff]; omega
        rw [hd, tgtR] at hR
        have hX2 : X = (b, 0, 0) := hR.symm
        subst hX2
        simp (disch := first | omega | assumption) only [C.ref2_Encode_gos, vs, T.ts, and_true, true_and, List.getElem?_toArray, List.getElem?_cons_zero, List.getElem?_cons_succ, ↓reduceIte, Nat.reduceEqDiff, Option.bind_some, Option.map_some, Option.isSome_some, ne_eq, Bool.not_true, Bool.not_false, Bool.true_eq_false, Bool.false_eq_true, Bool.not_eq_true', Bool.not_eq_false', reduceCtorEq, Option.some.injEq, decide_eq_true_eq, decide_eq_false_iff_not, not_true_eq_false, not_false_eq_true, decide_true, decide_false, List.size_toArray, List.length_cons, List.length_nil, List.cons_append, List.nil_append, List.append_nil, List.map_cons, List.map_nil, Array.size_push, Int.toNat_natCast, List.toList_toArray, Nat.min_def, Nat.reduceLeDiff, Nat.reducePow, Int.reducePow, Int.reduceToNat, Int.tdiv_eq_ediv_of_nonneg, Int.tmod_eq_emod_of_nonneg, Int.fdiv_eq_ediv_of_nonneg, Nat.mul_one, Nat.reduceAdd, Nat.zero_add, Nat.add_zero, implies_true, false_implies, true_implies, hlt', T.cvo_37_9 own]
        exact ⟨HX, rfl⟩
      have hlt' : (i : Int) < l.length := by omega
      rw [drop_getD (d := in0) hlt, tgtR] at hR
      obtain ⟨rb, ro, rc, vk, vt, heq, hrd0, sk, ck, st, ct⟩ := hl.at hlt
      cases heq
      have hll2 := hLl (l.getD i in0) (getD_mem hlt)
      generalize l.getD i in0 = x at *
      have hrd : Rd hc rb (ro + i * 8) (InV x vk vt) := HX.rd hrd0 (hrd0.lt (by simp [InV])) id
      have sk' := sk
      have st' := st
      obtain ⟨_, ak, kk, rfl, _⟩ := sk'
      obtain ⟨_, at7, kt, rfl, _⟩ := st'
      have hld := ld_agg T.ag_35 hrd rfl
      simp only [InV] at hld
      simp (disch := first | omega | assumption) only [C.ref2_Encode_gos, vs, T.ts, and_true, true_and, List.getElem?_toArray, List.getElem?_cons_zero, List.getElem?_cons_succ, ↓reduceIte, Nat.reduceEqDiff, Option.bind_some, Option.map_some, Option.isSome_some, ne_eq, Bool.not_true, Bool.not_false, Bool.true_eq_false, Bool.false_eq_true, Bool.not_eq_true', Bool.not_eq_false', reduceCtorEq, Option.some.injEq, decide_eq_true_eq, decide_eq_false_iff_not, not_true_eq_false, not_false_eq_true, decide_true, decide_false, List.size_toArray, List.length_cons, List.length_nil, List.cons_append, List.nil_append, List.append_nil, List.map_cons, List.map_nil, Array.size_push, Int.toNat_natCast, List.toList_toArray, Nat.min_def, Nat.reduceLeDiff, Nat.reducePow, Int.reducePow, Int.reduceToNat, Int.tdiv_eq_ediv_of_nonneg, Int.tmod_eq_emod_of_nonneg, Int.fdiv_eq_ediv_of_nonneg, Nat.mul_one, Nat.reduceAdd, Nat.zero_add, Nat.add_zero, implies_true, false_implies, true_implies, hlt', hld]
      refine eff_alloc_z T.zr_35 ?_
      simp (disch := first | omega | assumption) only [C.ref2_Encode_gos, vs, T.ts, and_true, true_and, List.getElem?_toArray, List.getElem?_cons_zero, List.getElem?_cons_succ, ↓reduceIte, Nat.reduceEqDiff, Option.bind_some, Option.map_some, Option.isSome_some, ne_eq, Bool.not_true, Bool.not_false, Bool.true_eq_false, Bool.false_eq_true, Bool.not_eq_true', Bool.not_eq_false', reduceCtorEq, Option.some.injEq, decide_eq_true_eq, decide_eq_false_iff_not, not_true_eq_false, not_false_eq_true, decide_true, decide_false, List.size_toArray, List.length_cons, List.length_nil, List.cons_append, List.nil_append, List.append_nil, List.map_cons, List.map_nil, Array.size_push, Int.toNat_natCast, List.toList_toArray, Nat.min_def, Nat.reduceLeDiff, Nat.reducePow, Int.reducePow, Int.reduceToNat, Int.tdiv_eq_ediv_of_nonneg, Int.tmod_eq_emod_of_nonneg, Int.fdiv_eq_ediv_of_nonneg, Nat.mul_one, Nat.reduceAdd, Nat.zero_add, Nat.add_zero, implies_true, false_implies, true_implies]
      refine eff_store_new_z T.zr_35 rfl rfl rfl (by simp [Value.cells, oneCell]) rfl ?_
      intro h3 x3 hlt3 hrd3 b3
      have c7 : cellAt h3 ⟨hc.size, 7, none⟩ = some (.slice at7 x.tgts.length kt) := hrd3 7 _ rfl
      have HX3 := HX.trans x3
      have own3 := own.ext x3
      have blk3 := Fr_blk x3 blk id
      clear hld hrd hrd3 b3
      generalize hc.size = q at *
      simp (disch := first | omega | assumption) only [C.ref2_Encode_gos, vs, T.ts, and_true, true_and, List.getElem?_toArray, List.getElem?_cons_zero, List.getElem?_cons_succ, ↓reduceIte, Nat.reduceEqDiff, Option.bind_some, Option.map_some, Option.isSome_some, ne_eq, Bool.not_true, Bool.not_false, Bool.true_eq_false, Bool.false_eq_true, Bool.not_eq_true', Bool.not_eq_false', reduceCtorEq, Option.some.injEq, decide_eq_true_eq, decide_eq_false_iff_not, not_true_eq_false, not_false_eq_true, decide_true, decide_false, List.size_toArray, List.length_cons, List.length_nil, List.cons_append, List.nil_append, List.append_nil, List.map_cons, List.map_nil, Array.size_push, Int.toNat_natCast, List.toList_toArray, Nat.min_def, Nat.reduceLeDiff, Nat.reducePow, Int.reducePow, Int.reduceToNat, Int.tdiv_eq_ediv_of_nonneg, Int.tmod_eq_emod_of_nonneg, Int.fdiv_eq_ediv_of_nonneg, Nat.mul_one, Nat.reduceAdd, Nat.zero_add, Nat.add_zero, implies_true, false_implies, true_implies, c7]
      refine loop_intro [0, 5, 11, 14, 88, 89, 90, 96, 97, 98] (fun m ρ hc => ∃ (j : Nat), m = x.tgts.length - j ∧ j ≤ x.tgts.length ∧
        ρ = [(0, .slice (some ⟨rb, ro, none⟩) l.length c), (5, .slice ab b.length cb), (11, .slice (some ⟨gb, 0, none⟩) b.length b.length), (14, .int .i64 i), (88, .slice (some ⟨rb, ro, none⟩) l.length c), (89, .int .i64 l.length), (90, .int .i64 i), (96, .slice at7 x.tgts.length kt), (97, .int .i64 x.tgts.length), (98, .int .i64 j)] ∧
        hc = h3 ∧ (x.tgts.take j).all (fun t => (l.map In.at').contains t) = true) ?_ ?_
      · simp (disch := first | omega | assumption) only [C.ref2_Encode_gos, vs, T.ts, and_true, true_and, List.getElem?_toArray, List.getElem?_cons_zero, List.getElem?_cons_succ, ↓reduceIte, Nat.reduceEqDiff, Option.bind_some, Option.map_some, Option.isSome_some, ne_eq, Bool.not_true, Bool.not_false, Bool.true_eq_false, Bool.false_eq_true, Bool.not_eq_true', Bool.not_eq_false', reduceCtorEq, Option.some.injEq, decide_eq_true_eq, decide_eq_false_iff_not, not_true_eq_false, not_false_eq_true, decide_true, decide_false, List.size_toArray, List.length_cons, List.length_nil, List.cons_append, List.nil_append, List.append_nil, List.map_cons, List.map_nil, Array.size_push, Int.toNat_natCast, List.toList_toArray, Nat.min_def, Nat.reduceLeDiff, Nat.reducePow, Int.reducePow, Int.reduceToNat, Int.tdiv_eq_ediv_of_nonneg, Int.tmod_eq_emod_of_nonneg, Int.fdiv_eq_ediv_of_nonneg, Nat.mul_one, Nat.reduceAdd, Nat.zero_add, Nat.add_zero, implies_true, false_implies, true_implies]
        exact ⟨_, 0, rfl, Nat.zero_le _, rfl, by simp⟩
      rintro m ρ hc2 ⟨j, rfl, hj, rfl, rfl, hA⟩
      rcases Nat.lt_or_ge j x.tgts.length with hjl | hjg
      case inr =>
        have hlt2 : ¬ (j : Int) < x.tgts.length := by omega
        rw [List.take_of_length_le hjg] at hA
        rw [if_pos hA] at hR
        simp (disch := first | omega | assumption) only [C.ref2_Encode_gos, vs, T.ts, and_true, true_and, List.getElem?_toArray, List.getElem?_cons_zero, List.getElem?_cons_succ, ↓reduceIte, Nat.reduceEqDiff, Option.bind_some, Option.map_some, Option.isSome_some, ne_eq, Bool.not_true, Bool.not_false, Bool.true_eq_false, Bool.false_eq_true, Bool.not_eq_true', Bool.not_eq_false', reduceCtorEq, Option.some.injEq, decide_eq_true_eq, decide_eq_false_iff_not, not_true_eq_false, not_false_eq_true, decide_true, decide_false, List.size_toArray, List.length_cons, List.length_nil, List.cons_append, List.nil_append, List.append_nil, List.map_cons, List.map_nil, Array.size_push, Int.toNat_natCast, List.toList_toArray, Nat.min_def, Nat.reduceLeDiff, Nat.reducePow, Int.reducePow, Int.reduceToNat, Int.tdiv_eq_ediv_of_nonneg, Int.tmod_eq_emod_of_nonneg, Int.fdiv_eq_ediv_of_nonneg, Nat.mul_one, Nat.reduceAdd, Nat.zero_add, Nat.add_zero, implies_true, false_implies, true_implies, hlt2]
        exact ⟨_, by omega, i + 1, rfl, by omega, by simp, HX3, own3, blk3, hR⟩
      have hlt2 : (j : Int) < x.tgts.length := by omega
      obtain ⟨tb, to, tc, heqt, hcs, _⟩ := (st.ext (by decide) HX3).at hjl
      cases heqt
      have t0 : cellAt hc2 ⟨tb, to + j, none⟩ = some (.int .i64 (x.tgts.getD j 0)) := by
        have := hcs 0 (.int .i64 (x.tgts.getD j 0)) (by simp [intsV, hjl])
        simpa using this
      have htk := take_getD (d := 0) hjl
      have hnall : ¬ (l.map In.at').contains (x.tgts.getD j 0) = true → X = ([], 16, i) := by
        intro hin
        have : ¬ x.tgts.all (fun t => (l.map In.at').contains t) = true := by
          intro hall
          rw [List.all_eq_true] at hall
          exact hin (hall _ (getD_mem hjl))
        rw [if_neg this] at hR
        exact hR.symm
      have hcin := tgt_in (ats := l.map In.at') (n := b.length) (by
        intro a ha
        obtain ⟨y, hy, rfl⟩ := List.mem_map.1 ha
        exact hats y hy) (x.tgts.getD j 0)
      generalize x.tgts.getD j 0 = t at *
      by_cases g1 : t < 0
      · have hX2 := hnall (fun hh => by have := hcin hh; omega)
        subst hX2
        simp (disch := first | omega | assumption) only [C.ref2_Encode_gos, vs, T.ts, and_true, true_and, List.getElem?_toArray, List.getElem?_cons_zero, List.getElem?_cons_succ, ↓reduceIte, Nat.reduceEqDiff, Option.bind_some, Option.map_some, Option.isSome_some, ne_eq, Bool.not_true, Bool.not_false, Bool.true_eq_false, Bool.false_eq_true, Bool.not_eq_true', Bool.not_eq_false', reduceCtorEq, Option.some.injEq, decide_eq_true_eq, decide_eq_false_iff_not, not_true_eq_false, not_false_eq_true, decide_true, decide_false, List.size_toArray, List.length_cons, List.length_nil, List.cons_append, List.nil_append, List.append_nil, List.map_cons, List.map_nil, Array.size_push, Int.toNat_natCast, List.toList_toArray, Nat.min_def, Nat.reduceLeDiff, Nat.reducePow, Int.reducePow, Int.reduceToNat, Int.tdiv_eq_ediv_of_nonneg, Int.tmod_eq_emod_of_nonneg, Int.fdiv_eq_ediv_of_nonneg, Nat.mul_one, Nat.reduceAdd, Nat.zero_add, Nat.add_zero, implies_true, false_implies, true_implies, hlt2, t0, g1]
        exact ⟨HX3, rfl⟩
      by_cases g2 : (b.length : Int) ≤ t
      · have hX2 := hnall (fun hh => by have := hcin hh; omega)
        subst hX2
        simp (disch := first | omega | assumption) only [C.ref2_Encode_gos, vs, T.ts, and_true, true_and, List.getElem?_toArray, List.getElem?_cons_zero, List.getElem?_cons_succ, ↓reduceIte, Nat.reduceEqDiff, Option.bind_some, Option.map_some, Option.isSome_some, ne_eq, Bool.not_true, Bool.not_false, Bool.true_eq_false, Bool.false_eq_true, Bool.not_eq_true', Bool.not_eq_false', reduceCtorEq, Option.some.injEq, decide_eq_true_eq, decide_eq_false_iff_not, not_true_eq_false, not_false_eq_true, decide_true, decide_false, List.size_toArray, List.length_cons, List.length_nil, List.cons_append, List.nil_append, List.append_nil, List.map_cons, List.map_nil, Array.size_push, Int.toNat_natCast, List.toList_toArray, Nat.min_def, Nat.reduceLeDiff, Nat.reducePow, Int.reducePow, Int.reduceToNat, Int.tdiv_eq_ediv_of_nonneg, Int.tmod_eq_emod_of_nonneg, Int.fdiv_eq_ediv_of_nonneg, Nat.mul_one, Nat.reduceAdd, Nat.zero_add, Nat.add_zero, implies_true, false_implies, true_implies, hlt2, t0, g1, g2]
        exact ⟨HX3, rfl⟩
      obtain ⟨tn, rfl⟩ : ∃ tn : Nat, t = (tn : Int) := ⟨t.toNat, by omega⟩
      have hbc : cellAt hc2 ⟨gb, tn, none⟩ = some (.bool ((l.map In.at').contains ((tn : Nat) : Int))) := by
        rw [cellAt_of blk3, List.getElem?_toArray]
        exact begV_at (by omega) _
      have g3 : (tn : Int) < (b.length : Int) := by omega
      cases hin : (l.map In.at').contains ((tn : Nat) : Int)
      · have hX2 := hnall (by rw [hin]; simp)
        subst hX2
        rw [hin] at hbc
        simp (disch := first | omega | assumption) only [C.ref2_Encode_gos, vs, T.ts, and_true, true_and, List.getElem?_toArray, List.getElem?_cons_zero, List.getElem?_cons_succ, ↓reduceIte, Nat.reduceEqDiff, Option.bind_some, Option.map_some, Option.isSome_some, ne_eq, Bool.not_true, Bool.not_false, Bool.true_eq_false, Bool.false_eq_true, Bool.not_eq_true', Bool.not_eq_false', reduceCtorEq, Option.some.injEq, decide_eq_true_eq, decide_eq_false_iff_not, not_true_eq_false, not_false_eq_true, decide_true, decide_false, List.size_toArray, List.length_cons, List.length_nil, List.cons_append, List.nil_append, List.append_nil, List.map_cons, List.map_nil, Array.size_push, Int.toNat_natCast, List.toList_toArray, Nat.min_def, Nat.reduceLeDiff, Nat.reducePow, Int.reducePow, Int.reduceToNat, Int.tdiv_eq_ediv_of_nonneg, Int.tmod_eq_emod_of_nonneg, Int.fdiv_eq_ediv_of_nonneg, Nat.mul_one, Nat.reduceAdd, Nat.zero_add, Nat.add_zero, implies_true, false_implies, true_implies, hlt2, t0, g1, g2, g3, hbc]
        exact ⟨HX3, rfl⟩
      · rw [hin] at hbc
        simp (disch := first | omega | assumption) only [C.ref2_Encode_gos, vs, T.ts, and_true, true_and, List.getElem?_toArray, List.getElem?_cons_zero, List.getElem?_cons_succ, ↓reduceIte, Nat.reduceEqDiff, Option.bind_some, Option.map_some, Option.isSome_some, ne_eq, Bool.not_true, Bool.not_false, Bool.true_eq_false, Bool.false_eq_true, Bool.not_eq_true', Bool.not_eq_false', reduceCtorEq, Option.some.injEq, decide_eq_true_eq, decide_eq_false_iff_not, not_true_eq_false, not_false_eq_true, decide_true, decide_false, List.size_toArray, List.length_cons, List.length_nil, List.cons_append, List.nil_append, List.append_nil, List.map_cons, List.map_nil, Array.size_push, Int.toNat_natCast, List.toList_toArray, Nat.min_def, Nat.reduceLeDiff, Nat.reducePow, Int.reducePow, Int.reduceToNat, Int.tdiv_eq_ediv_of_nonneg, Int.tmod_eq_emod_of_nonneg, Int.fdiv_eq_ediv_of_nonneg, Nat.mul_one, Nat.reduceAdd, Nat.zero_add, Nat.add_zero, implies_true, false_implies, true_implies, hlt2, t0, g1, g2, g3, hbc]
        exact ⟨_, by omega, j + 1, rfl, by omega, by simp, by rw [htk, List.all_append, hA]; simpa using hin⟩
    have hlt' : (i : Int) < l.length := by omega
    obtain ⟨rb, ro, rc, vk, vt, heq, hrd0, sk, ck, st, ct⟩ := hl.at hlt
    cases heq
    have htk := take_getD (d := in0) hlt
    have hxa := hats _ (getD_mem (d := in0) hlt)
    generalize l.getD i in0 = x at *
    have hrd : Rd hc rb (ro + i * 8) (InV x vk vt) := HX.rd hrd0 (hrd0.lt (by simp [InV])) id
    have sk' := sk
    have st' := st
    obtain ⟨_, ak, kk, rfl, _⟩ := sk'
    obtain ⟨_, at7, kt, rfl, _⟩ := st'
    have hld := ld_agg T.ag_35 hrd rfl
    simp only [InV] at hld
    simp (disch := first | omega | assumption) only [C.ref2_Encode_gos, vs, T.ts, and_true, true_and, List.getElem?_toArray, List.getElem?_cons_zero, List.getElem?_cons_succ, ↓reduceIte, Nat.reduceEqDiff, Option.bind_some, Option.map_some, Option.isSome_some, ne_eq, Bool.not_true, Bool.not_false, Bool.true_eq_false, Bool.false_eq_true, Bool.not_eq_true', Bool.not_eq_false', reduceCtorEq, Option.some.injEq, decide_eq_true_eq, decide_eq_false_iff_not, not_true_eq_false, not_false_eq_true, decide_true, decide_false, List.size_toArray, List.length_cons, List.length_nil, List.cons_append, List.nil_append, List.append_nil, List.map_cons, List.map_nil, Array.size_push, Int.toNat_natCast, List.toList_toArray, Nat.min_def, Nat.reduceLeDiff, Nat.reducePow, Int.reducePow, Int.reduceToNat, Int.tdiv_eq_ediv_of_nonneg, Int.tmod_eq_emod_of_nonneg, Int.fdiv_eq_ediv_of_nonneg, Nat.mul_one, Nat.reduceAdd, Nat.zero_add, Nat.add_zero, implies_true, false_implies, true_implies, hlt', hld]
    refine eff_alloc_z T.zr_35 ?_
    simp (disch := first | omega | assumption) only [C.ref2_Encode_gos, vs, T.ts, and_true, true_and, List.getElem?_toArray, List.getElem?_cons_zero, List.getElem?_cons_succ, ↓reduceIte, Nat.reduceEqDiff, Option.bind_some, Option.map_some, Option.isSome_some, ne_eq, Bool.not_true, Bool.not_false, Bool.true_eq_false, Bool.false_eq_true, Bool.not_eq_true', Bool.not_eq_false', reduceCtorEq, Option.some.injEq, decide_eq_true_eq, decide_eq_false_iff_not, not_true_eq_false, not_false_eq_true, decide_true, decide_false, List.size_toArray, List.length_cons, List.length_nil, List.cons_append, List.nil_append, List.append_nil, List.map_cons, List.map_nil, Array.size_push, Int.toNat_natCast, List.toList_toArray, Nat.min_def, Nat.reduceLeDiff, Nat.reducePow, Int.reducePow, Int.reduceToNat, Int.tdiv_eq_ediv_of_nonneg, Int.tmod_eq_emod_of_nonneg, Int.fdiv_eq_ediv_of_nonneg, Nat.mul_one, Nat.reduceAdd, Nat.zero_add, Nat.add_zero, implies_true, false_implies, true_implies]
    refine eff_store_new_z T.zr_35 rfl rfl rfl (by simp [Value.cells, oneCell]) rfl ?_
    intro h3 x3 hlt3 hrd3 b3
    have c0 : cellAt h3 ⟨hc.size, 0, none⟩ = some (.int .i64 x.at') := hrd3 0 _ rfl
    have HX3 := HX.trans x3
    have own3 := own.ext x3
    have blk3 := Fr_blk x3 blk id
    clear hld hrd hrd3 b3
    generalize hc.size = q at *
    obtain ⟨p, hp⟩ : ∃ p : Nat, x.at' = (p : Int) := ⟨x.at'.toNat, by omega⟩
    rw [hp] at c0 hxa
    have hpb : (p : Int) < (b.length : Int) := hxa.2
    simp (disch := first | omega | assumption) only [C.ref2_Encode_gos, vs, T.ts, and_true, true_and, List.getElem?_toArray, List.getElem?_cons_zero, List.getElem?_cons_succ, ↓reduceIte, Nat.reduceEqDiff, Option.bind_some, Option.map_some, Option.isSome_some, ne_eq, Bool.not_true, Bool.not_false, Bool.true_eq_false, Bool.false_eq_true, Bool.not_eq_true', Bool.not_eq_false', reduceCtorEq, Option.some.injEq, decide_eq_true_eq, decide_eq_false_iff_not, not_true_eq_false, not_false_eq_true, decide_true, decide_false, List.size_toArray, List.length_cons, List.length_nil, List.cons_append, List.nil_append, List.append_nil, List.map_cons, List.map_nil, Array.size_push, Int.toNat_natCast, List.toList_toArray, Nat.min_def, Nat.reduceLeDiff, Nat.reducePow, Int.reducePow, Int.reduceToNat, Int.tdiv_eq_ediv_of_nonneg, Int.tmod_eq_emod_of_nonneg, Int.fdiv_eq_ediv_of_nonneg, Nat.mul_one, Nat.reduceAdd, Nat.zero_add, Nat.add_zero, implies_true, false_implies, true_implies, c0, hpb]
    have hbc : cellAt h3 ⟨gb, p, none⟩ = some (.bool (((l.take i).map In.at').contains ((p : Nat) : Int))) := by
      rw [cellAt_of blk3, List.getElem?_toArray]
      exact begV_at (by omega) _
    refine eff_store1_z T.zr_4 rfl rfl rfl rfl rfl hbc (by simp [frozenAt, blk3]) ?_
    have blk4 := setAt_get (o := p) blk3 (.bool true)
    rw [begV_set, ← hp, show (l.take i).map In.at' ++ [x.at'] = (l.take (i + 1)).map In.at' by rw [htk]; simp] at blk4
    have f1 : Fr (fun k => k = gb) h3 (setAt h3 ⟨gb, p, none⟩ (.bool true)) := Fr.set (S := fun k => k = gb) _ _ _ fun _ => rfl
    have own4 := own3.fr f1 (fun k hk hS => by subst hS; exact Own_ne own3 blk3 (by decide) hk)
    have HX4 : Ext h (setAt h3 ⟨gb, p, none⟩ (.bool true)) := Fr.trans HX3 f1 (fun _ _ h => h) (fun k hk hS => by omega)
    generalize setAt h3 ⟨gb, p, none⟩ (.bool true) = h4 at *
    simp (disch := first | omega | assumption) only [C.ref2_Encode_gos, vs, T.ts, and_true, true_and, List.getElem?_toArray, List.getElem?_cons_zero, List.getElem?_cons_succ, ↓reduceIte, Nat.reduceEqDiff, Option.bind_some, Option.map_some, Option.isSome_some, ne_eq, Bool.not_true, Bool.not_false, Bool.true_eq_false, Bool.false_eq_true, Bool.not_eq_true', Bool.not_eq_false', reduceCtorEq, Option.some.injEq, decide_eq_true_eq, decide_eq_false_iff_not, not_true_eq_false, not_false_eq_true, decide_true, decide_false, List.size_toArray, List.length_cons, List.length_nil, List.cons_append, List.nil_append, List.append_nil, List.map_cons, List.map_nil, Array.size_push, Int.toNat_natCast, List.toList_toArray, Nat.min_def, Nat.reduceLeDiff, Nat.reducePow, Int.reducePow, Int.reduceToNat, Int.tdiv_eq_ediv_of_nonneg, Int.tmod_eq_emod_of_nonneg, Int.fdiv_eq_ediv_of_nonneg, Nat.mul_one, Nat.reduceAdd, Nat.zero_add, Nat.add_zero, implies_true, false_implies, true_implies]
    exact ⟨_, by omega, i + 1, rfl, by omega, by simp, HX4, own4, blk4⟩
  have hlt' : (i : Int) < l.length := by omega
  rw [encR_step hlt] at hR
  simp only at hR
  obtain ⟨rb, ro, rc, vk, vt, heq, hrd0, sk, ck, st, ct⟩ := hl.at hlt
  cases heq
  have hfit : (l.getD i in0).Fit := hlf _ (getD_mem hlt)
  have hll2 := hLl (l.getD i in0) (getD_mem hlt)
  have htk := take_getD (d := in0) hlt
  generalize l.getD i in0 = x at *
  have hrd : Rd hc rb (ro + i * 8) (InV x vk vt) := HX.rd hrd0 (hrd0.lt (by simp [InV])) id
  have sk' := sk
  have st' := st
  obtain ⟨_, ak, kk, rfl, _⟩ := sk'
  obtain ⟨_, at7, kt, rfl, _⟩ := st'
  have hld := ld_agg T.ag_35 hrd rfl
  simp only [InV] at hld
  simp (disch := first | omega | assumption) only [C.ref2_Encode_gos, vs, T.ts, and_true, true_and, List.getElem?_toArray, List.getElem?_cons_zero, List.getElem?_cons_succ, ↓reduceIte, Nat.reduceEqDiff, Option.bind_some, Option.map_some, Option.isSome_some, ne_eq, Bool.not_true, Bool.not_false, Bool.true_eq_false, Bool.false_eq_true, Bool.not_eq_true', Bool.not_eq_false', reduceCtorEq, Option.some.injEq, decide_eq_true_eq, decide_eq_false_iff_not, not_true_eq_false, not_false_eq_true, decide_true, decide_false, List.size_toArray, List.length_cons, List.length_nil, List.cons_append, List.nil_append, List.append_nil, List.map_cons, List.map_nil, Array.size_push, Int.toNat_natCast, List.toList_toArray, Nat.min_def, Nat.reduceLeDiff, Nat.reducePow, Int.reducePow, Int.reduceToNat, Int.tdiv_eq_ediv_of_nonneg, Int.tmod_eq_emod_of_nonneg, Int.fdiv_eq_ediv_of_nonneg, Nat.mul_one, Nat.reduceAdd, Nat.zero_add, Nat.add_zero, implies_true, false_implies, true_implies, hlt', hld]
  refine eff_alloc_z T.zr_35 ?_
  simp (disch := first | omega | assumption) only [C.ref2_Encode_gos, vs, T.ts, and_true, true_and, List.getElem?_toArray, List.getElem?_cons_zero, List.getElem?_cons_succ, ↓reduceIte, Nat.reduceEqDiff, Option.bind_some, Option.map_some, Option.isSome_some, ne_eq, Bool.not_true, Bool.not_false, Bool.true_eq_false, Bool.false_eq_true, Bool.not_eq_true', Bool.not_eq_false', reduceCtorEq, Option.some.injEq, decide_eq_true_eq, decide_eq_false_iff_not, not_true_eq_false, not_false_eq_true, decide_true, decide_false, List.size_toArray, List.length_cons, List.length_nil, List.cons_append, List.nil_append, List.append_nil, List.map_cons, List.map_nil, Array.size_push, Int.toNat_natCast, List.toList_toArray, Nat.min_def, Nat.reduceLeDiff, Nat.reducePow, Int.reducePow, Int.reduceToNat, Int.tdiv_eq_ediv_of_nonneg, Int.tmod_eq_emod_of_nonneg, Int.fdiv_eq_ediv_of_nonneg, Nat.mul_one, Nat.reduceAdd, Nat.zero_add, Nat.add_zero, implies_true, false_implies, true_implies]
  refine eff_store_new_z T.zr_35 rfl rfl rfl (by simp [Value.cells, oneCell]) rfl ?_
  intro h3 x3 hlt3 hrd3 b3
  have hld3 := ld_agg T.ag_35 hrd3 rfl
  have c0 : cellAt h3 ⟨hc.size, 0, none⟩ = some (.int .i64 x.at') := hrd3 0 _ rfl
  have c1 : cellAt h3 ⟨hc.size, 1, none⟩ = some (.int .u8 (x.op : Int)) := hrd3 1 _ rfl
  have c2 : cellAt h3 ⟨hc.size, 2, none⟩ = some (.bool x.wide) := hrd3 2 _ rfl
  change ld _ _ ⟨hc.size, 0, none⟩ h3 = some (.agg #[.int .i64 x.at', .int .u8 (x.op : Int), .bool x.wide, .int .i64 x.A, .int .i64 x.B, .int .i64 x.low, .slice ak x.keys.length kk, .slice at7 x.tgts.length kt]) at hld3
  have HX3 := HX.trans x3
  have own3 := own.ext x3
  clear hld hrd hrd3 b3
  generalize hc.size = q at *
  by_cases hat : x.at' = b.length
  case neg =>
    rw [if_pos hat] at hR
    subst hR
    have hat2 : ¬ x.at' = ((b.length : Nat) : Int) := hat
    simp (disch := first | omega | assumption) only [C.ref2_Encode_gos, vs, T.ts, and_true, true_and, List.getElem?_toArray, List.getElem?_cons_zero, List.getElem?_cons_succ, ↓reduceIte, Nat.reduceEqDiff, Option.bind_some, Option.map_some, Option.isSome_some, ne_eq, Bool.not_true, Bool.not_false, Bool.true_eq_false, Bool.false_eq_true, Bool.not_eq_true', Bool.not_eq_false', reduceCtorEq, Option.some.injEq, decide_eq_true_eq, decide_eq_false_iff_not, not_true_eq_false, not_false_eq_true, decide_true, decide_false, List.size_toArray, List.length_cons, List.length_nil, List.cons_append, List.nil_append, List.append_nil, List.map_cons, List.map_nil, Array.size_push, Int.toNat_natCast, List.toList_toArray, Nat.min_def, Nat.reduceLeDiff, Nat.reducePow, Int.reducePow, Int.reduceToNat, Int.tdiv_eq_ediv_of_nonneg, Int.tmod_eq_emod_of_nonneg, Int.fdiv_eq_ediv_of_nonneg, Nat.mul_one, Nat.reduceAdd, Nat.zero_add, Nat.add_zero, implies_true, false_implies, true_implies, c0, eq_false hat2]
    exact ⟨HX3, rfl⟩
  rw [if_neg (by simp [hat])] at hR
  have hop := hfit.op
  have hfx : formS x.op < 16 := formS_lt x.op hfit.op
  have hes := enc_same x b
  obtain ⟨f, hf⟩ : ∃ f, f = formS x.op := ⟨_, rfl⟩
  have fmq : frmL x.op = [letS f] := by rw [frm_eq _ hfit.op, hf]
  rw [← hf] at hR hes hfx
  simp (disch := first | omega | assumption) only [C.ref2_Encode_gos, vs, T.ts, and_true, true_and, List.getElem?_toArray, List.getElem?_cons_zero, List.getElem?_cons_succ, ↓reduceIte, Nat.reduceEqDiff, Option.bind_some, Option.map_some, Option.isSome_some, ne_eq, Bool.not_true, Bool.not_false, Bool.true_eq_false, Bool.false_eq_true, Bool.not_eq_true', Bool.not_eq_false', reduceCtorEq, Option.some.injEq, decide_eq_true_eq, decide_eq_false_iff_not, not_true_eq_false, not_false_eq_true, decide_true, decide_false, List.size_toArray, List.length_cons, List.length_nil, List.cons_append, List.nil_append, List.append_nil, List.map_cons, List.map_nil, Array.size_push, Int.toNat_natCast, List.toList_toArray, Nat.min_def, Nat.reduceLeDiff, Nat.reducePow, Int.reducePow, Int.reduceToNat, Int.tdiv_eq_ediv_of_nonneg, Int.tmod_eq_emod_of_nonneg, Int.fdiv_eq_ediv_of_nonneg, Nat.mul_one, Nat.reduceAdd, Nat.zero_add, Nat.add_zero, implies_true, false_implies, true_implies, c0, c1, eq_true hat]
  refine eff_call_of ?_
  simp (disch := first | omega | assumption) only [C.ref2_Encode_gos, vs, T.ts, and_true, true_and, List.getElem?_toArray, List.getElem?_cons_zero, List.getElem?_cons_succ, ↓reduceIte, Nat.reduceEqDiff, Option.bind_some, Option.map_some, Option.isSome_some, ne_eq, Bool.not_true, Bool.not_false, Bool.true_eq_false, Bool.false_eq_true, Bool.not_eq_true', Bool.not_eq_false', reduceCtorEq, Option.some.injEq, decide_eq_true_eq, decide_eq_false_iff_not, not_true_eq_false, not_false_eq_true, decide_true, decide_false, List.size_toArray, List.length_cons, List.length_nil, List.cons_append, List.nil_append, List.append_nil, List.map_cons, List.map_nil, Array.size_push, Int.toNat_natCast, List.toList_toArray, Nat.min_def, Nat.reduceLeDiff, Nat.reducePow, Int.reducePow, Int.reduceToNat, Int.tdiv_eq_ediv_of_nonneg, Int.tmod_eq_emod_of_nonneg, Int.fdiv_eq_ediv_of_nonneg, Nat.mul_one, Nat.reduceAdd, Nat.zero_add, Nat.add_zero, implies_true, false_implies, true_implies]
  refine (rform_any x.op hfit.op h3).mono ?_
  intro v5 h5 hp5
  have e5 := hp5.1
  subst e5
  have hv5 := hp5.2
  rw [fmq] at hv5
  by_cases hbad : badF x
  · rw [if_pos hbad] at hR
    subst hR
    unfold badF at hbad
    rw [← hf] at hbad
    by_cases g1 : f = 1
    · have g1' := (letS_x f hfx).2 g1
      simp (disch := first | omega | assumption) only [C.ref2_Encode_gos, vs, T.ts, and_true, true_and, List.getElem?_toArray, List.getElem?_cons_zero, List.getElem?_cons_succ, ↓reduceIte, Nat.reduceEqDiff, Option.bind_some, Option.map_some, Option.isSome_some, ne_eq, Bool.not_true, Bool.not_false, Bool.true_eq_false, Bool.false_eq_true, Bool.not_eq_true', Bool.not_eq_false', reduceCtorEq, Option.some.injEq, decide_eq_true_eq, decide_eq_false_iff_not, not_true_eq_false, not_false_eq_true, decide_true, decide_false, List.size_toArray, List.length_cons, List.length_nil, List.cons_append, List.nil_append, List.append_nil, List.map_cons, List.map_nil, Array.size_push, Int.toNat_natCast, List.toList_toArray, Nat.min_def, Nat.reduceLeDiff, Nat.reducePow, Int.reducePow, Int.reduceToNat, Int.tdiv_eq_ediv_of_nonneg, Int.tmod_eq_emod_of_nonneg, Int.fdiv_eq_ediv_of_nonneg, Nat.mul_one, Nat.reduceAdd, Nat.zero_add, Nat.add_zero, implies_true, false_implies, true_implies, hv5, c2, eq_true g1']
      exact ⟨HX3, rfl⟩
    have g1' := fun e => g1 ((letS_x f hfx).1 e)
    by_cases g2 : f = 15
    · have g2' := (letS_w f hfx).2 g2
      simp (disch := first | omega | assumption) only [C.ref2_Encode_gos, vs, T.ts, and_true, true_and, List.getElem?_toArray, List.getElem?_cons_zero, List.getElem?_cons_succ, ↓reduceIte, Nat.reduceEqDiff, Option.bind_some, Option.map_some, Option.isSome_some, ne_eq, Bool.not_true, Bool.not_false, Bool.true_eq_false, Bool.false_eq_true, Bool.not_eq_true', Bool.not_eq_false', reduceCtorEq, Option.some.injEq, decide_eq_true_eq, decide_eq_false_iff_not, not_true_eq_false, not_false_eq_true, decide_true, decide_false, List.size_toArray, List.length_cons, List.length_nil, List.cons_append, List.nil_append, List.append_nil, List.map_cons, List.map_nil, Array.size_push, Int.toNat_natCast, List.toList_toArray, Nat.min_def, Nat.reduceLeDiff, Nat.reducePow, Int.reducePow, Int.reduceToNat, Int.tdiv_eq_ediv_of_nonneg, Int.tmod_eq_emod_of_nonneg, Int.fdiv_eq_ediv_of_nonneg, Nat.mul_one, Nat.reduceAdd, Nat.zero_add, Nat.add_zero, implies_true, false_implies, true_implies, hv5, c2, eq_false g1', eq_true g2']
      exact ⟨HX3, rfl⟩
    have g2' := fun e => g2 ((letS_w f hfx).1 e)
    obtain ⟨gw, g3, g4⟩ : x.wide = true ∧ f ≠ 6 ∧ f ≠ 7 := by simpa [g1, g2] using hbad
    have g3' := fun e => g3 ((letS_l f hfx).1 e)
    have g4' := fun e => g4 ((letS_n f hfx).1 e)
    rw [gw] at c2
    simp (disch := first | omega | assumption) only [C.ref2_Encode_gos, vs, T.ts, and_true, true_and, List.getElem?_toArray, List.getElem?_cons_zero, List.getElem?_cons_succ, ↓reduceIte, Nat.reduceEqDiff, Option.bind_some, Option.map_some, Option.isSome_some, ne_eq, Bool.not_true, Bool.not_false, Bool.true_eq_false, Bool.false_eq_true, Bool.not_eq_true', Bool.not_eq_false', reduceCtorEq, Option.some.injEq, decide_eq_true_eq, decide_eq_false_iff_not, not_true_eq_false, not_false_eq_true, decide_true, decide_false, List.size_toArray, List.length_cons, List.length_nil, List.cons_append, List.nil_append, List.append_nil, List.map_cons, List.map_nil, Array.size_push, Int.toNat_natCast, List.toList_toArray, Nat.min_def, Nat.reduceLeDiff, Nat.reducePow, Int.reducePow, Int.reduceToNat, Int.tdiv_eq_ediv_of_nonneg, Int.tmod_eq_emod_of_nonneg, Int.fdiv_eq_ediv_of_nonneg, Nat.mul_one, Nat.reduceAdd, Nat.zero_add, Nat.add_zero, implies_true, false_implies, true_implies, hv5, c2, eq_false g1', eq_false g2', eq_false g3', eq_false g4']
    exact ⟨HX3, rfl⟩
  rw [if_neg hbad] at hR
  obtain ⟨hes1, hes2⟩ := hes hbad
  have hgo : ¬ f = 1 ∧ ¬ f = 15 ∧ (x.wide = false ∨ f = 6 ∨ f = 7) := by
    unfold badF at hbad
    rw [← hf] at hbad
    refine ⟨fun h => hbad (Or.inl h), fun h => hbad (Or.inr (Or.inl h)), ?_⟩
    cases hw : x.wide with
    | false => exact Or.inl rfl
    | true =>
      refine Or.inr ?_
      by_cases q6 : f = 6
      · exact Or.inl q6
      · by_cases q7 : f = 7
        · exact Or.inr q7
        · exact absurd (Or.inr (Or.inr ⟨hw, q6, q7⟩)) hbad
  obtain ⟨g1, g2, g3⟩ := hgo
  have hcall := rencode_any x f b.length (.slice ak x.keys.length kk) (.slice at7 x.tgts.length kt) (h := h5) (by omega) hfit hat (by omega) (sk.ext (by decide) HX3) ck (st.ext (by decide) HX3) ct hll2.1 hll2.2
  simp only [enV, InV, esV] at hcall
  have g1' := fun e => g1 ((letS_x f hfx).1 e)
  have g2' := fun e => g2 ((letS_w f hfx).1 e)
  have hbl : (oneE x f (b, true)).1.length ≤ 9000000000000 ∧ b.length + 1 ≤ (oneE x f (b, true)).1.length := by
    have h1 := oneE_len x f (b, true)
    have h2 := oneE_len1 x f (b, true)
    simp only at h1 h2
    omega
  generalize hY : oneE x f (b, true) = Y at *
  clear hY
  obtain ⟨b6, ok6⟩ := Y
  generalize hZ : encX x f b.length = Z at *
  clear hZ
  obtain ⟨b7, ok7⟩ := Z
  simp only at hcall hR hbl hes1 hes2
  subst hes1
  have g5 : x.wide = false ∨ (x.wide = true ∧ (([letS f] : List UInt8) = [108])) ∨ (x.wide = true ∧ ¬ ([letS f] : List UInt8) = [108] ∧ ([letS f] : List UInt8) = [110]) := by
    cases hw : x.wide with
    | false => exact Or.inl rfl
    | true =>
      rw [hw] at g3
      refine Or.inr ?_
      rcases g3 with g | g | g
      · cases g
      · exact Or.inl ⟨rfl, (letS_l f hfx).2 g⟩
      · exact Or.inr ⟨rfl, fun e => by have := (letS_l f hfx).1 e; omega, (letS_n f hfx).2 g⟩
  rcases g5 with gw | ⟨gw, g6⟩ | ⟨gw, g6, g7⟩
  case' inl =>
    rw [gw] at c2 hcall
    have hl0 := hld3
    rw [gw] at hl0
    simp (disch := first | omega | assumption) only [C.ref2_Encode_gos, vs, T.ts, and_true, true_and, List.getElem?_toArray, List.getElem?_cons_zero, List.getElem?_cons_succ, ↓reduceIte, Nat.reduceEqDiff, Option.bind_some, Option.map_some, Option.isSome_some, ne_eq, Bool.not_true, Bool.not_false, Bool.true_eq_false, Bool.false_eq_true, Bool.not_eq_true', Bool.not_eq_false', reduceCtorEq, Option.some.injEq, decide_eq_true_eq, decide_eq_false_iff_not, not_true_eq_false, not_false_eq_true, decide_true, decide_false, List.size_toArray, List.length_cons, List.length_nil, List.cons_append, List.nil_append, List.append_nil, List.map_cons, List.map_nil, Array.size_push, Int.toNat_natCast, List.toList_toArray, Nat.min_def, Nat.reduceLeDiff, Nat.reducePow, Int.reducePow, Int.reduceToNat, Int.tdiv_eq_ediv_of_nonneg, Int.tmod_eq_emod_of_nonneg, Int.fdiv_eq_ediv_of_nonneg, Nat.mul_one, Nat.reduceAdd, Nat.zero_add, Nat.add_zero, implies_true, false_implies, true_implies, hv5, c2, hl0, eq_false g1', eq_false g2']
  case' inr.inl =>
    rw [gw] at c2 hcall
    have hl0 := hld3
    rw [gw] at hl0
    simp (disch := first | omega | assumption) only [C.ref2_Encode_gos, vs, T.ts, and_true, true_and, List.getElem?_toArray, List.getElem?_cons_zero, List.getElem?_cons_succ, ↓reduceIte, Nat.reduceEqDiff, Option.bind_some, Option.map_some, Option.isSome_some, ne_eq, Bool.not_true, Bool.not_false, Bool.true_eq_false, Bool.false_eq_true, Bool.not_eq_true', Bool.not_eq_false', reduceCtorEq, Option.some.injEq, decide_eq_true_eq, decide_eq_false_iff_not, not_true_eq_false, not_false_eq_true, decide_true, decide_false, List.size_toArray, List.length_cons, List.length_nil, List.cons_append, List.nil_append, List.append_nil, List.map_cons, List.map_nil, Array.size_push, Int.toNat_natCast, List.toList_toArray, Nat.min_def, Nat.reduceLeDiff, Nat.reducePow, Int.reducePow, Int.reduceToNat, Int.tdiv_eq_ediv_of_nonneg, Int.tmod_eq_emod_of_nonneg, Int.fdiv_eq_ediv_of_nonneg, Nat.mul_one, Nat.reduceAdd, Nat.zero_add, Nat.add_zero, implies_true, false_implies, true_implies, hv5, c2, hl0, eq_false g1', eq_false g2', eq_true g6]
  case' inr.inr =>
    rw [gw] at c2 hcall
    have hl0 := hld3
    rw [gw] at hl0
    simp (disch := first | omega | assumption) only [C.ref2_Encode_gos, vs, T.ts, and_true, true_and, List.getElem?_toArray, List.getElem?_cons_zero, List.getElem?_cons_succ, ↓reduceIte, Nat.reduceEqDiff, Option.bind_some, Option.map_some, Option.isSome_some, ne_eq, Bool.not_true, Bool.not_false, Bool.true_eq_false, Bool.false_eq_true, Bool.not_eq_true', Bool.not_eq_false', reduceCtorEq, Option.some.injEq, decide_eq_true_eq, decide_eq_false_iff_not, not_true_eq_false, not_false_eq_true, decide_true, decide_false, List.size_toArray, List.length_cons, List.length_nil, List.cons_append, List.nil_append, List.append_nil, List.map_cons, List.map_nil, Array.size_push, Int.toNat_natCast, List.toList_toArray, Nat.min_def, Nat.reduceLeDiff, Nat.reducePow, Int.reducePow, Int.reduceToNat, Int.tdiv_eq_ediv_of_nonneg, Int.tmod_eq_emod_of_nonneg, Int.fdiv_eq_ediv_of_nonneg, Nat.mul_one, Nat.reduceAdd, Nat.zero_add, Nat.add_zero, implies_true, false_implies, true_implies, hv5, c2, hl0, eq_false g1', eq_false g2', eq_false g6, eq_true g7]
  all_goals
    refine eff_call_of ?_
    simp (disch := first | omega | assumption) only [C.ref2_Encode_gos, vs, T.ts, and_true, true_and, List.getElem?_toArray, List.getElem?_cons_zero, List.getElem?_cons_succ, ↓reduceIte, Nat.reduceEqDiff, Option.bind_some, Option.map_some, Option.isSome_some, ne_eq, Bool.not_true, Bool.not_false, Bool.true_eq_false, Bool.false_eq_true, Bool.not_eq_true', Bool.not_eq_false', reduceCtorEq, Option.some.injEq, decide_eq_true_eq, decide_eq_false_iff_not, not_true_eq_false, not_false_eq_true, decide_true, decide_false, List.size_toArray, List.length_cons, List.length_nil, List.cons_append, List.nil_append, List.append_nil, List.map_cons, List.map_nil, Array.size_push, Int.toNat_natCast, List.toList_toArray, Nat.min_def, Nat.reduceLeDiff, Nat.reducePow, Int.reducePow, Int.reduceToNat, Int.tdiv_eq_ediv_of_nonneg, Int.tmod_eq_emod_of_nonneg, Int.fdiv_eq_ediv_of_nonneg, Nat.mul_one, Nat.reduceAdd, Nat.zero_add, Nat.add_zero, implies_true, false_implies, true_implies]
    refine hcall.mono ?_
    intro v6 h6 hp6
    have X6 := HX3.trans hp6.1
    have hv6 := hp6.2
    have own6 := own3.ext hp6.1
    cases ok6 with
    | false =>
      rw [if_pos rfl] at hR
      subst hR
      simp (disch := first | omega | assumption) only [C.ref2_Encode_gos, vs, T.ts, and_true, true_and, List.getElem?_toArray, List.getElem?_cons_zero, List.getElem?_cons_succ, ↓reduceIte, Nat.reduceEqDiff, Option.bind_some, Option.map_some, Option.isSome_some, ne_eq, Bool.not_true, Bool.not_false, Bool.true_eq_false, Bool.false_eq_true, Bool.not_eq_true', Bool.not_eq_false', reduceCtorEq, Option.some.injEq, decide_eq_true_eq, decide_eq_false_iff_not, not_true_eq_false, not_false_eq_true, decide_true, decide_false, List.size_toArray, List.length_cons, List.length_nil, List.cons_append, List.nil_append, List.append_nil, List.map_cons, List.map_nil, Array.size_push, Int.toNat_natCast, List.toList_toArray, Nat.min_def, Nat.reduceLeDiff, Nat.reducePow, Int.reducePow, Int.reduceToNat, Int.tdiv_eq_ediv_of_nonneg, Int.tmod_eq_emod_of_nonneg, Int.fdiv_eq_ediv_of_nonneg, Nat.mul_one, Nat.reduceAdd, Nat.zero_add, Nat.add_zero, implies_true, false_implies, true_implies, hv6]
      exact ⟨X6, rfl⟩
    | true =>
      rw [if_neg (by simp)] at hR
      have hb6 : b6 = b ++ b7 := hes2 rfl
      have hb7 : b6.length = b.length + b7.length := by rw [hb6]; simp
      simp (disch := first | omega | assumption) only [C.ref2_Encode_gos, vs, T.ts, and_true, true_and, List.getElem?_toArray, List.getElem?_cons_zero, List.getElem?_cons_succ, ↓reduceIte, Nat.reduceEqDiff, Option.bind_some, Option.map_some, Option.isSome_some, ne_eq, Bool.not_true, Bool.not_false, Bool.true_eq_false, Bool.false_eq_true, Bool.not_eq_true', Bool.not_eq_false', reduceCtorEq, Option.some.injEq, decide_eq_true_eq, decide_eq_false_iff_not, not_true_eq_false, not_false_eq_true, decide_true, decide_false, List.size_toArray, List.length_cons, List.length_nil, List.cons_append, List.nil_append, List.append_nil, List.map_cons, List.map_nil, Array.size_push, Int.toNat_natCast, List.toList_toArray, Nat.min_def, Nat.reduceLeDiff, Nat.reducePow, Int.reducePow, Int.reduceToNat, Int.tdiv_eq_ediv_of_nonneg, Int.tmod_eq_emod_of_nonneg, Int.fdiv_eq_ediv_of_nonneg, Nat.mul_one, Nat.reduceAdd, Nat.zero_add, Nat.add_zero, implies_true, false_implies, true_implies, hv6]
      refine eff_append_str T.slT_37 Try.underlying9 rfl rfl own6 (by omega) (by omega) X6.size ?_
      intro v8 h8 own8 fr8
      have X8 : Ext h h8 := Ext.app X6 fr8 (fun k hk => (own6.lt k hk).1)
      have own9 : Own h8 h.size 5 1 v8 b6.length (bytesV b6) := Own_cast own8 hb7.symm (by rw [hb6]; simp [bytesV])
      obtain ⟨a9, c9, rfl, _⟩ := own9.slN.2
      by_cases hlong : 65535 < b6.length
      · rw [if_pos hlong] at hR
        subst hR
        have hlong' : (65535 : Int) < b6.length := by omega
        simp (disch := first | omega | assumption) only [C.ref2_Encode_gos, vs, T.ts, and_true, true_and, List.getElem?_toArray, List.getElem?_cons_zero, List.getElem?_cons_succ, ↓reduceIte, Nat.reduceEqDiff, Option.bind_some, Option.map_some, Option.isSome_some, ne_eq, Bool.not_true, Bool.not_false, Bool.true_eq_false, Bool.false_eq_true, Bool.not_eq_true', Bool.not_eq_false', reduceCtorEq, Option.some.injEq, decide_eq_true_eq, decide_eq_false_iff_not, not_true_eq_false, not_false_eq_true, decide_true, decide_false, List.size_toArray, List.length_cons, List.length_nil, List.cons_append, List.nil_append, List.append_nil, List.map_cons, List.map_nil, Array.size_push, Int.toNat_natCast, List.toList_toArray, Nat.min_def, Nat.reduceLeDiff, Nat.reducePow, Int.reducePow, Int.reduceToNat, Int.tdiv_eq_ediv_of_nonneg, Int.tmod_eq_emod_of_nonneg, Int.fdiv_eq_ediv_of_nonneg, Nat.mul_one, Nat.reduceAdd, Nat.zero_add, Nat.add_zero, implies_true, false_implies, true_implies, hlong']
        exact ⟨X8, rfl⟩
      · rw [if_neg hlong] at hR
        have hlong' : ¬ (65535 : Int) < b6.length := by omega
        simp (disch := first | omega | assumption) only [C.ref2_Encode_gos, vs, T.ts, and_true, true_and, List.getElem?_toArray, List.getElem?_cons_zero, List.getElem?_cons_succ, ↓reduceIte, Nat.reduceEqDiff, Option.bind_some, Option.map_some, Option.isSome_some, ne_eq, Bool.not_true, Bool.not_false, Bool.true_eq_false, Bool.false_eq_true, Bool.not_eq_true', Bool.not_eq_false', reduceCtorEq, Option.some.injEq, decide_eq_true_eq, decide_eq_false_iff_not, not_true_eq_false, not_false_eq_true, decide_true, decide_false, List.size_toArray, List.length_cons, List.length_nil, List.cons_append, List.nil_append, List.append_nil, List.map_cons, List.map_nil, Array.size_push, Int.toNat_natCast, List.toList_toArray, Nat.min_def, Nat.reduceLeDiff, Nat.reducePow, Int.reducePow, Int.reduceToNat, Int.tdiv_eq_ediv_of_nonneg, Int.tmod_eq_emod_of_nonneg, Int.fdiv_eq_ediv_of_nonneg, Nat.mul_one, Nat.reduceAdd, Nat.zero_add, Nat.add_zero, implies_true, false_implies, true_implies, hlong']
        refine ⟨_, by omega, i + 1, b6, _, rfl, by omega, by simp, X8, own9, ?_, by omega, hR⟩
        intro y hy
        rw [htk] at hy
        rcases List.mem_append.1 hy with hy | hy
        · have := hats y hy; omega
        · rw [List.mem_singleton.1 hy, hat]; omega
end Go.Proofs.Ytjpcpkhegjndeaa
