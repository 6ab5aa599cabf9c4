/- Operands of instructions, by the reference. No condition. -/
import Derived.Test.YtgdmoimclelfhaaDoorEE
namespace Go.Proofs.YtgdmoimclelfhaaDoor
open Go.Vc
set_option maxRecDepth 100000
set_option linter.unusedSimpArgs false
set_option linter.unusedVariables false
section
variable {x : In} {ak bk : Option Addr} {nk ck nb cb : Nat} {p : List Cst} {vp : Value}
theorem memP_3 (s : List UInt8) : memP s true = 3 ↔ s = [60, 99, 108, 105, 110, 105, 116, 62] := by
  unfold memP
  by_cases h1 : s = [60, 105, 110, 105, 116, 62]
  · subst h1; decide
  by_cases h2 : s = [60, 99, 108, 105, 110, 105, 116, 62]
  · subst h2; decide
  rw [if_neg (by simp [h1]), if_neg (by simp [h2])]
  constructor
  · intro h; split at h <;> cases h
  · intro h; exact absurd h h2
theorem memP_2 (s : List UInt8) : memP s true = 2 ↔ s = [60, 105, 110, 105, 116, 62] := by
  unfold memP
  by_cases h1 : s = [60, 105, 110, 105, 116, 62]
  · subst h1; decide
  by_cases h2 : s = [60, 99, 108, 105, 110, 105, 116, 62]
  · subst h2; decide
  rw [if_neg (by simp [h1]), if_neg (by simp [h2])]
  constructor
  · intro h; split at h <;> cases h
  · intro h; exact absurd h h1
theorem rstrS_any {h : Heap} (k : Nat) (hs : SlN h 5 vp p.length (flatS p)) :
    HCalls Tryd.prog 32 #[vp, .int .i64 k] h fun v h' => h' = h ∧ v = .tuple #[str (strS p k), .bool (isS p k 1)] := rstring_any k hs
set_option maxHeartbeats 2000000 in
theorem rcalled_any {h : Heap} (hA0 : 0 ≤ x.A) (hAl : x.A.toNat < p.length) (hf : ∀ c ∈ p, c.Fit) (htx : ∀ c ∈ p, c.text.length ≤ 4294967296) (hs : SlN h 5 vp p.length (flatS p)) :
    HCalls Tryd.prog 26 #[aggX x ak bk nk ck nb cb, vp] h fun v h' => Ext h h' ∧ v = .bool (calledP x.op x.B p (p.getD x.A.toNat Cst.zero).b) := by
  have hs' := hs
  obtain ⟨_, a, c, rfl, _⟩ := hs'
  refine C.ref2_called_calls (args := [aggX x ak bk nk ck nb cb, .slice a p.length c]) rfl ?_
  simp (disch := first | omega | assumption) only [C.ref2_called_gos, T.tv, ↓reduceIte, Nat.reduceEqDiff, reduceCtorEq, Nat.reduceLeDiff, Nat.reducePow, Int.reducePow, Int.reduceToNat, Nat.reduceAdd]
  refine eff_box ?_
  have q0 : (h.push (rowX x ak bk nk ck nb cb))[h.size]? = some (rowX x ak bk nk ck nb cb) := by simp
  have E1 := Ext.push h (rowX x ak bk nk ck nb cb)
  simp (disch := first | omega | assumption) only [C.ref2_called_gos, T.tv, ↓reduceIte, Nat.reduceEqDiff, reduceCtorEq, Nat.reduceLeDiff, Nat.reducePow, Int.reducePow, Int.reduceToNat, Nat.reduceAdd, Nat.zero_add]
  generalize h.push (rowX x ak bk nk ck nb cb) = h1 at *
  generalize h.size = q at *
  have hs1 := hs.ext (by decide) E1
  have q1 : cellAt h1 ⟨q, 1, none⟩ = some (.int .u8 (x.op : Int)) := by rw [cellAt_of q0]; rfl
  have q3 : cellAt h1 ⟨q, 3, none⟩ = some (.int .i64 x.A) := by rw [cellAt_of q0]; rfl
  obtain ⟨b0, o0, c0', heq0, hrd0, _⟩ := hs1.at hAl
  cases heq0
  rw [flatS_at hAl] at hrd0
  have hfa := hf (p.getD x.A.toNat Cst.zero) (by simp [hAl])
  generalize p.getD x.A.toNat Cst.zero = z at *
  obtain ⟨b, hb⟩ : ∃ b, b = z.b := ⟨_, rfl⟩
  have r4 : cellAt h1 ⟨b0, o0 + x.A.toNat * 5 + 4, none⟩ = some (.int .u16 (b : Int)) := by rw [hb]; exact hrd0 4 _ rfl
  have hb6 : b < 65536 := by rw [hb]; exact hfa.b
  rw [← hb]
  have l1 : x.A < (p.length : Int) := by omega
  have w1 : IntKind.i64.wrap (b : Int) = (b : Int) := wrap_i64 (by omega) (by omega)
  simp (disch := first | omega | assumption) only [C.ref2_called_gos, T.tv, ↓reduceIte, Nat.reduceEqDiff, reduceCtorEq, Nat.reduceLeDiff, Nat.reducePow, Int.reducePow, Int.reduceToNat, Nat.reduceAdd, q3, hA0, l1, r4, w1]
  refine eff_callF rfl ((ris_any b 12 hs1).mono ?_)
  rintro v3 h3 ⟨rfl, rfl⟩
  unfold calledP
  cases h12 : isS p b 12 with
  | false =>
    simp (disch := first | omega | assumption) only [C.ref2_called_gos, T.tv, ↓reduceIte, Nat.reduceEqDiff, reduceCtorEq, Nat.reduceLeDiff, Nat.reducePow, Int.reducePow, Int.reduceToNat, Nat.reduceAdd]
    exact ⟨E1, rfl⟩
  | true =>
    obtain ⟨_, hbl⟩ := isS_lt h12
    have hbl' : (b : Int) < (p.length : Int) := by omega
    have hb0' : (0 : Int) ≤ (b : Int) := by omega
    obtain ⟨bb, oo, cc, heq1, hrd, _⟩ := hs1.at hbl
    cases heq1
    rw [flatS_at hbl] at hrd
    have hfx := hf (p.getD b Cst.zero) (by simp [hbl])
    generalize p.getD b Cst.zero = y at *
    have c3 : cellAt h3 ⟨b0, o0 + b * 5 + 3, none⟩ = some (.int .u16 (y.a : Int)) := hrd 3 _ rfl
    have c4 : cellAt h3 ⟨b0, o0 + b * 5 + 4, none⟩ = some (.int .u16 (y.b : Int)) := hrd 4 _ rfl
    have w3 : IntKind.i64.wrap (y.a : Int) = (y.a : Int) := by have := hfx.a; exact wrap_i64 (by omega) (by omega)
    have w4 : IntKind.i64.wrap (y.b : Int) = (y.b : Int) := by have := hfx.b; exact wrap_i64 (by omega) (by omega)
    simp (disch := first | omega | assumption) only [C.ref2_called_gos, T.tv, ↓reduceIte, Nat.reduceEqDiff, reduceCtorEq, Nat.reduceLeDiff, Nat.reducePow, Int.reducePow, Int.reduceToNat, Nat.reduceAdd, hbl', c3, w3]
    refine eff_callF rfl ((rstrS_any y.a hs1).mono ?_)
    rintro v4 h4 ⟨rfl, rfl⟩
    simp (disch := first | omega | assumption) only [C.ref2_called_gos, T.tv, ↓reduceIte, Nat.reduceEqDiff, reduceCtorEq, Nat.reduceLeDiff, Nat.reducePow, Int.reducePow, Int.reduceToNat, Nat.reduceAdd, hbl', c4, w4]
    refine eff_callF rfl ((rstrS_any y.b hs1).mono ?_)
    rintro v5 h5 ⟨rfl, rfl⟩
    have lb := strS_len htx y.b
    generalize isS p y.a 1 = i1 at *
    generalize isS p y.b 1 = i2 at *
    generalize strS p y.a = na at *
    generalize strS p y.b = nd at *
    simp (disch := first | omega | assumption) only [C.ref2_called_gos, T.tv, ↓reduceIte, Nat.reduceEqDiff, reduceCtorEq, Nat.reduceLeDiff, Nat.reducePow, Int.reducePow, Int.reduceToNat, Nat.reduceAdd]
    refine eff_callF rfl ((rmethod_any nd lb).mono ?_)
    rintro v7 h7 ⟨hx7, hm⟩
    obtain ⟨sv, rfl, hsv⟩ := MethV_parts hm
    have q7 := Fr_blk hx7 q0 _root_.id
    have q1'' : cellAt h7 ⟨q, 1, none⟩ = some (.int .u8 (x.op : Int)) := by rw [cellAt_of q7]; rfl
    have q4'' : cellAt h7 ⟨q, 4, none⟩ = some (.int .i64 x.B) := by rw [cellAt_of q7]; rfl
    have hx := E1.trans hx7
    have hml := mT_len nd
    generalize mT nd = ts at *
    generalize (methP nd).isSome = ok at *
    have hsv' := hsv
    obtain ⟨a9, c9, rfl, _⟩ := hsv'
    rw [List.length_map]
    simp (disch := first | omega | assumption) only [C.ref2_called_gos, T.tv, ↓reduceIte, Nat.reduceEqDiff, reduceCtorEq, Nat.reduceLeDiff, Nat.reducePow, Int.reducePow, Int.reduceToNat, Nat.reduceAdd]
    refine loop_intro [2, 6, 12, 13, 55, 56, 57] (fun m ρ hc => ∃ i : Nat, m = ts.length - i ∧ i ≤ ts.length ∧
      ρ = [(2, .pointer (some ⟨q, 0, none⟩)), (6, str na), (12, .bool ok), (13, .int .i64 ((1 + slotsP (ts.take i) : Nat) : Int)), (55, .slice a9 ts.length c9), (56, .int .i64 (ts.length : Int)), (57, .int .i64 (i : Int))] ∧ hc = h7) ?_ ?_
    · simp (disch := first | omega | assumption) only [C.ref2_called_gos, T.tv, ↓reduceIte, Nat.reduceEqDiff, reduceCtorEq, Nat.reduceLeDiff, Nat.reducePow, Int.reducePow, Int.reduceToNat, Nat.reduceAdd]
      exact ⟨_, 0, rfl, Nat.zero_le _, rfl⟩
    rintro m ρ hc ⟨i, rfl, hi, rfl, rfl⟩
    by_cases hlt : i < ts.length
    · have hlt' : (i : Int) < (ts.length : Int) := by omega
      obtain ⟨b1, o1, c1', heq1, _, hcell1⟩ := hsv.at (i := i) (by simpa using hlt)
      rw [List.length_map] at heq1
      cases heq1
      have e1 : cellAt hc ⟨b1, o1 + i, none⟩ = some (str (ts.getD i [])) := by rw [hcell1]; simp [hlt]
      have hst : ts.take (i + 1) = ts.take i ++ [ts.getD i []] := by rw [List.take_add_one]; simp [hlt]
      have hsl := slotsP_take (ts := ts) i
      generalize ts.getD i [] = t at *
      have hsp := slotP_le t
      have w1 : IntKind.i64.wrap ((i : Int) + 1) = ((i + 1 : Nat) : Int) := by rw [wrap_i64 (by omega) (by omega)]; omega
      have w2 : IntKind.i64.wrap (((1 + slotsP (ts.take i) : Nat) : Int) + (slotP t : Int)) = ((1 + slotsP (ts.take (i + 1)) : Nat) : Int) := by
        rw [hst, slotsP_snoc, wrap_i64 (by omega) (by omega)]; omega
      simp (disch := first | omega | assumption) only [C.ref2_called_gos, T.tv, ↓reduceIte, Nat.reduceEqDiff, reduceCtorEq, Nat.reduceLeDiff, Nat.reducePow, Int.reducePow, Int.reduceToNat, Nat.reduceAdd, hlt', e1, decide_true, decide_false]
      refine eff_callF rfl ((rslots_any t).mono ?_)
      rintro v9 h9 ⟨rfl, rfl⟩
      simp (disch := first | omega | assumption) only [C.ref2_called_gos, T.tv, ↓reduceIte, Nat.reduceEqDiff, reduceCtorEq, Nat.reduceLeDiff, Nat.reducePow, Int.reducePow, Int.reduceToNat, Nat.reduceAdd, w1, w2]
      exact ⟨ts.length - (i + 1), by omega, i + 1, rfl, by omega, rfl⟩
    have hlt' : ¬ (i : Int) < (ts.length : Int) := by omega
    rw [List.take_of_length_le (show ts.length ≤ i by omega)]
    have k3 := memP_3 na
    have k2 := memP_2 na
    by_cases n3 : na = [60, 99, 108, 105, 110, 105, 116, 62]
    · rw [show (true && (!(decide (memP na true = 3) || (decide (memP na true = 2) && decide (x.op ≠ 183))) && (ok && (decide (x.op ≠ 185) || decide (((1 + slotsP ts : Nat) : Int) = x.B))))) = false by simp [k3.2 n3]]
      simp (disch := first | omega | assumption) only [C.ref2_called_gos, T.tv, ↓reduceIte, Nat.reduceEqDiff, reduceCtorEq, Nat.reduceLeDiff, Nat.reducePow, Int.reducePow, Int.reduceToNat, Nat.reduceAdd, hlt', q1'', eq_true n3, decide_true, decide_false]
      exact hx
    by_cases n2 : na = [60, 105, 110, 105, 116, 62] ∧ x.op ≠ 183
    · have o1 : ¬ (x.op : Int) = 183 := by omega
      rw [show (true && (!(decide (memP na true = 3) || (decide (memP na true = 2) && decide (x.op ≠ 183))) && (ok && (decide (x.op ≠ 185) || decide (((1 + slotsP ts : Nat) : Int) = x.B))))) = false by simp [k2.2 n2.1, n2.2]]
      simp (disch := first | omega | assumption) only [C.ref2_called_gos, T.tv, ↓reduceIte, Nat.reduceEqDiff, reduceCtorEq, Nat.reduceLeDiff, Nat.reducePow, Int.reducePow, Int.reduceToNat, Nat.reduceAdd, hlt', q1'', eq_false n3, eq_true n2.1, eq_false o1, decide_true, decide_false]
      exact hx
    rw [show (true && (!(decide (memP na true = 3) || (decide (memP na true = 2) && decide (x.op ≠ 183))) && (ok && (decide (x.op ≠ 185) || decide (((1 + slotsP ts : Nat) : Int) = x.B))))) = (ok && (decide (x.op ≠ 185) || decide (((1 + slotsP ts : Nat) : Int) = x.B))) by
      have : (decide (memP na true = 2) && decide (x.op ≠ 183)) = false := by
        rw [Bool.and_eq_false_iff, decide_eq_false_iff_not, decide_eq_false_iff_not, k2]
        by_cases hn : na = [60, 105, 110, 105, 116, 62]
        · exact .inr fun h => n2 ⟨hn, h⟩
        · exact .inl hn
      rw [this, decide_eq_false (fun h => n3 (k3.1 h))]; rfl]
    by_cases m2 : na = [60, 105, 110, 105, 116, 62]
    · have o1 : (x.op : Int) = 183 := by
        by_cases ho : x.op = 183
        · omega
        · exact absurd ⟨m2, ho⟩ n2
      cases ok with
      | false =>
        simp (disch := first | omega | assumption) only [C.ref2_called_gos, T.tv, ↓reduceIte, Nat.reduceEqDiff, reduceCtorEq, Nat.reduceLeDiff, Nat.reducePow, Int.reducePow, Int.reduceToNat, Nat.reduceAdd, hlt', q1'', eq_false n3, eq_true m2, eq_true o1, decide_true, decide_false]
        exact ⟨hx, rfl⟩
      | true =>
        by_cases o185 : x.op = 185
        case neg =>
          have o2 : ¬ (x.op : Int) = 185 := by omega
          rw [show (true && (decide (x.op ≠ 185) || decide (((1 + slotsP ts : Nat) : Int) = x.B))) = true by simp [o185]]
          simp (disch := first | omega | assumption) only [C.ref2_called_gos, T.tv, ↓reduceIte, Nat.reduceEqDiff, reduceCtorEq, Nat.reduceLeDiff, Nat.reducePow, Int.reducePow, Int.reduceToNat, Nat.reduceAdd, hlt', q1'', eq_false n3, eq_true m2, eq_true o1, eq_false o2, decide_true, decide_false]
          exact hx
        have o2 : (x.op : Int) = 185 := by omega
        rw [show (true && (decide (x.op ≠ 185) || decide (((1 + slotsP ts : Nat) : Int) = x.B))) = decide (((1 + slotsP ts : Nat) : Int) = x.B) by simp [o185]]
        simp (disch := first | omega | assumption) only [C.ref2_called_gos, T.tv, ↓reduceIte, Nat.reduceEqDiff, reduceCtorEq, Nat.reduceLeDiff, Nat.reducePow, Int.reducePow, Int.reduceToNat, Nat.reduceAdd, hlt', q1'', q4'', eq_false n3, eq_true m2, eq_true o1, eq_true o2, decide_true, decide_false]
        exact hx
    · skip
      cases ok with
      | false =>
        simp (disch := first | omega | assumption) only [C.ref2_called_gos, T.tv, ↓reduceIte, Nat.reduceEqDiff, reduceCtorEq, Nat.reduceLeDiff, Nat.reducePow, Int.reducePow, Int.reduceToNat, Nat.reduceAdd, hlt', q1'', eq_false n3, eq_false m2, decide_true, decide_false]
        exact ⟨hx, rfl⟩
      | true =>
        by_cases o185 : x.op = 185
        case neg =>
          have o2 : ¬ (x.op : Int) = 185 := by omega
          rw [show (true && (decide (x.op ≠ 185) || decide (((1 + slotsP ts : Nat) : Int) = x.B))) = true by simp [o185]]
          simp (disch := first | omega | assumption) only [C.ref2_called_gos, T.tv, ↓reduceIte, Nat.reduceEqDiff, reduceCtorEq, Nat.reduceLeDiff, Nat.reducePow, Int.reducePow, Int.reduceToNat, Nat.reduceAdd, hlt', q1'', eq_false n3, eq_false m2, eq_false o2, decide_true, decide_false]
          exact hx
        have o2 : (x.op : Int) = 185 := by omega
        rw [show (true && (decide (x.op ≠ 185) || decide (((1 + slotsP ts : Nat) : Int) = x.B))) = decide (((1 + slotsP ts : Nat) : Int) = x.B) by simp [o185]]
        simp (disch := first | omega | assumption) only [C.ref2_called_gos, T.tv, ↓reduceIte, Nat.reduceEqDiff, reduceCtorEq, Nat.reduceLeDiff, Nat.reducePow, Int.reducePow, Int.reduceToNat, Nat.reduceAdd, hlt', q1'', q4'', eq_false n3, eq_false m2, eq_true o2, decide_true, decide_false]
        exact hx

theorem rdims_any {h : Heap} (l : List UInt8) (hl : l.length ≤ 4294967296) : HCalls Tryd.prog 27 #[str l] h fun v h' => h' = h ∧ v = .int .i64 (nbr l : Nat) := by
  refine C.ref2_dims_calls (args := [str l]) rfl ?_
  simp (disch := first | omega | assumption) only [C.ref2_dims_gos, T.tv, ↓reduceIte, Nat.reduceEqDiff, reduceCtorEq, Nat.reduceLeDiff, Nat.reducePow, Int.reducePow, Int.reduceToNat, Nat.reduceAdd]
  refine loop_intro [0, 3] (fun m ρ hc => ∃ i : Nat, m = l.length - i ∧ i ≤ l.length ∧ ρ = [(0, str l), (3, .int .i64 (i : Int))] ∧ hc = h ∧ nbr l = i + nbr (l.drop i)) ?_ ?_
  · simp (disch := first | omega | assumption) only [C.ref2_dims_gos, T.tv, ↓reduceIte, Nat.reduceEqDiff, reduceCtorEq, Nat.reduceLeDiff, Nat.reducePow, Int.reducePow, Int.reduceToNat, Nat.reduceAdd]
    exact ⟨_, 0, rfl, Nat.zero_le _, rfl, by simp⟩
  rintro m ρ hc ⟨i, rfl, hi, rfl, rfl, hn⟩
  by_cases hlt : i < l.length
  · have hlt' : (i : Int) < (l.length : Int) := by omega
    have hd : l.drop i = l.getD i 0 :: l.drop (i + 1) := by rw [List.drop_eq_getElem_cons hlt]; simp [hlt]
    by_cases hb : l.getD i 0 = 91
    · have hb' : ((l.getD i 0).toNat : Int) = 91 := by rw [hb]; rfl
      have w1 : IntKind.i64.wrap ((i : Int) + 1) = ((i + 1 : Nat) : Int) := by rw [wrap_i64 (by omega) (by omega)]; omega
      simp (disch := first | omega | assumption) only [C.ref2_dims_gos, T.tv, ↓reduceIte, Nat.reduceEqDiff, reduceCtorEq, Nat.reduceLeDiff, Nat.reducePow, Int.reducePow, Int.reduceToNat, Nat.reduceAdd, hlt', hb', w1, decide_true, decide_false]
      refine ⟨l.length - (i + 1), by omega, i + 1, rfl, by omega, rfl, ?_⟩
      rw [hn, hd, nbr, if_pos hb]; omega
    · have hb' : ¬ ((l.getD i 0).toNat : Int) = 91 := by
        intro e; apply hb; apply UInt8.toNat_inj.1; show _ = 91; omega
      have hni : nbr l = i := by rw [hn, hd, nbr, if_neg hb]; rfl
      rw [hni]
      simp (disch := first | omega | assumption) only [C.ref2_dims_gos, T.tv, ↓reduceIte, Nat.reduceEqDiff, reduceCtorEq, Nat.reduceLeDiff, Nat.reducePow, Int.reducePow, Int.reduceToNat, Nat.reduceAdd, hlt', hb', decide_true, decide_false]
  · have hil : i = l.length := by omega
    subst hil
    have hlt' : ¬ (l.length : Int) < (l.length : Int) := by omega
    have hni : nbr l = l.length := by rw [hn, List.drop_length]; rfl
    rw [hni]
    simp (disch := first | omega | assumption) only [C.ref2_dims_gos, T.tv, ↓reduceIte, Nat.reduceEqDiff, reduceCtorEq, Nat.reduceLeDiff, Nat.reducePow, Int.reducePow, Int.reduceToNat, Nat.reduceAdd, hlt', decide_true, decide_false]

/-! ### operand -/
def tagI (p : List Cst) (A : Int) : Nat := if 0 < A ∧ A < (p.length : Int) then (p.getD A.toNat Cst.zero).tag else 0
theorem tagI_eq (p : List Cst) (A : Int) (t : Nat) (ht : t ≠ 0) : isI p A t = decide (((tagI p A : Nat) : Int) = (t : Int)) := by
  unfold isI isS tagI
  rw [Bool.eq_iff_iff]
  simp only [Bool.and_eq_true, decide_eq_true_eq]
  split
  · constructor
    · rintro ⟨_, _, _, h⟩; omega
    · intro h; refine ⟨?_, ?_, ?_, ?_⟩ <;> omega
  · constructor
    · rintro ⟨_, _, _, _⟩; omega
    · intro h; omega
theorem clsOf_name {p : List Cst} {A : Int} (h : isI p A 7 = true) : (clsOfS p A.toNat).1 = nameI p A := by
  unfold isI at h
  rw [Bool.and_eq_true] at h
  unfold clsOfS
  rw [if_pos h.2]
  rfl
theorem classOf_int {h : Heap} (k : Int) (hf : ∀ c ∈ p, c.Fit) (hs : SlN h 5 vp p.length (flatS p)) :
    HCalls Tryd.prog 25 #[vp, .int .i64 k] h fun v h' => h' = h ∧ v = .tuple #[str (clsOfS p k.toNat).1, .bool (clsOfS p k.toNat).2] := by
  by_cases h0 : 0 ≤ k
  · have := classOf_any (vp := vp) k.toNat hf hs
    rw [Int.toNat_of_nonneg h0] at this
    exact this
  · have hz : clsOfS p k.toNat = ([], false) := by
      unfold clsOfS
      rw [if_neg (by rw [show k.toNat = 0 by omega]; simp [isS])]
    rw [hz]
    refine C.ref1_ClassOf_calls (args := [vp, .int .i64 k]) rfl ?_
    simp (disch := first | omega | assumption) only [C.ref1_ClassOf_gos, T.tv, ↓reduceIte, Nat.reduceEqDiff, reduceCtorEq, Nat.reduceLeDiff, Nat.reducePow, Int.reducePow, Int.reduceToNat, Nat.reduceAdd]
    refine eff_callF rfl (HCalls.mono (R := fun v h' => h' = h ∧ v = .bool false) ?_ ?_)
    · refine C.ref1_Is_calls (args := [vp, .int .i64 k, .int .u8 7]) rfl ?_
      have h0' : ¬ (0 : Int) < k := by omega
      have hs' := hs
      obtain ⟨_, a, c, rfl, _⟩ := hs'
      simp (disch := first | omega | assumption) only [C.ref1_Is_gos, T.tv, ↓reduceIte, Nat.reduceEqDiff, reduceCtorEq, Nat.reduceLeDiff, Nat.reducePow, Int.reducePow, Int.reduceToNat, Nat.reduceAdd, h0']
    · rintro v1 h1 ⟨rfl, rfl⟩
      simp (disch := first | omega | assumption) only [C.ref1_ClassOf_gos, T.tv, ↓reduceIte, Nat.reduceEqDiff, reduceCtorEq, Nat.reduceLeDiff, Nat.reducePow, Int.reducePow, Int.reduceToNat, Nat.reduceAdd]
set_option maxHeartbeats 16000000 in
theorem op_tail {h0 h : Heap} {gx : Nat} {a : Option Addr} {c : Nat} {u0 u17 : Value} (t : Nat) (ht : t = tagI p x.A) (ht8 : t < 256) (hop : x.op < 256) (hf : ∀ c ∈ p, c.Fit) (htx : ∀ c ∈ p, c.text.length ≤ 4294967296)
    (hs : SlN h 5 (.slice a p.length c) p.length (flatS p)) (hx : Ext h0 h) (q0 : h[gx]? = some (rowX x ak bk nk ck nb cb)) :
    Cd.vc Tryd.prog C.ref2_operand_t0 (retQ Tryd.prog [(4, none)] fun v h' => Ext h0 h' ∧ v = .bool (operP x.op x.A x.B p))
      [(0, u0), (1, .slice a p.length c), (2, .pointer (some ⟨gx, 0, none⟩)), (4, .bool false), (5, .int .u8 (t : Int)), (6, undef), (17, u17), (32, undef), (33, undef), (46, undef), (54, undef), (61, undef), (72, undef), (81, undef), (90, undef), (99, undef), (104, undef)] h := by
  rw [C.ref2_operand_t0_go]
  have q1 : cellAt h ⟨gx, 1, none⟩ = some (.int .u8 (x.op : Int)) := by rw [cellAt_of q0]; rfl
  have q3 : cellAt h ⟨gx, 3, none⟩ = some (.int .i64 x.A) := by rw [cellAt_of q0]; rfl
  have q4 : cellAt h ⟨gx, 4, none⟩ = some (.int .i64 x.B) := by rw [cellAt_of q0]; rfl
  have hldx := ld_agg T.ag_37 (Rd_block (vs := [.int .i64 x.at', .int .u8 (x.op : Int), .bool x.wide, .int .i64 x.A, .int .i64 x.B, .int .i64 x.low, .slice ak nk ck, .slice bk nb cb]) q0) rfl
  simp (disch := first | omega | assumption) only [C.ref2_operand_gos, T.tv, ↓reduceIte, Nat.reduceEqDiff, reduceCtorEq, Nat.reduceLeDiff, Nat.reducePow, Int.reducePow, Int.reduceToNat, Nat.reduceAdd, q3]
  refine eff_callF rfl ((classOf_int x.A hf hs).mono ?_)
  rintro v1 h1 ⟨rfl, rfl⟩
  have hti : ∀ k : Nat, k ≠ 0 → isI p x.A k = decide ((t : Int) = (k : Int)) := fun k hk => by rw [ht]; exact tagI_eq p x.A k hk
  have hnm : (clsOfS p x.A.toNat).1.length ≤ 4294967296 := by
    unfold clsOfS
    split
    · exact strS_len htx _
    · simp
  have hcn := @clsOf_name p x.A
  generalize (clsOfS p x.A.toNat).1 = nm at *
  generalize (clsOfS p x.A.toNat).2 = nb2 at *
  have hany : ∀ k : Nat, k ≠ 0 → ([k] : List Nat).any (isI p x.A) = decide ((t : Int) = (k : Int)) := fun k hk => by simp [hti k hk]
  by_cases e18 : (x.op : Int) = 18
  case pos =>
    rw [show operP x.op x.A x.B p = ([3, 4, 8].any (isI p x.A)) by unfold operP; rw [if_pos (by omega)]]
    have hr : ([3, 4, 8] : List Nat).any (isI p x.A) = (decide ((t : Int) = 3) || (decide ((t : Int) = 4) || decide ((t : Int) = 8))) := by simp only [List.any_cons, List.any_nil, Bool.or_false]; rw [hti 3 (by decide), hti 4 (by decide), hti 8 (by decide)]; rfl
    rw [hr]
    by_cases t3 : (t : Int) = 3
    case pos =>
      simp (disch := first | omega | assumption) only [C.ref2_operand_gos, T.tv, ↓reduceIte, Nat.reduceEqDiff, reduceCtorEq, Nat.reduceLeDiff, Nat.reducePow, Int.reducePow, Int.reduceToNat, Nat.reduceAdd, q1, eq_true e18, eq_true t3, decide_true, decide_false]
      first | exact hx | exact ⟨hx, rfl⟩ | exact ⟨hx, by simp [t3]⟩
    by_cases t4 : (t : Int) = 4
    case pos =>
      simp (disch := first | omega | assumption) only [C.ref2_operand_gos, T.tv, ↓reduceIte, Nat.reduceEqDiff, reduceCtorEq, Nat.reduceLeDiff, Nat.reducePow, Int.reducePow, Int.reduceToNat, Nat.reduceAdd, q1, eq_true e18, eq_false t3, eq_true t4, decide_true, decide_false]
      first | exact hx | exact ⟨hx, rfl⟩ | exact ⟨hx, by simp [t4]⟩
    simp (disch := first | omega | assumption) only [C.ref2_operand_gos, T.tv, ↓reduceIte, Nat.reduceEqDiff, reduceCtorEq, Nat.reduceLeDiff, Nat.reducePow, Int.reducePow, Int.reduceToNat, Nat.reduceAdd, q1, eq_true e18, eq_false t3, eq_false t4, decide_true, decide_false]
    first | exact hx | exact ⟨hx, rfl⟩ | exact ⟨hx, by simp [t3, t4]⟩
  by_cases e19 : (x.op : Int) = 19
  case pos =>
    rw [show operP x.op x.A x.B p = ([3, 4, 8].any (isI p x.A)) by unfold operP; rw [if_pos (by omega)]]
    have hr : ([3, 4, 8] : List Nat).any (isI p x.A) = (decide ((t : Int) = 3) || (decide ((t : Int) = 4) || decide ((t : Int) = 8))) := by simp only [List.any_cons, List.any_nil, Bool.or_false]; rw [hti 3 (by decide), hti 4 (by decide), hti 8 (by decide)]; rfl
    rw [hr]
    by_cases t3 : (t : Int) = 3
    case pos =>
      simp (disch := first | omega | assumption) only [C.ref2_operand_gos, T.tv, ↓reduceIte, Nat.reduceEqDiff, reduceCtorEq, Nat.reduceLeDiff, Nat.reducePow, Int.reducePow, Int.reduceToNat, Nat.reduceAdd, q1, eq_false e18, eq_true e19, eq_true t3, decide_true, decide_false]
      first | exact hx | exact ⟨hx, rfl⟩ | exact ⟨hx, by simp [t3]⟩
    by_cases t4 : (t : Int) = 4
    case pos =>
      simp (disch := first | omega | assumption) only [C.ref2_operand_gos, T.tv, ↓reduceIte, Nat.reduceEqDiff, reduceCtorEq, Nat.reduceLeDiff, Nat.reducePow, Int.reducePow, Int.reduceToNat, Nat.reduceAdd, q1, eq_false e18, eq_true e19, eq_false t3, eq_true t4, decide_true, decide_false]
      first | exact hx | exact ⟨hx, rfl⟩ | exact ⟨hx, by simp [t4]⟩
    simp (disch := first | omega | assumption) only [C.ref2_operand_gos, T.tv, ↓reduceIte, Nat.reduceEqDiff, reduceCtorEq, Nat.reduceLeDiff, Nat.reducePow, Int.reducePow, Int.reduceToNat, Nat.reduceAdd, q1, eq_false e18, eq_true e19, eq_false t3, eq_false t4, decide_true, decide_false]
    first | exact hx | exact ⟨hx, rfl⟩ | exact ⟨hx, by simp [t3, t4]⟩
  by_cases e20 : (x.op : Int) = 20
  case pos =>
    rw [show operP x.op x.A x.B p = ([5, 6].any (isI p x.A)) by unfold operP; rw [if_neg (by omega), if_pos (by omega)]]
    have hr : ([5, 6] : List Nat).any (isI p x.A) = (decide ((t : Int) = 5) || decide ((t : Int) = 6)) := by simp only [List.any_cons, List.any_nil, Bool.or_false]; rw [hti 5 (by decide), hti 6 (by decide)]; rfl
    rw [hr]
    by_cases t5 : (t : Int) = 5
    case pos =>
      simp (disch := first | omega | assumption) only [C.ref2_operand_gos, T.tv, ↓reduceIte, Nat.reduceEqDiff, reduceCtorEq, Nat.reduceLeDiff, Nat.reducePow, Int.reducePow, Int.reduceToNat, Nat.reduceAdd, q1, eq_false e18, eq_false e19, eq_true e20, eq_true t5, decide_true, decide_false]
      first | exact hx | exact ⟨hx, rfl⟩ | exact ⟨hx, by simp [t5]⟩
    simp (disch := first | omega | assumption) only [C.ref2_operand_gos, T.tv, ↓reduceIte, Nat.reduceEqDiff, reduceCtorEq, Nat.reduceLeDiff, Nat.reducePow, Int.reducePow, Int.reduceToNat, Nat.reduceAdd, q1, eq_false e18, eq_false e19, eq_true e20, eq_false t5, decide_true, decide_false]
    first | exact hx | exact ⟨hx, rfl⟩ | exact ⟨hx, by simp [t5]⟩
  by_cases e178 : (x.op : Int) = 178
  case pos =>
    rw [show operP x.op x.A x.B p = ([9].any (isI p x.A)) by unfold operP; rw [if_neg (by omega), if_neg (by omega), if_pos (by omega)]]
    have hr : ([9] : List Nat).any (isI p x.A) = decide ((t : Int) = 9) := by simp only [List.any_cons, List.any_nil, Bool.or_false]; rw [hti 9 (by decide)]; rfl
    rw [hr]
    simp (disch := first | omega | assumption) only [C.ref2_operand_gos, T.tv, ↓reduceIte, Nat.reduceEqDiff, reduceCtorEq, Nat.reduceLeDiff, Nat.reducePow, Int.reducePow, Int.reduceToNat, Nat.reduceAdd, q1, eq_false e18, eq_false e19, eq_false e20, eq_true e178, decide_true, decide_false]
    first | exact hx | exact ⟨hx, rfl⟩ | exact ⟨hx, by simp⟩
  by_cases e179 : (x.op : Int) = 179
  case pos =>
    rw [show operP x.op x.A x.B p = ([9].any (isI p x.A)) by unfold operP; rw [if_neg (by omega), if_neg (by omega), if_pos (by omega)]]
    have hr : ([9] : List Nat).any (isI p x.A) = decide ((t : Int) = 9) := by simp only [List.any_cons, List.any_nil, Bool.or_false]; rw [hti 9 (by decide)]; rfl
    rw [hr]
    simp (disch := first | omega | assumption) only [C.ref2_operand_gos, T.tv, ↓reduceIte, Nat.reduceEqDiff, reduceCtorEq, Nat.reduceLeDiff, Nat.reducePow, Int.reducePow, Int.reduceToNat, Nat.reduceAdd, q1, eq_false e18, eq_false e19, eq_false e20, eq_false e178, eq_true e179, decide_true, decide_false]
    first | exact hx | exact ⟨hx, rfl⟩ | exact ⟨hx, by simp⟩
  by_cases e180 : (x.op : Int) = 180
  case pos =>
    rw [show operP x.op x.A x.B p = ([9].any (isI p x.A)) by unfold operP; rw [if_neg (by omega), if_neg (by omega), if_pos (by omega)]]
    have hr : ([9] : List Nat).any (isI p x.A) = decide ((t : Int) = 9) := by simp only [List.any_cons, List.any_nil, Bool.or_false]; rw [hti 9 (by decide)]; rfl
    rw [hr]
    simp (disch := first | omega | assumption) only [C.ref2_operand_gos, T.tv, ↓reduceIte, Nat.reduceEqDiff, reduceCtorEq, Nat.reduceLeDiff, Nat.reducePow, Int.reducePow, Int.reduceToNat, Nat.reduceAdd, q1, eq_false e18, eq_false e19, eq_false e20, eq_false e178, eq_false e179, eq_true e180, decide_true, decide_false]
    first | exact hx | exact ⟨hx, rfl⟩ | exact ⟨hx, by simp⟩
  by_cases e181 : (x.op : Int) = 181
  case pos =>
    rw [show operP x.op x.A x.B p = ([9].any (isI p x.A)) by unfold operP; rw [if_neg (by omega), if_neg (by omega), if_pos (by omega)]]
    have hr : ([9] : List Nat).any (isI p x.A) = decide ((t : Int) = 9) := by simp only [List.any_cons, List.any_nil, Bool.or_false]; rw [hti 9 (by decide)]; rfl
    rw [hr]
    simp (disch := first | omega | assumption) only [C.ref2_operand_gos, T.tv, ↓reduceIte, Nat.reduceEqDiff, reduceCtorEq, Nat.reduceLeDiff, Nat.reducePow, Int.reducePow, Int.reduceToNat, Nat.reduceAdd, q1, eq_false e18, eq_false e19, eq_false e20, eq_false e178, eq_false e179, eq_false e180, eq_true e181, decide_true, decide_false]
    first | exact hx | exact ⟨hx, rfl⟩ | exact ⟨hx, by simp⟩
  by_cases e182 : (x.op : Int) = 182
  case pos =>
    rw [show operP x.op x.A x.B p = ([10].any (isI p x.A) && calledP x.op x.B p (p.getD x.A.toNat Cst.zero).b) by unfold operP; rw [if_neg (by omega), if_neg (by omega), if_neg (by omega), if_pos (by omega)]]
    rw [show ([10] : List Nat).any (isI p x.A) = decide ((t : Int) = 10) from hany 10 (by decide)]
    by_cases tk : (t : Int) = 10
    case neg =>
      rw [decide_eq_false tk]
      simp (disch := first | omega | assumption) only [C.ref2_operand_gos, T.tv, ↓reduceIte, Nat.reduceEqDiff, reduceCtorEq, Nat.reduceLeDiff, Nat.reducePow, Int.reducePow, Int.reduceToNat, Nat.reduceAdd, q1, eq_false e18, eq_false e19, eq_false e20, eq_false e178, eq_false e179, eq_false e180, eq_false e181, eq_true e182, eq_false tk, decide_true, decide_false]
      exact ⟨hx, rfl⟩
    have hA : 0 < x.A ∧ x.A < (p.length : Int) := by
      unfold tagI at ht
      split at ht
      · assumption
      · omega
    rw [decide_eq_true tk]
    simp (disch := first | omega | assumption) only [C.ref2_operand_gos, T.tv, ↓reduceIte, Nat.reduceEqDiff, reduceCtorEq, Nat.reduceLeDiff, Nat.reducePow, Int.reducePow, Int.reduceToNat, Nat.reduceAdd, q1, hldx, eq_false e18, eq_false e19, eq_false e20, eq_false e178, eq_false e179, eq_false e180, eq_false e181, eq_true e182, eq_true tk, decide_true, decide_false]
    refine eff_callF rfl ((rcalled_any (ak := ak) (bk := bk) (nk := nk) (ck := ck) (nb := nb) (cb := cb) (x := x) (by omega) (by omega) hf htx hs).mono ?_)
    rintro v6 h6 ⟨hx6, rfl⟩
    simp (disch := first | omega | assumption) only [C.ref2_operand_gos, T.tv, ↓reduceIte, Nat.reduceEqDiff, reduceCtorEq, Nat.reduceLeDiff, Nat.reducePow, Int.reducePow, Int.reduceToNat, Nat.reduceAdd]
    first | exact hx.trans hx6 | exact ⟨hx.trans hx6, rfl⟩
  by_cases e183 : (x.op : Int) = 183
  case pos =>
    rw [show operP x.op x.A x.B p = ([10].any (isI p x.A) && calledP x.op x.B p (p.getD x.A.toNat Cst.zero).b) by unfold operP; rw [if_neg (by omega), if_neg (by omega), if_neg (by omega), if_pos (by omega)]]
    rw [show ([10] : List Nat).any (isI p x.A) = decide ((t : Int) = 10) from hany 10 (by decide)]
    by_cases tk : (t : Int) = 10
    case neg =>
      rw [decide_eq_false tk]
      simp (disch := first | omega | assumption) only [C.ref2_operand_gos, T.tv, ↓reduceIte, Nat.reduceEqDiff, reduceCtorEq, Nat.reduceLeDiff, Nat.reducePow, Int.reducePow, Int.reduceToNat, Nat.reduceAdd, q1, eq_false e18, eq_false e19, eq_false e20, eq_false e178, eq_false e179, eq_false e180, eq_false e181, eq_false e182, eq_true e183, eq_false tk, decide_true, decide_false]
      exact ⟨hx, rfl⟩
    have hA : 0 < x.A ∧ x.A < (p.length : Int) := by
      unfold tagI at ht
      split at ht
      · assumption
      · omega
    rw [decide_eq_true tk]
    simp (disch := first | omega | assumption) only [C.ref2_operand_gos, T.tv, ↓reduceIte, Nat.reduceEqDiff, reduceCtorEq, Nat.reduceLeDiff, Nat.reducePow, Int.reducePow, Int.reduceToNat, Nat.reduceAdd, q1, hldx, eq_false e18, eq_false e19, eq_false e20, eq_false e178, eq_false e179, eq_false e180, eq_false e181, eq_false e182, eq_true e183, eq_true tk, decide_true, decide_false]
    refine eff_callF rfl ((rcalled_any (ak := ak) (bk := bk) (nk := nk) (ck := ck) (nb := nb) (cb := cb) (x := x) (by omega) (by omega) hf htx hs).mono ?_)
    rintro v6 h6 ⟨hx6, rfl⟩
    simp (disch := first | omega | assumption) only [C.ref2_operand_gos, T.tv, ↓reduceIte, Nat.reduceEqDiff, reduceCtorEq, Nat.reduceLeDiff, Nat.reducePow, Int.reducePow, Int.reduceToNat, Nat.reduceAdd]
    first | exact hx.trans hx6 | exact ⟨hx.trans hx6, rfl⟩
  by_cases e184 : (x.op : Int) = 184
  case pos =>
    rw [show operP x.op x.A x.B p = ([10].any (isI p x.A) && calledP x.op x.B p (p.getD x.A.toNat Cst.zero).b) by unfold operP; rw [if_neg (by omega), if_neg (by omega), if_neg (by omega), if_pos (by omega)]]
    rw [show ([10] : List Nat).any (isI p x.A) = decide ((t : Int) = 10) from hany 10 (by decide)]
    by_cases tk : (t : Int) = 10
    case neg =>
      rw [decide_eq_false tk]
      simp (disch := first | omega | assumption) only [C.ref2_operand_gos, T.tv, ↓reduceIte, Nat.reduceEqDiff, reduceCtorEq, Nat.reduceLeDiff, Nat.reducePow, Int.reducePow, Int.reduceToNat, Nat.reduceAdd, q1, eq_false e18, eq_false e19, eq_false e20, eq_false e178, eq_false e179, eq_false e180, eq_false e181, eq_false e182, eq_false e183, eq_true e184, eq_false tk, decide_true, decide_false]
      exact ⟨hx, rfl⟩
    have hA : 0 < x.A ∧ x.A < (p.length : Int) := by
      unfold tagI at ht
      split at ht
      · assumption
      · omega
    rw [decide_eq_true tk]
    simp (disch := first | omega | assumption) only [C.ref2_operand_gos, T.tv, ↓reduceIte, Nat.reduceEqDiff, reduceCtorEq, Nat.reduceLeDiff, Nat.reducePow, Int.reducePow, Int.reduceToNat, Nat.reduceAdd, q1, hldx, eq_false e18, eq_false e19, eq_false e20, eq_false e178, eq_false e179, eq_false e180, eq_false e181, eq_false e182, eq_false e183, eq_true e184, eq_true tk, decide_true, decide_false]
    refine eff_callF rfl ((rcalled_any (ak := ak) (bk := bk) (nk := nk) (ck := ck) (nb := nb) (cb := cb) (x := x) (by omega) (by omega) hf htx hs).mono ?_)
    rintro v6 h6 ⟨hx6, rfl⟩
    simp (disch := first | omega | assumption) only [C.ref2_operand_gos, T.tv, ↓reduceIte, Nat.reduceEqDiff, reduceCtorEq, Nat.reduceLeDiff, Nat.reducePow, Int.reducePow, Int.reduceToNat, Nat.reduceAdd]
    first | exact hx.trans hx6 | exact ⟨hx.trans hx6, rfl⟩
  by_cases e185 : (x.op : Int) = 185
  case pos =>
    rw [show operP x.op x.A x.B p = ([11].any (isI p x.A) && calledP x.op x.B p (p.getD x.A.toNat Cst.zero).b) by unfold operP; rw [if_neg (by omega), if_neg (by omega), if_neg (by omega), if_neg (by omega), if_pos (by omega)]]
    rw [show ([11] : List Nat).any (isI p x.A) = decide ((t : Int) = 11) from hany 11 (by decide)]
    by_cases tk : (t : Int) = 11
    case neg =>
      rw [decide_eq_false tk]
      simp (disch := first | omega | assumption) only [C.ref2_operand_gos, T.tv, ↓reduceIte, Nat.reduceEqDiff, reduceCtorEq, Nat.reduceLeDiff, Nat.reducePow, Int.reducePow, Int.reduceToNat, Nat.reduceAdd, q1, eq_false e18, eq_false e19, eq_false e20, eq_false e178, eq_false e179, eq_false e180, eq_false e181, eq_false e182, eq_false e183, eq_false e184, eq_true e185, eq_false tk, decide_true, decide_false]
      exact ⟨hx, rfl⟩
    have hA : 0 < x.A ∧ x.A < (p.length : Int) := by
      unfold tagI at ht
      split at ht
      · assumption
      · omega
    rw [decide_eq_true tk]
    simp (disch := first | omega | assumption) only [C.ref2_operand_gos, T.tv, ↓reduceIte, Nat.reduceEqDiff, reduceCtorEq, Nat.reduceLeDiff, Nat.reducePow, Int.reducePow, Int.reduceToNat, Nat.reduceAdd, q1, hldx, eq_false e18, eq_false e19, eq_false e20, eq_false e178, eq_false e179, eq_false e180, eq_false e181, eq_false e182, eq_false e183, eq_false e184, eq_true e185, eq_true tk, decide_true, decide_false]
    refine eff_callF rfl ((rcalled_any (ak := ak) (bk := bk) (nk := nk) (ck := ck) (nb := nb) (cb := cb) (x := x) (by omega) (by omega) hf htx hs).mono ?_)
    rintro v6 h6 ⟨hx6, rfl⟩
    simp (disch := first | omega | assumption) only [C.ref2_operand_gos, T.tv, ↓reduceIte, Nat.reduceEqDiff, reduceCtorEq, Nat.reduceLeDiff, Nat.reducePow, Int.reducePow, Int.reduceToNat, Nat.reduceAdd]
    first | exact hx.trans hx6 | exact ⟨hx.trans hx6, rfl⟩
  by_cases e187 : (x.op : Int) = 187
  case pos =>
    rw [show operP x.op x.A x.B p = ([7].any (isI p x.A) && decide (nbr (nameI p x.A) = 0)) by unfold operP; rw [if_neg (by omega), if_neg (by omega), if_neg (by omega), if_neg (by omega), if_neg (by omega), if_pos (by omega)]]
    rw [show ([7] : List Nat).any (isI p x.A) = decide ((t : Int) = 7) from hany 7 (by decide)]
    by_cases tk : (t : Int) = 7
    case neg =>
      rw [decide_eq_false tk]
      simp (disch := first | omega | assumption) only [C.ref2_operand_gos, T.tv, ↓reduceIte, Nat.reduceEqDiff, reduceCtorEq, Nat.reduceLeDiff, Nat.reducePow, Int.reducePow, Int.reduceToNat, Nat.reduceAdd, q1, eq_false e18, eq_false e19, eq_false e20, eq_false e178, eq_false e179, eq_false e180, eq_false e181, eq_false e182, eq_false e183, eq_false e184, eq_false e185, eq_true e187, eq_false tk, decide_true, decide_false]
      exact ⟨hx, rfl⟩
    have hn : nm = nameI p x.A := hcn (by rw [hti 7 (by decide)]; exact decide_eq_true tk)
    rw [decide_eq_true tk]
    simp (disch := first | omega | assumption) only [C.ref2_operand_gos, T.tv, ↓reduceIte, Nat.reduceEqDiff, reduceCtorEq, Nat.reduceLeDiff, Nat.reducePow, Int.reducePow, Int.reduceToNat, Nat.reduceAdd, q1, q4, eq_false e18, eq_false e19, eq_false e20, eq_false e178, eq_false e179, eq_false e180, eq_false e181, eq_false e182, eq_false e183, eq_false e184, eq_false e185, eq_true e187, eq_true tk, decide_true, decide_false]
    refine eff_callF rfl ((rdims_any nm hnm).mono ?_)
    rintro v6 h6 ⟨rfl, rfl⟩
    have hd : decide (((nbr nm : Nat) : Int) = 0) = decide (nbr (nameI p x.A) = 0) := decide_eq_decide.2 (by rw [← hn] <;> omega)
    rw [Bool.true_and, ← hd]
    simp (disch := first | omega | assumption) only [C.ref2_operand_gos, T.tv, ↓reduceIte, Nat.reduceEqDiff, reduceCtorEq, Nat.reduceLeDiff, Nat.reducePow, Int.reducePow, Int.reduceToNat, Nat.reduceAdd, q4]
    first | exact hx | exact ⟨hx, rfl⟩
  by_cases e189 : (x.op : Int) = 189
  case pos =>
    rw [show operP x.op x.A x.B p = ([7].any (isI p x.A) && decide (nbr (nameI p x.A) < 255)) by unfold operP; rw [if_neg (by omega), if_neg (by omega), if_neg (by omega), if_neg (by omega), if_neg (by omega), if_neg (by omega), if_pos (by omega)]]
    rw [show ([7] : List Nat).any (isI p x.A) = decide ((t : Int) = 7) from hany 7 (by decide)]
    by_cases tk : (t : Int) = 7
    case neg =>
      rw [decide_eq_false tk]
      simp (disch := first | omega | assumption) only [C.ref2_operand_gos, T.tv, ↓reduceIte, Nat.reduceEqDiff, reduceCtorEq, Nat.reduceLeDiff, Nat.reducePow, Int.reducePow, Int.reduceToNat, Nat.reduceAdd, q1, eq_false e18, eq_false e19, eq_false e20, eq_false e178, eq_false e179, eq_false e180, eq_false e181, eq_false e182, eq_false e183, eq_false e184, eq_false e185, eq_false e187, eq_true e189, eq_false tk, decide_true, decide_false]
      exact ⟨hx, rfl⟩
    have hn : nm = nameI p x.A := hcn (by rw [hti 7 (by decide)]; exact decide_eq_true tk)
    rw [decide_eq_true tk]
    simp (disch := first | omega | assumption) only [C.ref2_operand_gos, T.tv, ↓reduceIte, Nat.reduceEqDiff, reduceCtorEq, Nat.reduceLeDiff, Nat.reducePow, Int.reducePow, Int.reduceToNat, Nat.reduceAdd, q1, q4, eq_false e18, eq_false e19, eq_false e20, eq_false e178, eq_false e179, eq_false e180, eq_false e181, eq_false e182, eq_false e183, eq_false e184, eq_false e185, eq_false e187, eq_true e189, eq_true tk, decide_true, decide_false]
    refine eff_callF rfl ((rdims_any nm hnm).mono ?_)
    rintro v6 h6 ⟨rfl, rfl⟩
    have hd : decide (((nbr nm : Nat) : Int) < 255) = decide (nbr (nameI p x.A) < 255) := decide_eq_decide.2 (by rw [← hn] <;> omega)
    rw [Bool.true_and, ← hd]
    simp (disch := first | omega | assumption) only [C.ref2_operand_gos, T.tv, ↓reduceIte, Nat.reduceEqDiff, reduceCtorEq, Nat.reduceLeDiff, Nat.reducePow, Int.reducePow, Int.reduceToNat, Nat.reduceAdd, q4]
    first | exact hx | exact ⟨hx, rfl⟩
  by_cases e192 : (x.op : Int) = 192
  case pos =>
    rw [show operP x.op x.A x.B p = ([7].any (isI p x.A)) by unfold operP; rw [if_neg (by omega), if_neg (by omega), if_neg (by omega), if_neg (by omega), if_neg (by omega), if_neg (by omega), if_neg (by omega), if_pos (by omega)]]
    have hr : ([7] : List Nat).any (isI p x.A) = decide ((t : Int) = 7) := by simp only [List.any_cons, List.any_nil, Bool.or_false]; rw [hti 7 (by decide)]; rfl
    rw [hr]
    simp (disch := first | omega | assumption) only [C.ref2_operand_gos, T.tv, ↓reduceIte, Nat.reduceEqDiff, reduceCtorEq, Nat.reduceLeDiff, Nat.reducePow, Int.reducePow, Int.reduceToNat, Nat.reduceAdd, q1, eq_false e18, eq_false e19, eq_false e20, eq_false e178, eq_false e179, eq_false e180, eq_false e181, eq_false e182, eq_false e183, eq_false e184, eq_false e185, eq_false e187, eq_false e189, eq_true e192, decide_true, decide_false]
    first | exact hx | exact ⟨hx, rfl⟩ | exact ⟨hx, by simp⟩
  by_cases e193 : (x.op : Int) = 193
  case pos =>
    rw [show operP x.op x.A x.B p = ([7].any (isI p x.A)) by unfold operP; rw [if_neg (by omega), if_neg (by omega), if_neg (by omega), if_neg (by omega), if_neg (by omega), if_neg (by omega), if_neg (by omega), if_pos (by omega)]]
    have hr : ([7] : List Nat).any (isI p x.A) = decide ((t : Int) = 7) := by simp only [List.any_cons, List.any_nil, Bool.or_false]; rw [hti 7 (by decide)]; rfl
    rw [hr]
    simp (disch := first | omega | assumption) only [C.ref2_operand_gos, T.tv, ↓reduceIte, Nat.reduceEqDiff, reduceCtorEq, Nat.reduceLeDiff, Nat.reducePow, Int.reducePow, Int.reduceToNat, Nat.reduceAdd, q1, eq_false e18, eq_false e19, eq_false e20, eq_false e178, eq_false e179, eq_false e180, eq_false e181, eq_false e182, eq_false e183, eq_false e184, eq_false e185, eq_false e187, eq_false e189, eq_false e192, eq_true e193, decide_true, decide_false]
    first | exact hx | exact ⟨hx, rfl⟩ | exact ⟨hx, by simp⟩
  by_cases e197 : (x.op : Int) = 197
  case pos =>
    rw [show operP x.op x.A x.B p = ([7].any (isI p x.A) && decide (x.B ≤ (nbr (nameI p x.A) : Int))) by unfold operP; rw [if_neg (by omega), if_neg (by omega), if_neg (by omega), if_neg (by omega), if_neg (by omega), if_neg (by omega), if_neg (by omega), if_neg (by omega), if_pos (by omega)]]
    rw [show ([7] : List Nat).any (isI p x.A) = decide ((t : Int) = 7) from hany 7 (by decide)]
    by_cases tk : (t : Int) = 7
    case neg =>
      rw [decide_eq_false tk]
      simp (disch := first | omega | assumption) only [C.ref2_operand_gos, T.tv, ↓reduceIte, Nat.reduceEqDiff, reduceCtorEq, Nat.reduceLeDiff, Nat.reducePow, Int.reducePow, Int.reduceToNat, Nat.reduceAdd, q1, eq_false e18, eq_false e19, eq_false e20, eq_false e178, eq_false e179, eq_false e180, eq_false e181, eq_false e182, eq_false e183, eq_false e184, eq_false e185, eq_false e187, eq_false e189, eq_false e192, eq_false e193, eq_true e197, eq_false tk, decide_true, decide_false]
      exact ⟨hx, rfl⟩
    have hn : nm = nameI p x.A := hcn (by rw [hti 7 (by decide)]; exact decide_eq_true tk)
    rw [decide_eq_true tk]
    simp (disch := first | omega | assumption) only [C.ref2_operand_gos, T.tv, ↓reduceIte, Nat.reduceEqDiff, reduceCtorEq, Nat.reduceLeDiff, Nat.reducePow, Int.reducePow, Int.reduceToNat, Nat.reduceAdd, q1, q4, eq_false e18, eq_false e19, eq_false e20, eq_false e178, eq_false e179, eq_false e180, eq_false e181, eq_false e182, eq_false e183, eq_false e184, eq_false e185, eq_false e187, eq_false e189, eq_false e192, eq_false e193, eq_true e197, eq_true tk, decide_true, decide_false]
    refine eff_callF rfl ((rdims_any nm hnm).mono ?_)
    rintro v6 h6 ⟨rfl, rfl⟩
    have hd : decide (x.B ≤ ((nbr nm : Nat) : Int)) = decide (x.B ≤ (nbr (nameI p x.A) : Int)) := decide_eq_decide.2 (by rw [← hn] <;> omega)
    rw [Bool.true_and, ← hd]
    simp (disch := first | omega | assumption) only [C.ref2_operand_gos, T.tv, ↓reduceIte, Nat.reduceEqDiff, reduceCtorEq, Nat.reduceLeDiff, Nat.reducePow, Int.reducePow, Int.reduceToNat, Nat.reduceAdd, q4]
    first | exact hx | exact ⟨hx, rfl⟩
  rw [show operP x.op x.A x.B p = true by unfold operP; rw [if_neg (by omega), if_neg (by omega), if_neg (by omega), if_neg (by omega), if_neg (by omega), if_neg (by omega), if_neg (by omega), if_neg (by omega), if_neg (by omega)]]
  simp (disch := first | omega | assumption) only [C.ref2_operand_gos, T.tv, ↓reduceIte, Nat.reduceEqDiff, reduceCtorEq, Nat.reduceLeDiff, Nat.reducePow, Int.reducePow, Int.reduceToNat, Nat.reduceAdd, q1, eq_false e18, eq_false e19, eq_false e20, eq_false e178, eq_false e179, eq_false e180, eq_false e181, eq_false e182, eq_false e183, eq_false e184, eq_false e185, eq_false e187, eq_false e189, eq_false e192, eq_false e193, eq_false e197, decide_true, decide_false]
  exact hx

set_option maxHeartbeats 4000000 in
theorem roperand_any {h : Heap} (hop : x.op < 256) (hf : ∀ c ∈ p, c.Fit) (htx : ∀ c ∈ p, c.text.length ≤ 4294967296) (hs : SlN h 5 vp p.length (flatS p)) :
    HCalls Tryd.prog 12 #[aggX x ak bk nk ck nb cb, vp] h fun v h' => Ext h h' ∧ v = .bool (operP x.op x.A x.B p) := by
  have hs' := hs
  obtain ⟨_, a, c, rfl, _⟩ := hs'
  refine C.ref2_operand_calls (args := [aggX x ak bk nk ck nb cb, .slice a p.length c]) rfl ?_
  simp (disch := first | omega | assumption) only [C.ref2_operand_gos, T.tv, ↓reduceIte, Nat.reduceEqDiff, reduceCtorEq, Nat.reduceLeDiff, Nat.reducePow, Int.reducePow, Int.reduceToNat, Nat.reduceAdd]
  refine eff_box ?_
  have q0 : (h.push (rowX x ak bk nk ck nb cb))[h.size]? = some (rowX x ak bk nk ck nb cb) := by simp
  have E1 := Ext.push h (rowX x ak bk nk ck nb cb)
  simp (disch := first | omega | assumption) only [C.ref2_operand_gos, T.tv, ↓reduceIte, Nat.reduceEqDiff, reduceCtorEq, Nat.reduceLeDiff, Nat.reducePow, Int.reducePow, Int.reduceToNat, Nat.reduceAdd, Nat.zero_add]
  generalize h.push (rowX x ak bk nk ck nb cb) = h1 at *
  generalize h.size = gx at *
  have hs1 := hs.ext (by decide) E1
  have q3 : cellAt h1 ⟨gx, 3, none⟩ = some (.int .i64 x.A) := by rw [cellAt_of q0]; rfl
  by_cases a0 : 0 < x.A
  · by_cases al : x.A < (p.length : Int)
    · have hkl : x.A.toNat < p.length := by omega
      have ht : (p.getD x.A.toNat Cst.zero).tag = tagI p x.A := by unfold tagI; rw [if_pos ⟨a0, al⟩]
      have hft := hf (p.getD x.A.toNat Cst.zero) (by simp [hkl])
      have hs2 := hs1
      obtain ⟨b, o, c', heq, hrd, _⟩ := hs2.at hkl
      cases heq
      rw [flatS_at hkl] at hrd
      generalize p.getD x.A.toNat Cst.zero = y at *
      have r0 : cellAt h1 ⟨b, o + x.A.toNat * 5, none⟩ = some (.int .u8 (y.tag : Int)) := hrd 0 _ rfl
      have a0' : 0 ≤ x.A := by omega
      simp (disch := first | omega | assumption) only [C.ref2_operand_gos, T.tv, ↓reduceIte, Nat.reduceEqDiff, reduceCtorEq, Nat.reduceLeDiff, Nat.reducePow, Int.reducePow, Int.reduceToNat, Nat.reduceAdd, q3, a0, a0', al, r0, decide_true, decide_false]
      exact op_tail y.tag ht hft.tag hop hf htx hs1 E1 q0
    · have ht : 0 = tagI p x.A := by unfold tagI; rw [if_neg (by omega)]
      simp (disch := first | omega | assumption) only [C.ref2_operand_gos, T.tv, ↓reduceIte, Nat.reduceEqDiff, reduceCtorEq, Nat.reduceLeDiff, Nat.reducePow, Int.reducePow, Int.reduceToNat, Nat.reduceAdd, q3, a0, al, decide_true, decide_false]
      exact op_tail 0 ht (by decide) hop hf htx hs1 E1 q0
  · have ht : 0 = tagI p x.A := by unfold tagI; rw [if_neg (by omega)]
    simp (disch := first | omega | assumption) only [C.ref2_operand_gos, T.tv, ↓reduceIte, Nat.reduceEqDiff, reduceCtorEq, Nat.reduceLeDiff, Nat.reducePow, Int.reducePow, Int.reduceToNat, Nat.reduceAdd, q3, a0, decide_true, decide_false]
    exact op_tail 0 ht (by decide) hop hf htx hs1 E1 q0
end
end Go.Proofs.YtgdmoimclelfhaaDoor
