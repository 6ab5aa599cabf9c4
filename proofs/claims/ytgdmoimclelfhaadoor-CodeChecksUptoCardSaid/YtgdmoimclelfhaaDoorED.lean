/- Calls of methods as operands, by the program. No condition. -/
import Derived.Test.YtgdmoimclelfhaaDoorEC
namespace Go.Proofs.YtgdmoimclelfhaaDoor
open Go.Vc
set_option maxRecDepth 100000
set_option linter.unusedSimpArgs false
set_option linter.unusedVariables false
section
variable {x : In} {ak bk : Option Addr} {nk ck nb cb : Nat} {p : List Cst} {vp : Value}
abbrev cstA (c : Cst) : Value := .agg #[.int .u8 (c.tag : Int), str c.text, .int .u64 (c.bits : Int), .int .u16 (c.a : Int), .int .u16 (c.b : Int)]
theorem slotsP_le (ts : List (List UInt8)) : slotsP ts ≤ 2 * ts.length := by
  unfold slotsP
  induction ts with
  | nil => simp
  | cons t r ih => rw [List.map_cons, List.sum_cons, List.length_cons]; have := slotP_le t; omega
theorem slotsP_snoc (ts : List (List UInt8)) (t : List UInt8) : slotsP (ts ++ [t]) = slotsP ts + slotP t := by simp [slotsP]
theorem slotsP_take {ts : List (List UInt8)} (i : Nat) : slotsP (ts.take i) ≤ 2 * ts.length := by
  have := slotsP_le (ts.take i)
  rw [List.length_take] at this; omega

theorem strS_any {h : Heap} (k : Nat) (hk : k < 65536) (hs : SlN h 5 vp p.length (flatS p)) :
    HCalls Tryd.prog 20 #[vp, .int .u16 k] h fun v h' => h' = h ∧ v = str (strS p k) := string_any k hk hs
set_option maxHeartbeats 2000000 in
theorem called_any {h : Heap} (c : Cst) (hcb : c.b < 65536) (hf : ∀ c ∈ p, c.Fit) (htx : ∀ c ∈ p, c.text.length ≤ 4294967296) (hs : SlN h 5 vp p.length (flatS p)) :
    HCalls Tryd.prog 21 #[aggX x ak bk nk ck nb cb, vp, cstA c] h fun v h' => Ext h h' ∧ v = .bool (calledP x.op x.B p c.b) := by
  refine C.code_called_calls (args := [aggX x ak bk nk ck nb cb, vp, cstA c]) rfl ?_
  simp (disch := first | omega | assumption) only [C.code_called_gos, T.tv, ↓reduceIte, Nat.reduceEqDiff, reduceCtorEq, Nat.reduceLeDiff, Nat.reducePow, Int.reducePow, Int.reduceToNat, Nat.reduceAdd]
  refine eff_box ?_
  have q0 : (h.push (rowX x ak bk nk ck nb cb))[h.size]? = some (rowX x ak bk nk ck nb cb) := by simp
  have E1 := Ext.push h (rowX x ak bk nk ck nb cb)
  simp (disch := first | omega | assumption) only [C.code_called_gos, T.tv, ↓reduceIte, Nat.reduceEqDiff, reduceCtorEq, Nat.reduceLeDiff, Nat.reducePow, Int.reducePow, Int.reduceToNat, Nat.reduceAdd, Nat.zero_add]
  generalize h.push (rowX x ak bk nk ck nb cb) = h1 at *
  generalize h.size = q at *
  refine eff_box ?_
  have E2 := Ext.push h1 (.cells #[.int .u8 (c.tag : Int), str c.text, .int .u64 (c.bits : Int), .int .u16 (c.a : Int), .int .u16 (c.b : Int)] 32)
  have q4 : cellAt (h1.push (.cells #[.int .u8 (c.tag : Int), str c.text, .int .u64 (c.bits : Int), .int .u16 (c.a : Int), .int .u16 (c.b : Int)] 32)) ⟨h1.size, 4, none⟩ = some (.int .u16 (c.b : Int)) := by rw [cellAt_push_new]; rfl
  simp (disch := first | omega | assumption) only [C.code_called_gos, T.tv, ↓reduceIte, Nat.reduceEqDiff, reduceCtorEq, Nat.reduceLeDiff, Nat.reducePow, Int.reducePow, Int.reduceToNat, Nat.reduceAdd, Nat.zero_add]
  have q0 := push_blk (o' := .cells #[.int .u8 (c.tag : Int), str c.text, .int .u64 (c.bits : Int), .int .u16 (c.a : Int), .int .u16 (c.b : Int)] 32) q0
  generalize h1.push (.cells #[.int .u8 (c.tag : Int), str c.text, .int .u64 (c.bits : Int), .int .u16 (c.a : Int), .int .u16 (c.b : Int)] 32) = h2 at *
  generalize h1.size = q2 at *
  have hx2 := E1.trans E2
  have q1 : cellAt h2 ⟨q, 1, none⟩ = some (.int .u8 (x.op : Int)) := by rw [cellAt_of q0]; rfl
  have hs2 := hs.ext (by decide) hx2
  generalize c.b = b at *
  simp (disch := first | omega | assumption) only [C.code_called_gos, T.tv, ↓reduceIte, Nat.reduceEqDiff, reduceCtorEq, Nat.reduceLeDiff, Nat.reducePow, Int.reducePow, Int.reduceToNat, Nat.reduceAdd, q4]
  refine eff_callF rfl ((is_any b 12 hcb hs2).mono ?_)
  rintro v3 h3 ⟨rfl, rfl⟩
  unfold calledP
  cases h12 : isS p b 12 with
  | false =>
    simp (disch := first | omega | assumption) only [C.code_called_gos, T.tv, ↓reduceIte, Nat.reduceEqDiff, reduceCtorEq, Nat.reduceLeDiff, Nat.reducePow, Int.reducePow, Int.reduceToNat, Nat.reduceAdd]
    exact ⟨hx2, rfl⟩
  | true =>
    obtain ⟨hb0, hbl⟩ := isS_lt h12
    have hbl' : (b : Int) < (p.length : Int) := by omega
    obtain ⟨bb, oo, cc, rfl, hrd, _⟩ := hs2.at hbl
    rw [flatS_at hbl] at hrd
    have hfx := hf (p.getD b Cst.zero) (by simp [hbl])
    generalize p.getD b Cst.zero = y at *
    have c3 : cellAt h3 ⟨bb, oo + b * 5 + 3, none⟩ = some (.int .u16 (y.a : Int)) := hrd 3 _ rfl
    have c4 : cellAt h3 ⟨bb, oo + b * 5 + 4, none⟩ = some (.int .u16 (y.b : Int)) := hrd 4 _ rfl
    simp (disch := first | omega | assumption) only [C.code_called_gos, T.tv, ↓reduceIte, Nat.reduceEqDiff, reduceCtorEq, Nat.reduceLeDiff, Nat.reducePow, Int.reducePow, Int.reduceToNat, Nat.reduceAdd, q4, hbl', c3, c4]
    refine eff_callF rfl ((strS_any y.a hfx.a hs2).mono ?_)
    rintro v4 h4 ⟨rfl, rfl⟩
    simp (disch := first | omega | assumption) only [C.code_called_gos, T.tv, ↓reduceIte, Nat.reduceEqDiff, reduceCtorEq, Nat.reduceLeDiff, Nat.reducePow, Int.reducePow, Int.reduceToNat, Nat.reduceAdd, q4, hbl', c3, c4]
    refine eff_callF rfl ((strS_any y.b hfx.b hs2).mono ?_)
    rintro v5 h5 ⟨rfl, rfl⟩
    have la := strS_len htx y.a
    have lb := strS_len htx y.b
    generalize strS p y.a = na at *
    generalize strS p y.b = nd at *
    simp (disch := first | omega | assumption) only [C.code_called_gos, T.tv, ↓reduceIte, Nat.reduceEqDiff, reduceCtorEq, Nat.reduceLeDiff, Nat.reducePow, Int.reducePow, Int.reduceToNat, Nat.reduceAdd]
    refine eff_callF rfl ((member_any na true la).mono ?_)
    rintro v6 h6 ⟨hx6, rfl⟩
    have q1' : cellAt h6 ⟨q, 1, none⟩ = some (.int .u8 (x.op : Int)) := by rw [cellAt_of (Fr_blk hx6 q0 _root_.id)]; rfl
    generalize memP na true = kd at *
    by_cases k3 : kd = 3
    · have k3' : (kd : Int) = 3 := by omega
      rw [show (true && (!(decide (kd = 3) || (decide (kd = 2) && decide (x.op ≠ 183))) && ((methP nd).isSome && (decide (x.op ≠ 185) || decide (((1 + slotsP (mT nd) : Nat) : Int) = x.B))))) = false by simp [k3]]
      simp (disch := first | omega | assumption) only [C.code_called_gos, T.tv, ↓reduceIte, Nat.reduceEqDiff, reduceCtorEq, Nat.reduceLeDiff, Nat.reducePow, Int.reducePow, Int.reduceToNat, Nat.reduceAdd, eq_true k3', decide_true, decide_false]
      exact hx2.trans hx6
    have k3' : ¬ (kd : Int) = 3 := by omega
    by_cases k2 : kd = 2 ∧ x.op ≠ 183
    · have k2' : (kd : Int) = 2 := by omega
      have o1 : ¬ (x.op : Int) = 183 := by omega
      rw [show (true && (!(decide (kd = 3) || (decide (kd = 2) && decide (x.op ≠ 183))) && ((methP nd).isSome && (decide (x.op ≠ 185) || decide (((1 + slotsP (mT nd) : Nat) : Int) = x.B))))) = false by simp [k2.1, k2.2]]
      simp (disch := first | omega | assumption) only [C.code_called_gos, T.tv, ↓reduceIte, Nat.reduceEqDiff, reduceCtorEq, Nat.reduceLeDiff, Nat.reducePow, Int.reducePow, Int.reduceToNat, Nat.reduceAdd, eq_false k3', eq_true k2', q1', eq_false o1, decide_true, decide_false]
      exact hx2.trans hx6
    rw [show (true && (!(decide (kd = 3) || (decide (kd = 2) && decide (x.op ≠ 183))) && ((methP nd).isSome && (decide (x.op ≠ 185) || decide (((1 + slotsP (mT nd) : Nat) : Int) = x.B))))) = ((methP nd).isSome && (decide (x.op ≠ 185) || decide (((1 + slotsP (mT nd) : Nat) : Int) = x.B))) by
      have : (decide (kd = 2) && decide (x.op ≠ 183)) = false := by
        rw [Bool.and_eq_false_iff, decide_eq_false_iff_not, decide_eq_false_iff_not]; omega
      rw [this, decide_eq_false k3]; rfl]
    by_cases k2 : kd = 2
    case pos =>
      have k2' : (kd : Int) = 2 := by omega
      have o1 : (x.op : Int) = 183 := by omega
      simp (disch := first | omega | assumption) only [C.code_called_gos, T.tv, ↓reduceIte, Nat.reduceEqDiff, reduceCtorEq, Nat.reduceLeDiff, Nat.reducePow, Int.reducePow, Int.reduceToNat, Nat.reduceAdd, eq_false k3', eq_true k2', q1', eq_true o1, decide_true, decide_false]
      refine eff_callF rfl ((method_any nd lb).mono ?_)
      rintro v7 h7 ⟨hx7, hm⟩
      obtain ⟨sv, rfl, hsv⟩ := MethV_parts hm
      have q7 := Fr_blk (hx6.trans hx7) q0 _root_.id
      have q1'' : cellAt h7 ⟨q, 1, none⟩ = some (.int .u8 (x.op : Int)) := by rw [cellAt_of q7]; rfl
      have hx := (hx2.trans hx6).trans hx7
      have hml := mT_len nd
      generalize mT nd = ts at *
      generalize (methP nd).isSome = ok at *
      by_cases o185 : x.op = 185
      case neg =>
        have o2 : ¬ (x.op : Int) = 185 := by omega
        rw [show (ok && (decide (x.op ≠ 185) || decide (((1 + slotsP ts : Nat) : Int) = x.B))) = ok by simp [o185]]
        simp (disch := first | omega | assumption) only [C.code_called_gos, T.tv, ↓reduceIte, Nat.reduceEqDiff, reduceCtorEq, Nat.reduceLeDiff, Nat.reducePow, Int.reducePow, Int.reduceToNat, Nat.reduceAdd, q1'', eq_false o2, decide_true, decide_false]
        exact hx
      have o2 : (x.op : Int) = 185 := by omega
      rw [show (ok && (decide (x.op ≠ 185) || decide (((1 + slotsP ts : Nat) : Int) = x.B))) = (ok && decide (((1 + slotsP ts : Nat) : Int) = x.B)) by simp [o185]]
      have hsv' := hsv
      obtain ⟨a9, c9, rfl, _⟩ := hsv'
      rw [List.length_map]
      simp (disch := first | omega | assumption) only [C.code_called_gos, T.tv, ↓reduceIte, Nat.reduceEqDiff, reduceCtorEq, Nat.reduceLeDiff, Nat.reducePow, Int.reducePow, Int.reduceToNat, Nat.reduceAdd, q1'', eq_true o2, decide_true, decide_false]
      refine loop_intro [3, 12, 13, 60, 61, 62] (fun m ρ hc => ∃ i : Nat, m = ts.length - i ∧ i ≤ ts.length ∧
        ρ = [(3, .pointer (some ⟨q, 0, none⟩)), (12, .bool ok), (13, .int .i64 ((1 + slotsP (ts.take i) : Nat) : Int)), (60, .slice a9 ts.length c9), (61, .int .i64 (ts.length : Int)), (62, .int .i64 (i : Int))] ∧ hc = h7) ?_ ?_
      case refine_1 =>
        simp (disch := first | omega | assumption) only [C.code_called_gos, T.tv, ↓reduceIte, Nat.reduceEqDiff, reduceCtorEq, Nat.reduceLeDiff, Nat.reducePow, Int.reducePow, Int.reduceToNat, Nat.reduceAdd]
        exact ⟨_, 0, rfl, Nat.zero_le _, rfl⟩
      rintro m ρ hc ⟨i, rfl, hi, rfl, rfl⟩
      by_cases hlt : i < ts.length
      case pos =>
        have hlt' : (i : Int) < (ts.length : Int) := by omega
        obtain ⟨b1, o1, c1', heq1, _, hcell1⟩ := hsv.at (i := i) (by simpa using hlt)
        rw [List.length_map] at heq1
        cases heq1
        have e1 : cellAt hc ⟨b1, o1 + i, none⟩ = some (str (ts.getD i [])) := by rw [hcell1]; simp [hlt]
        have hst : ts.take (i + 1) = ts.take i ++ [ts.getD i []] := by rw [List.take_add_one]; simp [hlt]
        have hsl := slotsP_take (ts := ts) i
        generalize ts.getD i [] = t at *
        have hsp := slotP_le t
        have w1 : IntKind.i64.wrap ((i : Int) + 1) = ((i + 1 : Nat) : Int) := by rw [wrap_i64 (by omega) (by omega)]; omega
        have w2 : IntKind.i64.wrap (((1 + slotsP (ts.take i) : Nat) : Int) + (slotP t : Int)) = ((1 + slotsP (ts.take (i + 1)) : Nat) : Int) := by
          rw [hst, slotsP_snoc, wrap_i64 (by omega) (by omega)]; omega
        simp (disch := first | omega | assumption) only [C.code_called_gos, T.tv, ↓reduceIte, Nat.reduceEqDiff, reduceCtorEq, Nat.reduceLeDiff, Nat.reducePow, Int.reducePow, Int.reduceToNat, Nat.reduceAdd, hlt', e1, decide_true, decide_false]
        refine eff_callF rfl ((slots_any t).mono ?_)
        rintro v9 h9 ⟨rfl, rfl⟩
        simp (disch := first | omega | assumption) only [C.code_called_gos, T.tv, ↓reduceIte, Nat.reduceEqDiff, reduceCtorEq, Nat.reduceLeDiff, Nat.reducePow, Int.reducePow, Int.reduceToNat, Nat.reduceAdd, w1, w2]
        exact ⟨ts.length - (i + 1), by omega, i + 1, rfl, by omega, rfl⟩
      have hlt' : ¬ (i : Int) < (ts.length : Int) := by omega
      rw [List.take_of_length_le (show ts.length ≤ i by omega)]
      have q4'' : cellAt hc ⟨q, 4, none⟩ = some (.int .i64 x.B) := by rw [cellAt_of q7]; rfl
      cases ok with
      | false =>
        simp (disch := first | omega | assumption) only [C.code_called_gos, T.tv, ↓reduceIte, Nat.reduceEqDiff, reduceCtorEq, Nat.reduceLeDiff, Nat.reducePow, Int.reducePow, Int.reduceToNat, Nat.reduceAdd, hlt', decide_true, decide_false]
        exact ⟨hx, rfl⟩
      | true =>
        simp (disch := first | omega | assumption) only [C.code_called_gos, T.tv, ↓reduceIte, Nat.reduceEqDiff, reduceCtorEq, Nat.reduceLeDiff, Nat.reducePow, Int.reducePow, Int.reduceToNat, Nat.reduceAdd, hlt', q4'', decide_true, decide_false]
        exact ⟨hx, rfl⟩
    have k2' : ¬ (kd : Int) = 2 := by omega
    simp (disch := first | omega | assumption) only [C.code_called_gos, T.tv, ↓reduceIte, Nat.reduceEqDiff, reduceCtorEq, Nat.reduceLeDiff, Nat.reducePow, Int.reducePow, Int.reduceToNat, Nat.reduceAdd, eq_false k3', eq_false k2', decide_true, decide_false]
    refine eff_callF rfl ((method_any nd lb).mono ?_)
    rintro v7 h7 ⟨hx7, hm⟩
    obtain ⟨sv, rfl, hsv⟩ := MethV_parts hm
    have q7 := Fr_blk (hx6.trans hx7) q0 _root_.id
    have q1'' : cellAt h7 ⟨q, 1, none⟩ = some (.int .u8 (x.op : Int)) := by rw [cellAt_of q7]; rfl
    have hx := (hx2.trans hx6).trans hx7
    have hml := mT_len nd
    generalize mT nd = ts at *
    generalize (methP nd).isSome = ok at *
    by_cases o185 : x.op = 185
    case neg =>
      have o2 : ¬ (x.op : Int) = 185 := by omega
      rw [show (ok && (decide (x.op ≠ 185) || decide (((1 + slotsP ts : Nat) : Int) = x.B))) = ok by simp [o185]]
      simp (disch := first | omega | assumption) only [C.code_called_gos, T.tv, ↓reduceIte, Nat.reduceEqDiff, reduceCtorEq, Nat.reduceLeDiff, Nat.reducePow, Int.reducePow, Int.reduceToNat, Nat.reduceAdd, q1'', eq_false o2, decide_true, decide_false]
      exact hx
    have o2 : (x.op : Int) = 185 := by omega
    rw [show (ok && (decide (x.op ≠ 185) || decide (((1 + slotsP ts : Nat) : Int) = x.B))) = (ok && decide (((1 + slotsP ts : Nat) : Int) = x.B)) by simp [o185]]
    have hsv' := hsv
    obtain ⟨a9, c9, rfl, _⟩ := hsv'
    rw [List.length_map]
    simp (disch := first | omega | assumption) only [C.code_called_gos, T.tv, ↓reduceIte, Nat.reduceEqDiff, reduceCtorEq, Nat.reduceLeDiff, Nat.reducePow, Int.reducePow, Int.reduceToNat, Nat.reduceAdd, q1'', eq_true o2, decide_true, decide_false]
    refine loop_intro [3, 12, 13, 60, 61, 62] (fun m ρ hc => ∃ i : Nat, m = ts.length - i ∧ i ≤ ts.length ∧
      ρ = [(3, .pointer (some ⟨q, 0, none⟩)), (12, .bool ok), (13, .int .i64 ((1 + slotsP (ts.take i) : Nat) : Int)), (60, .slice a9 ts.length c9), (61, .int .i64 (ts.length : Int)), (62, .int .i64 (i : Int))] ∧ hc = h7) ?_ ?_
    case refine_1 =>
      simp (disch := first | omega | assumption) only [C.code_called_gos, T.tv, ↓reduceIte, Nat.reduceEqDiff, reduceCtorEq, Nat.reduceLeDiff, Nat.reducePow, Int.reducePow, Int.reduceToNat, Nat.reduceAdd]
      exact ⟨_, 0, rfl, Nat.zero_le _, rfl⟩
    rintro m ρ hc ⟨i, rfl, hi, rfl, rfl⟩
    by_cases hlt : i < ts.length
    case pos =>
      have hlt' : (i : Int) < (ts.length : Int) := by omega
      obtain ⟨b1, o1, c1', heq1, _, hcell1⟩ := hsv.at (i := i) (by simpa using hlt)
      rw [List.length_map] at heq1
      cases heq1
      have e1 : cellAt hc ⟨b1, o1 + i, none⟩ = some (str (ts.getD i [])) := by rw [hcell1]; simp [hlt]
      have hst : ts.take (i + 1) = ts.take i ++ [ts.getD i []] := by rw [List.take_add_one]; simp [hlt]
      have hsl := slotsP_take (ts := ts) i
      generalize ts.getD i [] = t at *
      have hsp := slotP_le t
      have w1 : IntKind.i64.wrap ((i : Int) + 1) = ((i + 1 : Nat) : Int) := by rw [wrap_i64 (by omega) (by omega)]; omega
      have w2 : IntKind.i64.wrap (((1 + slotsP (ts.take i) : Nat) : Int) + (slotP t : Int)) = ((1 + slotsP (ts.take (i + 1)) : Nat) : Int) := by
        rw [hst, slotsP_snoc, wrap_i64 (by omega) (by omega)]; omega
      simp (disch := first | omega | assumption) only [C.code_called_gos, T.tv, ↓reduceIte, Nat.reduceEqDiff, reduceCtorEq, Nat.reduceLeDiff, Nat.reducePow, Int.reducePow, Int.reduceToNat, Nat.reduceAdd, hlt', e1, decide_true, decide_false]
      refine eff_callF rfl ((slots_any t).mono ?_)
      rintro v9 h9 ⟨rfl, rfl⟩
      simp (disch := first | omega | assumption) only [C.code_called_gos, T.tv, ↓reduceIte, Nat.reduceEqDiff, reduceCtorEq, Nat.reduceLeDiff, Nat.reducePow, Int.reducePow, Int.reduceToNat, Nat.reduceAdd, w1, w2]
      exact ⟨ts.length - (i + 1), by omega, i + 1, rfl, by omega, rfl⟩
    have hlt' : ¬ (i : Int) < (ts.length : Int) := by omega
    rw [List.take_of_length_le (show ts.length ≤ i by omega)]
    have q4'' : cellAt hc ⟨q, 4, none⟩ = some (.int .i64 x.B) := by rw [cellAt_of q7]; rfl
    cases ok with
    | false =>
      simp (disch := first | omega | assumption) only [C.code_called_gos, T.tv, ↓reduceIte, Nat.reduceEqDiff, reduceCtorEq, Nat.reduceLeDiff, Nat.reducePow, Int.reducePow, Int.reduceToNat, Nat.reduceAdd, hlt', decide_true, decide_false]
      exact ⟨hx, rfl⟩
    | true =>
      simp (disch := first | omega | assumption) only [C.code_called_gos, T.tv, ↓reduceIte, Nat.reduceEqDiff, reduceCtorEq, Nat.reduceLeDiff, Nat.reducePow, Int.reducePow, Int.reduceToNat, Nat.reduceAdd, hlt', q4'', decide_true, decide_false]
      exact ⟨hx, rfl⟩
end
end Go.Proofs.YtgdmoimclelfhaaDoor
