/- Room for locals, by the program and by the reference. No condition. -/
import Derived.Test.YtgdmoimclelfhaaDoorEA
namespace Go.Proofs.YtgdmoimclelfhaaDoor
open Go.Vc
set_option maxRecDepth 100000
set_option linter.unusedSimpArgs false
set_option linter.unusedVariables false
section
variable {x : In} {ak bk : Option Addr} {nk ck nb cb : Nat}
theorem lclP_lo {op : Nat} (A : Int) (h : hasP op = false) : lclP op A = -1 := by
  have h' : ¬ ((21 ≤ op ∧ op ≤ 45) ∨ (54 ≤ op ∧ op ≤ 78) ∨ op = 132) := of_decide_eq_false h
  unfold lclP
  rw [if_neg (by omega), if_neg (by omega), if_neg (by omega)]
set_option maxHeartbeats 8000000 in
theorem room_any (hop : x.op < 256) (L : Int) (h : Heap) (hL : L < 9223372036854775808) : HCalls Tryd.prog 9 #[aggX x ak bk nk ck nb cb, .int .i64 L] h fun v h' => Ext h h' ∧ v = .bool (roomP x.op x.A L) := by
  refine C.code_room_calls (args := [aggX x ak bk nk ck nb cb, .int .i64 L]) rfl ?_
  simp (disch := first | omega | assumption) only [C.code_room_gos, T.tv, ↓reduceIte, Nat.reduceEqDiff, reduceCtorEq, Nat.reduceLeDiff, Nat.reducePow, Int.reducePow, Int.reduceToNat, Nat.reduceAdd]
  refine eff_box ?_
  have E := Ext.push h (rowX x ak bk nk ck nb cb)
  have q0 : (h.push (rowX x ak bk nk ck nb cb))[h.size]? = some (rowX x ak bk nk ck nb cb) := by simp
  have q1 : cellAt (h.push (rowX x ak bk nk ck nb cb)) ⟨h.size, 1, none⟩ = some (.int .u8 (x.op : Int)) := by rw [cellAt_push_new]; rfl
  simp (disch := first | omega | assumption) only [C.code_room_gos, T.tv, ↓reduceIte, Nat.reduceEqDiff, reduceCtorEq, Nat.reduceLeDiff, Nat.reducePow, Int.reducePow, Int.reduceToNat, Nat.reduceAdd, Nat.zero_add]
  generalize h.push (rowX x ak bk nk ck nb cb) = h1 at *
  generalize h.size = q at *
  simp (disch := first | omega | assumption) only [C.code_room_gos, T.tv, ↓reduceIte, Nat.reduceEqDiff, reduceCtorEq, Nat.reduceLeDiff, Nat.reducePow, Int.reducePow, Int.reduceToNat, Nat.reduceAdd, q1]
  refine eff_callF rfl ((form_any x.op hop h1).mono ?_)
  rintro v2 h2 ⟨rfl, rfl⟩
  have hf := formS_loc x.op hop
  have hld := ld_agg T.ag_37 (Rd_block (vs := [.int .i64 x.at', .int .u8 (x.op : Int), .bool x.wide, .int .i64 x.A, .int .i64 x.B, .int .i64 x.low, .slice ak nk ck, .slice bk nb cb]) q0) rfl
  generalize hn : lclP x.op x.A = n at *
  cases hh : hasP x.op with
  | false =>
    have h' : ¬ ((21 ≤ x.op ∧ x.op ≤ 45) ∨ (54 ≤ x.op ∧ x.op ≤ 78) ∨ x.op = 132) := of_decide_eq_false hh
    have f6' : ¬ ((formS x.op : Nat) : Int) = 6 := by omega
    have f7' : ¬ ((formS x.op : Nat) : Int) = 7 := by omega
    rw [show roomP x.op x.A L = true by unfold roomP; rw [hh]; rfl]
    by_cases d1 : x.op < 26
    · have g1 : (x.op : Int) < 26 := by omega
      have g2 : (x.op : Int) < 59 := by omega
      simp (disch := first | omega | assumption) only [C.code_room_gos, T.tv, ↓reduceIte, Nat.reduceEqDiff, reduceCtorEq, Nat.reduceLeDiff, Nat.reducePow, Int.reducePow, Int.reduceToNat, Nat.reduceAdd, q1, eq_false f6', eq_false f7', g1, g2, decide_true, decide_false]
      exact E
    by_cases d2 : x.op < 59
    · have g1 : ¬ (x.op : Int) < 26 := by omega
      have g3 : (45 : Int) < (x.op : Int) := by omega
      have g2 : (x.op : Int) < 59 := by omega
      simp (disch := first | omega | assumption) only [C.code_room_gos, T.tv, ↓reduceIte, Nat.reduceEqDiff, reduceCtorEq, Nat.reduceLeDiff, Nat.reducePow, Int.reducePow, Int.reduceToNat, Nat.reduceAdd, q1, eq_false f6', eq_false f7', g1, g2, g3, decide_true, decide_false]
      exact E
    · have g1 : ¬ (x.op : Int) < 26 := by omega
      have g3 : (45 : Int) < (x.op : Int) := by omega
      have g2 : ¬ (x.op : Int) < 59 := by omega
      have g4 : (78 : Int) < (x.op : Int) := by omega
      simp (disch := first | omega | assumption) only [C.code_room_gos, T.tv, ↓reduceIte, Nat.reduceEqDiff, reduceCtorEq, Nat.reduceLeDiff, Nat.reducePow, Int.reducePow, Int.reduceToNat, Nat.reduceAdd, q1, eq_false f6', eq_false f7', g1, g2, g3, g4, decide_true, decide_false]
      exact E
  | true =>
    have h' : (21 ≤ x.op ∧ x.op ≤ 45) ∨ (54 ≤ x.op ∧ x.op ≤ 78) ∨ x.op = 132 := of_decide_eq_true hh
    rw [show roomP x.op x.A L = (decide (0 ≤ n) && decide (n < L) && (!twoP x.op || decide (n + 1 < L))) by unfold roomP; rw [hh, hn]; rfl]
    by_cases f6 : formS x.op = 6
    case pos =>
      have f6' : ((formS x.op : Nat) : Int) = 6 := by omega
      simp (disch := first | omega | assumption) only [C.code_room_gos, T.tv, ↓reduceIte, Nat.reduceEqDiff, reduceCtorEq, Nat.reduceLeDiff, Nat.reducePow, Int.reducePow, Int.reduceToNat, Nat.reduceAdd, q1, hld, eq_true f6', decide_true, decide_false]
      refine eff_callF rfl ((local_any hop h2).mono ?_)
      rintro v3 h3 ⟨hx3, rfl⟩
      have q1' : cellAt h3 ⟨q, 1, none⟩ = some (.int .u8 (x.op : Int)) := by rw [cellAt_of (Fr_blk hx3 q0 _root_.id)]; rfl
      rw [hn]
      by_cases n0 : 0 ≤ n
      case neg =>
        rw [show decide (0 ≤ n) = false from decide_eq_false n0]
        simp (disch := first | omega | assumption) only [C.code_room_gos, T.tv, ↓reduceIte, Nat.reduceEqDiff, reduceCtorEq, Nat.reduceLeDiff, Nat.reducePow, Int.reducePow, Int.reduceToNat, Nat.reduceAdd, q1', n0, decide_true, decide_false]
        exact ⟨E.trans hx3, by simp⟩
      by_cases nL : n < L
      case neg =>
        rw [show decide (n < L) = false from decide_eq_false nL]
        simp (disch := first | omega | assumption) only [C.code_room_gos, T.tv, ↓reduceIte, Nat.reduceEqDiff, reduceCtorEq, Nat.reduceLeDiff, Nat.reducePow, Int.reducePow, Int.reduceToNat, Nat.reduceAdd, q1', n0, nL, decide_true, decide_false]
        exact ⟨E.trans hx3, by simp⟩
      rw [show decide (0 ≤ n) = true from decide_eq_true n0, show decide (n < L) = true from decide_eq_true nL]
      simp (disch := first | omega | assumption) only [C.code_room_gos, T.tv, ↓reduceIte, Nat.reduceEqDiff, reduceCtorEq, Nat.reduceLeDiff, Nat.reducePow, Int.reducePow, Int.reduceToNat, Nat.reduceAdd, q1', n0, nL, decide_true, decide_false]
      refine eff_callF rfl ((wideLocal_any x.op hop h3).mono ?_)
      rintro v4 h4 ⟨rfl, rfl⟩
      have wl : IntKind.i64.wrap (L - 1) = L - 1 := wrap_i64 (by omega) (by omega)
      have el : decide (n < L - 1) = decide (n + 1 < L) := decide_eq_decide.2 (by omega)
      cases htw : twoP x.op with
      | false =>
        simp (disch := first | omega | assumption) only [C.code_room_gos, T.tv, ↓reduceIte, Nat.reduceEqDiff, reduceCtorEq, Nat.reduceLeDiff, Nat.reducePow, Int.reducePow, Int.reduceToNat, Nat.reduceAdd, q1', decide_true, decide_false]
        exact ⟨E.trans hx3, by simp⟩
      | true =>
        simp (disch := first | omega | assumption) only [C.code_room_gos, T.tv, ↓reduceIte, Nat.reduceEqDiff, reduceCtorEq, Nat.reduceLeDiff, Nat.reducePow, Int.reducePow, Int.reduceToNat, Nat.reduceAdd, q1', wl, el, decide_true, decide_false]
        exact ⟨E.trans hx3, by simp⟩
    have f6' : ¬ ((formS x.op : Nat) : Int) = 6 := by omega
    by_cases f7 : formS x.op = 7
    case pos =>
      have f7' : ((formS x.op : Nat) : Int) = 7 := by omega
      simp (disch := first | omega | assumption) only [C.code_room_gos, T.tv, ↓reduceIte, Nat.reduceEqDiff, reduceCtorEq, Nat.reduceLeDiff, Nat.reducePow, Int.reducePow, Int.reduceToNat, Nat.reduceAdd, q1, hld, eq_false f6', eq_true f7', decide_true, decide_false]
      refine eff_callF rfl ((local_any hop h2).mono ?_)
      rintro v3 h3 ⟨hx3, rfl⟩
      have q1' : cellAt h3 ⟨q, 1, none⟩ = some (.int .u8 (x.op : Int)) := by rw [cellAt_of (Fr_blk hx3 q0 _root_.id)]; rfl
      rw [hn]
      by_cases n0 : 0 ≤ n
      case neg =>
        rw [show decide (0 ≤ n) = false from decide_eq_false n0]
        simp (disch := first | omega | assumption) only [C.code_room_gos, T.tv, ↓reduceIte, Nat.reduceEqDiff, reduceCtorEq, Nat.reduceLeDiff, Nat.reducePow, Int.reducePow, Int.reduceToNat, Nat.reduceAdd, q1', n0, decide_true, decide_false]
        exact ⟨E.trans hx3, by simp⟩
      by_cases nL : n < L
      case neg =>
        rw [show decide (n < L) = false from decide_eq_false nL]
        simp (disch := first | omega | assumption) only [C.code_room_gos, T.tv, ↓reduceIte, Nat.reduceEqDiff, reduceCtorEq, Nat.reduceLeDiff, Nat.reducePow, Int.reducePow, Int.reduceToNat, Nat.reduceAdd, q1', n0, nL, decide_true, decide_false]
        exact ⟨E.trans hx3, by simp⟩
      rw [show decide (0 ≤ n) = true from decide_eq_true n0, show decide (n < L) = true from decide_eq_true nL]
      simp (disch := first | omega | assumption) only [C.code_room_gos, T.tv, ↓reduceIte, Nat.reduceEqDiff, reduceCtorEq, Nat.reduceLeDiff, Nat.reducePow, Int.reducePow, Int.reduceToNat, Nat.reduceAdd, q1', n0, nL, decide_true, decide_false]
      refine eff_callF rfl ((wideLocal_any x.op hop h3).mono ?_)
      rintro v4 h4 ⟨rfl, rfl⟩
      have wl : IntKind.i64.wrap (L - 1) = L - 1 := wrap_i64 (by omega) (by omega)
      have el : decide (n < L - 1) = decide (n + 1 < L) := decide_eq_decide.2 (by omega)
      cases htw : twoP x.op with
      | false =>
        simp (disch := first | omega | assumption) only [C.code_room_gos, T.tv, ↓reduceIte, Nat.reduceEqDiff, reduceCtorEq, Nat.reduceLeDiff, Nat.reducePow, Int.reducePow, Int.reduceToNat, Nat.reduceAdd, q1', decide_true, decide_false]
        exact ⟨E.trans hx3, by simp⟩
      | true =>
        simp (disch := first | omega | assumption) only [C.code_room_gos, T.tv, ↓reduceIte, Nat.reduceEqDiff, reduceCtorEq, Nat.reduceLeDiff, Nat.reducePow, Int.reducePow, Int.reduceToNat, Nat.reduceAdd, q1', wl, el, decide_true, decide_false]
        exact ⟨E.trans hx3, by simp⟩
    have f7' : ¬ ((formS x.op : Nat) : Int) = 7 := by omega
    have g1 : ¬ (x.op : Int) < 26 := by omega
    by_cases d1 : x.op ≤ 45
    case pos =>
      have g2 : ¬ (45 : Int) < (x.op : Int) := by omega
      simp (disch := first | omega | assumption) only [C.code_room_gos, T.tv, ↓reduceIte, Nat.reduceEqDiff, reduceCtorEq, Nat.reduceLeDiff, Nat.reducePow, Int.reducePow, Int.reduceToNat, Nat.reduceAdd, q1, hld, eq_false f6', eq_false f7', g1, g2, decide_true, decide_false]
      refine eff_callF rfl ((local_any hop h2).mono ?_)
      rintro v3 h3 ⟨hx3, rfl⟩
      have q1' : cellAt h3 ⟨q, 1, none⟩ = some (.int .u8 (x.op : Int)) := by rw [cellAt_of (Fr_blk hx3 q0 _root_.id)]; rfl
      rw [hn]
      by_cases n0 : 0 ≤ n
      case neg =>
        rw [show decide (0 ≤ n) = false from decide_eq_false n0]
        simp (disch := first | omega | assumption) only [C.code_room_gos, T.tv, ↓reduceIte, Nat.reduceEqDiff, reduceCtorEq, Nat.reduceLeDiff, Nat.reducePow, Int.reducePow, Int.reduceToNat, Nat.reduceAdd, q1', n0, decide_true, decide_false]
        exact ⟨E.trans hx3, by simp⟩
      by_cases nL : n < L
      case neg =>
        rw [show decide (n < L) = false from decide_eq_false nL]
        simp (disch := first | omega | assumption) only [C.code_room_gos, T.tv, ↓reduceIte, Nat.reduceEqDiff, reduceCtorEq, Nat.reduceLeDiff, Nat.reducePow, Int.reducePow, Int.reduceToNat, Nat.reduceAdd, q1', n0, nL, decide_true, decide_false]
        exact ⟨E.trans hx3, by simp⟩
      rw [show decide (0 ≤ n) = true from decide_eq_true n0, show decide (n < L) = true from decide_eq_true nL]
      simp (disch := first | omega | assumption) only [C.code_room_gos, T.tv, ↓reduceIte, Nat.reduceEqDiff, reduceCtorEq, Nat.reduceLeDiff, Nat.reducePow, Int.reducePow, Int.reduceToNat, Nat.reduceAdd, q1', n0, nL, decide_true, decide_false]
      refine eff_callF rfl ((wideLocal_any x.op hop h3).mono ?_)
      rintro v4 h4 ⟨rfl, rfl⟩
      have wl : IntKind.i64.wrap (L - 1) = L - 1 := wrap_i64 (by omega) (by omega)
      have el : decide (n < L - 1) = decide (n + 1 < L) := decide_eq_decide.2 (by omega)
      cases htw : twoP x.op with
      | false =>
        simp (disch := first | omega | assumption) only [C.code_room_gos, T.tv, ↓reduceIte, Nat.reduceEqDiff, reduceCtorEq, Nat.reduceLeDiff, Nat.reducePow, Int.reducePow, Int.reduceToNat, Nat.reduceAdd, q1', decide_true, decide_false]
        exact ⟨E.trans hx3, by simp⟩
      | true =>
        simp (disch := first | omega | assumption) only [C.code_room_gos, T.tv, ↓reduceIte, Nat.reduceEqDiff, reduceCtorEq, Nat.reduceLeDiff, Nat.reducePow, Int.reducePow, Int.reduceToNat, Nat.reduceAdd, q1', wl, el, decide_true, decide_false]
        exact ⟨E.trans hx3, by simp⟩
    have g2 : (45 : Int) < (x.op : Int) := by omega
    have g3 : ¬ (x.op : Int) < 59 := by omega
    have g4 : ¬ (78 : Int) < (x.op : Int) := by omega
    simp (disch := first | omega | assumption) only [C.code_room_gos, T.tv, ↓reduceIte, Nat.reduceEqDiff, reduceCtorEq, Nat.reduceLeDiff, Nat.reducePow, Int.reducePow, Int.reduceToNat, Nat.reduceAdd, q1, hld, eq_false f6', eq_false f7', g1, g2, g3, g4, decide_true, decide_false]
    refine eff_callF rfl ((local_any hop h2).mono ?_)
    rintro v3 h3 ⟨hx3, rfl⟩
    have q1' : cellAt h3 ⟨q, 1, none⟩ = some (.int .u8 (x.op : Int)) := by rw [cellAt_of (Fr_blk hx3 q0 _root_.id)]; rfl
    rw [hn]
    by_cases n0 : 0 ≤ n
    case neg =>
      rw [show decide (0 ≤ n) = false from decide_eq_false n0]
      simp (disch := first | omega | assumption) only [C.code_room_gos, T.tv, ↓reduceIte, Nat.reduceEqDiff, reduceCtorEq, Nat.reduceLeDiff, Nat.reducePow, Int.reducePow, Int.reduceToNat, Nat.reduceAdd, q1', n0, decide_true, decide_false]
      exact ⟨E.trans hx3, by simp⟩
    by_cases nL : n < L
    case neg =>
      rw [show decide (n < L) = false from decide_eq_false nL]
      simp (disch := first | omega | assumption) only [C.code_room_gos, T.tv, ↓reduceIte, Nat.reduceEqDiff, reduceCtorEq, Nat.reduceLeDiff, Nat.reducePow, Int.reducePow, Int.reduceToNat, Nat.reduceAdd, q1', n0, nL, decide_true, decide_false]
      exact ⟨E.trans hx3, by simp⟩
    rw [show decide (0 ≤ n) = true from decide_eq_true n0, show decide (n < L) = true from decide_eq_true nL]
    simp (disch := first | omega | assumption) only [C.code_room_gos, T.tv, ↓reduceIte, Nat.reduceEqDiff, reduceCtorEq, Nat.reduceLeDiff, Nat.reducePow, Int.reducePow, Int.reduceToNat, Nat.reduceAdd, q1', n0, nL, decide_true, decide_false]
    refine eff_callF rfl ((wideLocal_any x.op hop h3).mono ?_)
    rintro v4 h4 ⟨rfl, rfl⟩
    have wl : IntKind.i64.wrap (L - 1) = L - 1 := wrap_i64 (by omega) (by omega)
    have el : decide (n < L - 1) = decide (n + 1 < L) := decide_eq_decide.2 (by omega)
    cases htw : twoP x.op with
    | false =>
      simp (disch := first | omega | assumption) only [C.code_room_gos, T.tv, ↓reduceIte, Nat.reduceEqDiff, reduceCtorEq, Nat.reduceLeDiff, Nat.reducePow, Int.reducePow, Int.reduceToNat, Nat.reduceAdd, q1', decide_true, decide_false]
      exact ⟨E.trans hx3, by simp⟩
    | true =>
      simp (disch := first | omega | assumption) only [C.code_room_gos, T.tv, ↓reduceIte, Nat.reduceEqDiff, reduceCtorEq, Nat.reduceLeDiff, Nat.reducePow, Int.reducePow, Int.reduceToNat, Nat.reduceAdd, q1', wl, el, decide_true, decide_false]
      exact ⟨E.trans hx3, by simp⟩

/-! ### The reference -/
set_option maxHeartbeats 16000000 in
theorem rlocal_any (hop : x.op < 256) (h : Heap) : HCalls Tryd.prog 24 #[aggX x ak bk nk ck nb cb] h fun v h' => Ext h h' ∧ v = .tuple #[.int .i64 (lclP x.op x.A), .bool (twoP x.op)] := by
  refine C.ref2_Local_calls (args := [aggX x ak bk nk ck nb cb]) rfl ?_
  simp (disch := first | omega | assumption) only [C.ref2_Local_gos, T.tv, ↓reduceIte, Nat.reduceEqDiff, reduceCtorEq, Nat.reduceLeDiff, Nat.reducePow, Int.reducePow, Int.reduceToNat, Nat.reduceAdd]
  refine eff_box ?_
  have E := Ext.push h (rowX x ak bk nk ck nb cb)
  have q1 : cellAt (h.push (rowX x ak bk nk ck nb cb)) ⟨h.size, 1, none⟩ = some (.int .u8 (x.op : Int)) := by rw [cellAt_push_new]; rfl
  have q3 : cellAt (h.push (rowX x ak bk nk ck nb cb)) ⟨h.size, 3, none⟩ = some (.int .i64 x.A) := by rw [cellAt_push_new]; rfl
  have w0 : IntKind.i64.wrap (x.op : Int) = (x.op : Int) := wrap_i64 (by omega) (by omega)
  simp (disch := first | omega | assumption) only [C.ref2_Local_gos, T.tv, ↓reduceIte, Nat.reduceEqDiff, reduceCtorEq, Nat.reduceLeDiff, Nat.reducePow, Int.reducePow, Int.reduceToNat, Nat.reduceAdd, Nat.zero_add]
  generalize h.push (rowX x ak bk nk ck nb cb) = h1 at *
  generalize h.size = q at *
  generalize x.A = vA at *
  generalize x.op = op at *
  by_cases p0 : op ≤ 20
  case pos =>
    have e22 : ¬ (op : Int) = 22 := by omega
    have e24 : ¬ (op : Int) = 24 := by omega
    have e55 : ¬ (op : Int) = 55 := by omega
    have e57 : ¬ (op : Int) = 57 := by omega
    have e132 : ¬ (op : Int) = 132 := by omega
    have c0 : ¬ (21 : Int) ≤ (op : Int) := by omega
    have c1 : (op : Int) ≤ 25 := by omega
    have c2 : ¬ (54 : Int) ≤ (op : Int) := by omega
    have c3 : (op : Int) ≤ 58 := by omega
    have c4 : ¬ (26 : Int) ≤ (op : Int) := by omega
    have c5 : (op : Int) ≤ 45 := by omega
    have c6 : ¬ (59 : Int) ≤ (op : Int) := by omega
    have c7 : (op : Int) ≤ 78 := by omega
    have ht : twoP op = false := decide_eq_false (by omega)
    have hr : lclP op vA = -1 := by unfold lclP; rw [if_neg (by omega), if_neg (by omega), if_neg (by omega)]
    rw [hr, ht]
    simp (disch := first | omega | assumption) only [C.ref2_Local_gos, T.tv, ↓reduceIte, Nat.reduceEqDiff, reduceCtorEq, Nat.reduceLeDiff, Nat.reducePow, Int.reducePow, Int.reduceToNat, Nat.reduceAdd, q1, q3, w0, eq_false e22, eq_false e24, eq_false e55, eq_false e57, eq_false e132, c0, c1, c2, c3, c4, c5, c6, c7, decide_true, decide_false]
    exact E
  by_cases p1 : op ≤ 21
  case pos =>
    have e22 : ¬ (op : Int) = 22 := by omega
    have e24 : ¬ (op : Int) = 24 := by omega
    have e55 : ¬ (op : Int) = 55 := by omega
    have e57 : ¬ (op : Int) = 57 := by omega
    have e132 : ¬ (op : Int) = 132 := by omega
    have c0 : (21 : Int) ≤ (op : Int) := by omega
    have c1 : (op : Int) ≤ 25 := by omega
    have c2 : ¬ (54 : Int) ≤ (op : Int) := by omega
    have c3 : (op : Int) ≤ 58 := by omega
    have c4 : ¬ (26 : Int) ≤ (op : Int) := by omega
    have c5 : (op : Int) ≤ 45 := by omega
    have c6 : ¬ (59 : Int) ≤ (op : Int) := by omega
    have c7 : (op : Int) ≤ 78 := by omega
    have ht : twoP op = false := decide_eq_false (by omega)
    have hr : lclP op vA = vA := if_pos (by omega)
    rw [hr, ht]
    simp (disch := first | omega | assumption) only [C.ref2_Local_gos, T.tv, ↓reduceIte, Nat.reduceEqDiff, reduceCtorEq, Nat.reduceLeDiff, Nat.reducePow, Int.reducePow, Int.reduceToNat, Nat.reduceAdd, q1, q3, w0, eq_false e22, eq_false e24, eq_false e55, eq_false e57, eq_false e132, c0, c1, c2, c3, c4, c5, c6, c7, decide_true, decide_false]
    exact E
  by_cases p2 : op ≤ 22
  case pos =>
    have e22 : (op : Int) = 22 := by omega
    have e24 : ¬ (op : Int) = 24 := by omega
    have e55 : ¬ (op : Int) = 55 := by omega
    have e57 : ¬ (op : Int) = 57 := by omega
    have e132 : ¬ (op : Int) = 132 := by omega
    have c0 : (21 : Int) ≤ (op : Int) := by omega
    have c1 : (op : Int) ≤ 25 := by omega
    have c2 : ¬ (54 : Int) ≤ (op : Int) := by omega
    have c3 : (op : Int) ≤ 58 := by omega
    have c4 : ¬ (26 : Int) ≤ (op : Int) := by omega
    have c5 : (op : Int) ≤ 45 := by omega
    have c6 : ¬ (59 : Int) ≤ (op : Int) := by omega
    have c7 : (op : Int) ≤ 78 := by omega
    have ht : twoP op = true := decide_eq_true (by omega)
    have hr : lclP op vA = vA := if_pos (by omega)
    rw [hr, ht]
    simp (disch := first | omega | assumption) only [C.ref2_Local_gos, T.tv, ↓reduceIte, Nat.reduceEqDiff, reduceCtorEq, Nat.reduceLeDiff, Nat.reducePow, Int.reducePow, Int.reduceToNat, Nat.reduceAdd, q1, q3, w0, eq_true e22, eq_false e24, eq_false e55, eq_false e57, eq_false e132, c0, c1, c2, c3, c4, c5, c6, c7, decide_true, decide_false]
    exact E
  by_cases p3 : op ≤ 23
  case pos =>
    have e22 : ¬ (op : Int) = 22 := by omega
    have e24 : ¬ (op : Int) = 24 := by omega
    have e55 : ¬ (op : Int) = 55 := by omega
    have e57 : ¬ (op : Int) = 57 := by omega
    have e132 : ¬ (op : Int) = 132 := by omega
    have c0 : (21 : Int) ≤ (op : Int) := by omega
    have c1 : (op : Int) ≤ 25 := by omega
    have c2 : ¬ (54 : Int) ≤ (op : Int) := by omega
    have c3 : (op : Int) ≤ 58 := by omega
    have c4 : ¬ (26 : Int) ≤ (op : Int) := by omega
    have c5 : (op : Int) ≤ 45 := by omega
    have c6 : ¬ (59 : Int) ≤ (op : Int) := by omega
    have c7 : (op : Int) ≤ 78 := by omega
    have ht : twoP op = false := decide_eq_false (by omega)
    have hr : lclP op vA = vA := if_pos (by omega)
    rw [hr, ht]
    simp (disch := first | omega | assumption) only [C.ref2_Local_gos, T.tv, ↓reduceIte, Nat.reduceEqDiff, reduceCtorEq, Nat.reduceLeDiff, Nat.reducePow, Int.reducePow, Int.reduceToNat, Nat.reduceAdd, q1, q3, w0, eq_false e22, eq_false e24, eq_false e55, eq_false e57, eq_false e132, c0, c1, c2, c3, c4, c5, c6, c7, decide_true, decide_false]
    exact E
  by_cases p4 : op ≤ 24
  case pos =>
    have e22 : ¬ (op : Int) = 22 := by omega
    have e24 : (op : Int) = 24 := by omega
    have e55 : ¬ (op : Int) = 55 := by omega
    have e57 : ¬ (op : Int) = 57 := by omega
    have e132 : ¬ (op : Int) = 132 := by omega
    have c0 : (21 : Int) ≤ (op : Int) := by omega
    have c1 : (op : Int) ≤ 25 := by omega
    have c2 : ¬ (54 : Int) ≤ (op : Int) := by omega
    have c3 : (op : Int) ≤ 58 := by omega
    have c4 : ¬ (26 : Int) ≤ (op : Int) := by omega
    have c5 : (op : Int) ≤ 45 := by omega
    have c6 : ¬ (59 : Int) ≤ (op : Int) := by omega
    have c7 : (op : Int) ≤ 78 := by omega
    have ht : twoP op = true := decide_eq_true (by omega)
    have hr : lclP op vA = vA := if_pos (by omega)
    rw [hr, ht]
    simp (disch := first | omega | assumption) only [C.ref2_Local_gos, T.tv, ↓reduceIte, Nat.reduceEqDiff, reduceCtorEq, Nat.reduceLeDiff, Nat.reducePow, Int.reducePow, Int.reduceToNat, Nat.reduceAdd, q1, q3, w0, eq_false e22, eq_true e24, eq_false e55, eq_false e57, eq_false e132, c0, c1, c2, c3, c4, c5, c6, c7, decide_true, decide_false]
    exact E
  by_cases p5 : op ≤ 25
  case pos =>
    have e22 : ¬ (op : Int) = 22 := by omega
    have e24 : ¬ (op : Int) = 24 := by omega
    have e55 : ¬ (op : Int) = 55 := by omega
    have e57 : ¬ (op : Int) = 57 := by omega
    have e132 : ¬ (op : Int) = 132 := by omega
    have c0 : (21 : Int) ≤ (op : Int) := by omega
    have c1 : (op : Int) ≤ 25 := by omega
    have c2 : ¬ (54 : Int) ≤ (op : Int) := by omega
    have c3 : (op : Int) ≤ 58 := by omega
    have c4 : ¬ (26 : Int) ≤ (op : Int) := by omega
    have c5 : (op : Int) ≤ 45 := by omega
    have c6 : ¬ (59 : Int) ≤ (op : Int) := by omega
    have c7 : (op : Int) ≤ 78 := by omega
    have ht : twoP op = false := decide_eq_false (by omega)
    have hr : lclP op vA = vA := if_pos (by omega)
    rw [hr, ht]
    simp (disch := first | omega | assumption) only [C.ref2_Local_gos, T.tv, ↓reduceIte, Nat.reduceEqDiff, reduceCtorEq, Nat.reduceLeDiff, Nat.reducePow, Int.reducePow, Int.reduceToNat, Nat.reduceAdd, q1, q3, w0, eq_false e22, eq_false e24, eq_false e55, eq_false e57, eq_false e132, c0, c1, c2, c3, c4, c5, c6, c7, decide_true, decide_false]
    exact E
  by_cases p6 : op ≤ 29
  case pos =>
    have e22 : ¬ (op : Int) = 22 := by omega
    have e24 : ¬ (op : Int) = 24 := by omega
    have e55 : ¬ (op : Int) = 55 := by omega
    have e57 : ¬ (op : Int) = 57 := by omega
    have e132 : ¬ (op : Int) = 132 := by omega
    have c0 : (21 : Int) ≤ (op : Int) := by omega
    have c1 : ¬ (op : Int) ≤ 25 := by omega
    have c2 : ¬ (54 : Int) ≤ (op : Int) := by omega
    have c3 : (op : Int) ≤ 58 := by omega
    have c4 : (26 : Int) ≤ (op : Int) := by omega
    have c5 : (op : Int) ≤ 45 := by omega
    have c6 : ¬ (59 : Int) ≤ (op : Int) := by omega
    have c7 : (op : Int) ≤ 78 := by omega
    have ht : twoP op = false := decide_eq_false (by omega)
    have hr : lclP op vA = ((op : Int) - 26) % 4 := by unfold lclP; rw [if_neg (by omega), if_pos (by omega)]; omega
    have k0 : 0 ≤ (op : Int) - 26 := by omega
    have k1 : IntKind.i64.wrap ((op : Int) - 26) = (op : Int) - 26 := wrap_i64 (by omega) (by omega)
    have k2 : IntKind.i64.wrap (((op : Int) - 26) % 4) = ((op : Int) - 26) % 4 := wrap_i64 (by omega) (by omega)
    have k3 : ((op : Int) - 26) / 4 = 0 := by omega
    have k4 : IntKind.i64.wrap 0 = 0 := wrap_i64 (by omega) (by omega)
    rw [hr, ht]
    simp (disch := first | omega | assumption) only [C.ref2_Local_gos, T.tv, ↓reduceIte, Nat.reduceEqDiff, reduceCtorEq, Nat.reduceLeDiff, Nat.reducePow, Int.reducePow, Int.reduceToNat, Nat.reduceAdd, q1, q3, w0, eq_false e22, eq_false e24, eq_false e55, eq_false e57, eq_false e132, c0, c1, c2, c3, c4, c5, c6, c7, k0, k1, k2, k3, k4, Int.reduceEq, decide_true, decide_false]
    exact E
  by_cases p7 : op ≤ 33
  case pos =>
    have e22 : ¬ (op : Int) = 22 := by omega
    have e24 : ¬ (op : Int) = 24 := by omega
    have e55 : ¬ (op : Int) = 55 := by omega
    have e57 : ¬ (op : Int) = 57 := by omega
    have e132 : ¬ (op : Int) = 132 := by omega
    have c0 : (21 : Int) ≤ (op : Int) := by omega
    have c1 : ¬ (op : Int) ≤ 25 := by omega
    have c2 : ¬ (54 : Int) ≤ (op : Int) := by omega
    have c3 : (op : Int) ≤ 58 := by omega
    have c4 : (26 : Int) ≤ (op : Int) := by omega
    have c5 : (op : Int) ≤ 45 := by omega
    have c6 : ¬ (59 : Int) ≤ (op : Int) := by omega
    have c7 : (op : Int) ≤ 78 := by omega
    have ht : twoP op = true := decide_eq_true (by omega)
    have hr : lclP op vA = ((op : Int) - 26) % 4 := by unfold lclP; rw [if_neg (by omega), if_pos (by omega)]; omega
    have k0 : 0 ≤ (op : Int) - 26 := by omega
    have k1 : IntKind.i64.wrap ((op : Int) - 26) = (op : Int) - 26 := wrap_i64 (by omega) (by omega)
    have k2 : IntKind.i64.wrap (((op : Int) - 26) % 4) = ((op : Int) - 26) % 4 := wrap_i64 (by omega) (by omega)
    have k3 : ((op : Int) - 26) / 4 = 1 := by omega
    have k4 : IntKind.i64.wrap 1 = 1 := wrap_i64 (by omega) (by omega)
    rw [hr, ht]
    simp (disch := first | omega | assumption) only [C.ref2_Local_gos, T.tv, ↓reduceIte, Nat.reduceEqDiff, reduceCtorEq, Nat.reduceLeDiff, Nat.reducePow, Int.reducePow, Int.reduceToNat, Nat.reduceAdd, q1, q3, w0, eq_false e22, eq_false e24, eq_false e55, eq_false e57, eq_false e132, c0, c1, c2, c3, c4, c5, c6, c7, k0, k1, k2, k3, k4, Int.reduceEq, decide_true, decide_false]
    exact E
  by_cases p8 : op ≤ 37
  case pos =>
    have e22 : ¬ (op : Int) = 22 := by omega
    have e24 : ¬ (op : Int) = 24 := by omega
    have e55 : ¬ (op : Int) = 55 := by omega
    have e57 : ¬ (op : Int) = 57 := by omega
    have e132 : ¬ (op : Int) = 132 := by omega
    have c0 : (21 : Int) ≤ (op : Int) := by omega
    have c1 : ¬ (op : Int) ≤ 25 := by omega
    have c2 : ¬ (54 : Int) ≤ (op : Int) := by omega
    have c3 : (op : Int) ≤ 58 := by omega
    have c4 : (26 : Int) ≤ (op : Int) := by omega
    have c5 : (op : Int) ≤ 45 := by omega
    have c6 : ¬ (59 : Int) ≤ (op : Int) := by omega
    have c7 : (op : Int) ≤ 78 := by omega
    have ht : twoP op = false := decide_eq_false (by omega)
    have hr : lclP op vA = ((op : Int) - 26) % 4 := by unfold lclP; rw [if_neg (by omega), if_pos (by omega)]; omega
    have k0 : 0 ≤ (op : Int) - 26 := by omega
    have k1 : IntKind.i64.wrap ((op : Int) - 26) = (op : Int) - 26 := wrap_i64 (by omega) (by omega)
    have k2 : IntKind.i64.wrap (((op : Int) - 26) % 4) = ((op : Int) - 26) % 4 := wrap_i64 (by omega) (by omega)
    have k3 : ((op : Int) - 26) / 4 = 2 := by omega
    have k4 : IntKind.i64.wrap 2 = 2 := wrap_i64 (by omega) (by omega)
    rw [hr, ht]
    simp (disch := first | omega | assumption) only [C.ref2_Local_gos, T.tv, ↓reduceIte, Nat.reduceEqDiff, reduceCtorEq, Nat.reduceLeDiff, Nat.reducePow, Int.reducePow, Int.reduceToNat, Nat.reduceAdd, q1, q3, w0, eq_false e22, eq_false e24, eq_false e55, eq_false e57, eq_false e132, c0, c1, c2, c3, c4, c5, c6, c7, k0, k1, k2, k3, k4, Int.reduceEq, decide_true, decide_false]
    exact E
  by_cases p9 : op ≤ 41
  case pos =>
    have e22 : ¬ (op : Int) = 22 := by omega
    have e24 : ¬ (op : Int) = 24 := by omega
    have e55 : ¬ (op : Int) = 55 := by omega
    have e57 : ¬ (op : Int) = 57 := by omega
    have e132 : ¬ (op : Int) = 132 := by omega
    have c0 : (21 : Int) ≤ (op : Int) := by omega
    have c1 : ¬ (op : Int) ≤ 25 := by omega
    have c2 : ¬ (54 : Int) ≤ (op : Int) := by omega
    have c3 : (op : Int) ≤ 58 := by omega
    have c4 : (26 : Int) ≤ (op : Int) := by omega
    have c5 : (op : Int) ≤ 45 := by omega
    have c6 : ¬ (59 : Int) ≤ (op : Int) := by omega
    have c7 : (op : Int) ≤ 78 := by omega
    have ht : twoP op = true := decide_eq_true (by omega)
    have hr : lclP op vA = ((op : Int) - 26) % 4 := by unfold lclP; rw [if_neg (by omega), if_pos (by omega)]; omega
    have k0 : 0 ≤ (op : Int) - 26 := by omega
    have k1 : IntKind.i64.wrap ((op : Int) - 26) = (op : Int) - 26 := wrap_i64 (by omega) (by omega)
    have k2 : IntKind.i64.wrap (((op : Int) - 26) % 4) = ((op : Int) - 26) % 4 := wrap_i64 (by omega) (by omega)
    have k3 : ((op : Int) - 26) / 4 = 3 := by omega
    have k4 : IntKind.i64.wrap 3 = 3 := wrap_i64 (by omega) (by omega)
    rw [hr, ht]
    simp (disch := first | omega | assumption) only [C.ref2_Local_gos, T.tv, ↓reduceIte, Nat.reduceEqDiff, reduceCtorEq, Nat.reduceLeDiff, Nat.reducePow, Int.reducePow, Int.reduceToNat, Nat.reduceAdd, q1, q3, w0, eq_false e22, eq_false e24, eq_false e55, eq_false e57, eq_false e132, c0, c1, c2, c3, c4, c5, c6, c7, k0, k1, k2, k3, k4, Int.reduceEq, decide_true, decide_false]
    exact E
  by_cases p10 : op ≤ 45
  case pos =>
    have e22 : ¬ (op : Int) = 22 := by omega
    have e24 : ¬ (op : Int) = 24 := by omega
    have e55 : ¬ (op : Int) = 55 := by omega
    have e57 : ¬ (op : Int) = 57 := by omega
    have e132 : ¬ (op : Int) = 132 := by omega
    have c0 : (21 : Int) ≤ (op : Int) := by omega
    have c1 : ¬ (op : Int) ≤ 25 := by omega
    have c2 : ¬ (54 : Int) ≤ (op : Int) := by omega
    have c3 : (op : Int) ≤ 58 := by omega
    have c4 : (26 : Int) ≤ (op : Int) := by omega
    have c5 : (op : Int) ≤ 45 := by omega
    have c6 : ¬ (59 : Int) ≤ (op : Int) := by omega
    have c7 : (op : Int) ≤ 78 := by omega
    have ht : twoP op = false := decide_eq_false (by omega)
    have hr : lclP op vA = ((op : Int) - 26) % 4 := by unfold lclP; rw [if_neg (by omega), if_pos (by omega)]; omega
    have k0 : 0 ≤ (op : Int) - 26 := by omega
    have k1 : IntKind.i64.wrap ((op : Int) - 26) = (op : Int) - 26 := wrap_i64 (by omega) (by omega)
    have k2 : IntKind.i64.wrap (((op : Int) - 26) % 4) = ((op : Int) - 26) % 4 := wrap_i64 (by omega) (by omega)
    have k3 : ((op : Int) - 26) / 4 = 4 := by omega
    have k4 : IntKind.i64.wrap 4 = 4 := wrap_i64 (by omega) (by omega)
    rw [hr, ht]
    simp (disch := first | omega | assumption) only [C.ref2_Local_gos, T.tv, ↓reduceIte, Nat.reduceEqDiff, reduceCtorEq, Nat.reduceLeDiff, Nat.reducePow, Int.reducePow, Int.reduceToNat, Nat.reduceAdd, q1, q3, w0, eq_false e22, eq_false e24, eq_false e55, eq_false e57, eq_false e132, c0, c1, c2, c3, c4, c5, c6, c7, k0, k1, k2, k3, k4, Int.reduceEq, decide_true, decide_false]
    exact E
  by_cases p11 : op ≤ 53
  case pos =>
    have e22 : ¬ (op : Int) = 22 := by omega
    have e24 : ¬ (op : Int) = 24 := by omega
    have e55 : ¬ (op : Int) = 55 := by omega
    have e57 : ¬ (op : Int) = 57 := by omega
    have e132 : ¬ (op : Int) = 132 := by omega
    have c0 : (21 : Int) ≤ (op : Int) := by omega
    have c1 : ¬ (op : Int) ≤ 25 := by omega
    have c2 : ¬ (54 : Int) ≤ (op : Int) := by omega
    have c3 : (op : Int) ≤ 58 := by omega
    have c4 : (26 : Int) ≤ (op : Int) := by omega
    have c5 : ¬ (op : Int) ≤ 45 := by omega
    have c6 : ¬ (59 : Int) ≤ (op : Int) := by omega
    have c7 : (op : Int) ≤ 78 := by omega
    have ht : twoP op = false := decide_eq_false (by omega)
    have hr : lclP op vA = -1 := by unfold lclP; rw [if_neg (by omega), if_neg (by omega), if_neg (by omega)]
    rw [hr, ht]
    simp (disch := first | omega | assumption) only [C.ref2_Local_gos, T.tv, ↓reduceIte, Nat.reduceEqDiff, reduceCtorEq, Nat.reduceLeDiff, Nat.reducePow, Int.reducePow, Int.reduceToNat, Nat.reduceAdd, q1, q3, w0, eq_false e22, eq_false e24, eq_false e55, eq_false e57, eq_false e132, c0, c1, c2, c3, c4, c5, c6, c7, decide_true, decide_false]
    exact E
  by_cases p12 : op ≤ 54
  case pos =>
    have e22 : ¬ (op : Int) = 22 := by omega
    have e24 : ¬ (op : Int) = 24 := by omega
    have e55 : ¬ (op : Int) = 55 := by omega
    have e57 : ¬ (op : Int) = 57 := by omega
    have e132 : ¬ (op : Int) = 132 := by omega
    have c0 : (21 : Int) ≤ (op : Int) := by omega
    have c1 : ¬ (op : Int) ≤ 25 := by omega
    have c2 : (54 : Int) ≤ (op : Int) := by omega
    have c3 : (op : Int) ≤ 58 := by omega
    have c4 : (26 : Int) ≤ (op : Int) := by omega
    have c5 : ¬ (op : Int) ≤ 45 := by omega
    have c6 : ¬ (59 : Int) ≤ (op : Int) := by omega
    have c7 : (op : Int) ≤ 78 := by omega
    have ht : twoP op = false := decide_eq_false (by omega)
    have hr : lclP op vA = vA := if_pos (by omega)
    rw [hr, ht]
    simp (disch := first | omega | assumption) only [C.ref2_Local_gos, T.tv, ↓reduceIte, Nat.reduceEqDiff, reduceCtorEq, Nat.reduceLeDiff, Nat.reducePow, Int.reducePow, Int.reduceToNat, Nat.reduceAdd, q1, q3, w0, eq_false e22, eq_false e24, eq_false e55, eq_false e57, eq_false e132, c0, c1, c2, c3, c4, c5, c6, c7, decide_true, decide_false]
    exact E
  by_cases p13 : op ≤ 55
  case pos =>
    have e22 : ¬ (op : Int) = 22 := by omega
    have e24 : ¬ (op : Int) = 24 := by omega
    have e55 : (op : Int) = 55 := by omega
    have e57 : ¬ (op : Int) = 57 := by omega
    have e132 : ¬ (op : Int) = 132 := by omega
    have c0 : (21 : Int) ≤ (op : Int) := by omega
    have c1 : ¬ (op : Int) ≤ 25 := by omega
    have c2 : (54 : Int) ≤ (op : Int) := by omega
    have c3 : (op : Int) ≤ 58 := by omega
    have c4 : (26 : Int) ≤ (op : Int) := by omega
    have c5 : ¬ (op : Int) ≤ 45 := by omega
    have c6 : ¬ (59 : Int) ≤ (op : Int) := by omega
    have c7 : (op : Int) ≤ 78 := by omega
    have ht : twoP op = true := decide_eq_true (by omega)
    have hr : lclP op vA = vA := if_pos (by omega)
    rw [hr, ht]
    simp (disch := first | omega | assumption) only [C.ref2_Local_gos, T.tv, ↓reduceIte, Nat.reduceEqDiff, reduceCtorEq, Nat.reduceLeDiff, Nat.reducePow, Int.reducePow, Int.reduceToNat, Nat.reduceAdd, q1, q3, w0, eq_false e22, eq_false e24, eq_true e55, eq_false e57, eq_false e132, c0, c1, c2, c3, c4, c5, c6, c7, decide_true, decide_false]
    exact E
  by_cases p14 : op ≤ 56
  case pos =>
    have e22 : ¬ (op : Int) = 22 := by omega
    have e24 : ¬ (op : Int) = 24 := by omega
    have e55 : ¬ (op : Int) = 55 := by omega
    have e57 : ¬ (op : Int) = 57 := by omega
    have e132 : ¬ (op : Int) = 132 := by omega
    have c0 : (21 : Int) ≤ (op : Int) := by omega
    have c1 : ¬ (op : Int) ≤ 25 := by omega
    have c2 : (54 : Int) ≤ (op : Int) := by omega
    have c3 : (op : Int) ≤ 58 := by omega
    have c4 : (26 : Int) ≤ (op : Int) := by omega
    have c5 : ¬ (op : Int) ≤ 45 := by omega
    have c6 : ¬ (59 : Int) ≤ (op : Int) := by omega
    have c7 : (op : Int) ≤ 78 := by omega
    have ht : twoP op = false := decide_eq_false (by omega)
    have hr : lclP op vA = vA := if_pos (by omega)
    rw [hr, ht]
    simp (disch := first | omega | assumption) only [C.ref2_Local_gos, T.tv, ↓reduceIte, Nat.reduceEqDiff, reduceCtorEq, Nat.reduceLeDiff, Nat.reducePow, Int.reducePow, Int.reduceToNat, Nat.reduceAdd, q1, q3, w0, eq_false e22, eq_false e24, eq_false e55, eq_false e57, eq_false e132, c0, c1, c2, c3, c4, c5, c6, c7, decide_true, decide_false]
    exact E
  by_cases p15 : op ≤ 57
  case pos =>
    have e22 : ¬ (op : Int) = 22 := by omega
    have e24 : ¬ (op : Int) = 24 := by omega
    have e55 : ¬ (op : Int) = 55 := by omega
    have e57 : (op : Int) = 57 := by omega
    have e132 : ¬ (op : Int) = 132 := by omega
    have c0 : (21 : Int) ≤ (op : Int) := by omega
    have c1 : ¬ (op : Int) ≤ 25 := by omega
    have c2 : (54 : Int) ≤ (op : Int) := by omega
    have c3 : (op : Int) ≤ 58 := by omega
    have c4 : (26 : Int) ≤ (op : Int) := by omega
    have c5 : ¬ (op : Int) ≤ 45 := by omega
    have c6 : ¬ (59 : Int) ≤ (op : Int) := by omega
    have c7 : (op : Int) ≤ 78 := by omega
    have ht : twoP op = true := decide_eq_true (by omega)
    have hr : lclP op vA = vA := if_pos (by omega)
    rw [hr, ht]
    simp (disch := first | omega | assumption) only [C.ref2_Local_gos, T.tv, ↓reduceIte, Nat.reduceEqDiff, reduceCtorEq, Nat.reduceLeDiff, Nat.reducePow, Int.reducePow, Int.reduceToNat, Nat.reduceAdd, q1, q3, w0, eq_false e22, eq_false e24, eq_false e55, eq_true e57, eq_false e132, c0, c1, c2, c3, c4, c5, c6, c7, decide_true, decide_false]
    exact E
  by_cases p16 : op ≤ 58
  case pos =>
    have e22 : ¬ (op : Int) = 22 := by omega
    have e24 : ¬ (op : Int) = 24 := by omega
    have e55 : ¬ (op : Int) = 55 := by omega
    have e57 : ¬ (op : Int) = 57 := by omega
    have e132 : ¬ (op : Int) = 132 := by omega
    have c0 : (21 : Int) ≤ (op : Int) := by omega
    have c1 : ¬ (op : Int) ≤ 25 := by omega
    have c2 : (54 : Int) ≤ (op : Int) := by omega
    have c3 : (op : Int) ≤ 58 := by omega
    have c4 : (26 : Int) ≤ (op : Int) := by omega
    have c5 : ¬ (op : Int) ≤ 45 := by omega
    have c6 : ¬ (59 : Int) ≤ (op : Int) := by omega
    have c7 : (op : Int) ≤ 78 := by omega
    have ht : twoP op = false := decide_eq_false (by omega)
    have hr : lclP op vA = vA := if_pos (by omega)
    rw [hr, ht]
    simp (disch := first | omega | assumption) only [C.ref2_Local_gos, T.tv, ↓reduceIte, Nat.reduceEqDiff, reduceCtorEq, Nat.reduceLeDiff, Nat.reducePow, Int.reducePow, Int.reduceToNat, Nat.reduceAdd, q1, q3, w0, eq_false e22, eq_false e24, eq_false e55, eq_false e57, eq_false e132, c0, c1, c2, c3, c4, c5, c6, c7, decide_true, decide_false]
    exact E
  by_cases p17 : op ≤ 62
  case pos =>
    have e22 : ¬ (op : Int) = 22 := by omega
    have e24 : ¬ (op : Int) = 24 := by omega
    have e55 : ¬ (op : Int) = 55 := by omega
    have e57 : ¬ (op : Int) = 57 := by omega
    have e132 : ¬ (op : Int) = 132 := by omega
    have c0 : (21 : Int) ≤ (op : Int) := by omega
    have c1 : ¬ (op : Int) ≤ 25 := by omega
    have c2 : (54 : Int) ≤ (op : Int) := by omega
    have c3 : ¬ (op : Int) ≤ 58 := by omega
    have c4 : (26 : Int) ≤ (op : Int) := by omega
    have c5 : ¬ (op : Int) ≤ 45 := by omega
    have c6 : (59 : Int) ≤ (op : Int) := by omega
    have c7 : (op : Int) ≤ 78 := by omega
    have ht : twoP op = false := decide_eq_false (by omega)
    have hr : lclP op vA = ((op : Int) - 59) % 4 := by unfold lclP; rw [if_neg (by omega), if_neg (by omega), if_pos (by omega)]; omega
    have k0 : 0 ≤ (op : Int) - 59 := by omega
    have k1 : IntKind.i64.wrap ((op : Int) - 59) = (op : Int) - 59 := wrap_i64 (by omega) (by omega)
    have k2 : IntKind.i64.wrap (((op : Int) - 59) % 4) = ((op : Int) - 59) % 4 := wrap_i64 (by omega) (by omega)
    have k3 : ((op : Int) - 59) / 4 = 0 := by omega
    have k4 : IntKind.i64.wrap 0 = 0 := wrap_i64 (by omega) (by omega)
    rw [hr, ht]
    simp (disch := first | omega | assumption) only [C.ref2_Local_gos, T.tv, ↓reduceIte, Nat.reduceEqDiff, reduceCtorEq, Nat.reduceLeDiff, Nat.reducePow, Int.reducePow, Int.reduceToNat, Nat.reduceAdd, q1, q3, w0, eq_false e22, eq_false e24, eq_false e55, eq_false e57, eq_false e132, c0, c1, c2, c3, c4, c5, c6, c7, k0, k1, k2, k3, k4, Int.reduceEq, decide_true, decide_false]
    exact E
  by_cases p18 : op ≤ 66
  case pos =>
    have e22 : ¬ (op : Int) = 22 := by omega
    have e24 : ¬ (op : Int) = 24 := by omega
    have e55 : ¬ (op : Int) = 55 := by omega
    have e57 : ¬ (op : Int) = 57 := by omega
    have e132 : ¬ (op : Int) = 132 := by omega
    have c0 : (21 : Int) ≤ (op : Int) := by omega
    have c1 : ¬ (op : Int) ≤ 25 := by omega
    have c2 : (54 : Int) ≤ (op : Int) := by omega
    have c3 : ¬ (op : Int) ≤ 58 := by omega
    have c4 : (26 : Int) ≤ (op : Int) := by omega
    have c5 : ¬ (op : Int) ≤ 45 := by omega
    have c6 : (59 : Int) ≤ (op : Int) := by omega
    have c7 : (op : Int) ≤ 78 := by omega
    have ht : twoP op = true := decide_eq_true (by omega)
    have hr : lclP op vA = ((op : Int) - 59) % 4 := by unfold lclP; rw [if_neg (by omega), if_neg (by omega), if_pos (by omega)]; omega
    have k0 : 0 ≤ (op : Int) - 59 := by omega
    have k1 : IntKind.i64.wrap ((op : Int) - 59) = (op : Int) - 59 := wrap_i64 (by omega) (by omega)
    have k2 : IntKind.i64.wrap (((op : Int) - 59) % 4) = ((op : Int) - 59) % 4 := wrap_i64 (by omega) (by omega)
    have k3 : ((op : Int) - 59) / 4 = 1 := by omega
    have k4 : IntKind.i64.wrap 1 = 1 := wrap_i64 (by omega) (by omega)
    rw [hr, ht]
    simp (disch := first | omega | assumption) only [C.ref2_Local_gos, T.tv, ↓reduceIte, Nat.reduceEqDiff, reduceCtorEq, Nat.reduceLeDiff, Nat.reducePow, Int.reducePow, Int.reduceToNat, Nat.reduceAdd, q1, q3, w0, eq_false e22, eq_false e24, eq_false e55, eq_false e57, eq_false e132, c0, c1, c2, c3, c4, c5, c6, c7, k0, k1, k2, k3, k4, Int.reduceEq, decide_true, decide_false]
    exact E
  by_cases p19 : op ≤ 70
  case pos =>
    have e22 : ¬ (op : Int) = 22 := by omega
    have e24 : ¬ (op : Int) = 24 := by omega
    have e55 : ¬ (op : Int) = 55 := by omega
    have e57 : ¬ (op : Int) = 57 := by omega
    have e132 : ¬ (op : Int) = 132 := by omega
    have c0 : (21 : Int) ≤ (op : Int) := by omega
    have c1 : ¬ (op : Int) ≤ 25 := by omega
    have c2 : (54 : Int) ≤ (op : Int) := by omega
    have c3 : ¬ (op : Int) ≤ 58 := by omega
    have c4 : (26 : Int) ≤ (op : Int) := by omega
    have c5 : ¬ (op : Int) ≤ 45 := by omega
    have c6 : (59 : Int) ≤ (op : Int) := by omega
    have c7 : (op : Int) ≤ 78 := by omega
    have ht : twoP op = false := decide_eq_false (by omega)
    have hr : lclP op vA = ((op : Int) - 59) % 4 := by unfold lclP; rw [if_neg (by omega), if_neg (by omega), if_pos (by omega)]; omega
    have k0 : 0 ≤ (op : Int) - 59 := by omega
    have k1 : IntKind.i64.wrap ((op : Int) - 59) = (op : Int) - 59 := wrap_i64 (by omega) (by omega)
    have k2 : IntKind.i64.wrap (((op : Int) - 59) % 4) = ((op : Int) - 59) % 4 := wrap_i64 (by omega) (by omega)
    have k3 : ((op : Int) - 59) / 4 = 2 := by omega
    have k4 : IntKind.i64.wrap 2 = 2 := wrap_i64 (by omega) (by omega)
    rw [hr, ht]
    simp (disch := first | omega | assumption) only [C.ref2_Local_gos, T.tv, ↓reduceIte, Nat.reduceEqDiff, reduceCtorEq, Nat.reduceLeDiff, Nat.reducePow, Int.reducePow, Int.reduceToNat, Nat.reduceAdd, q1, q3, w0, eq_false e22, eq_false e24, eq_false e55, eq_false e57, eq_false e132, c0, c1, c2, c3, c4, c5, c6, c7, k0, k1, k2, k3, k4, Int.reduceEq, decide_true, decide_false]
    exact E
  by_cases p20 : op ≤ 74
  case pos =>
    have e22 : ¬ (op : Int) = 22 := by omega
    have e24 : ¬ (op : Int) = 24 := by omega
    have e55 : ¬ (op : Int) = 55 := by omega
    have e57 : ¬ (op : Int) = 57 := by omega
    have e132 : ¬ (op : Int) = 132 := by omega
    have c0 : (21 : Int) ≤ (op : Int) := by omega
    have c1 : ¬ (op : Int) ≤ 25 := by omega
    have c2 : (54 : Int) ≤ (op : Int) := by omega
    have c3 : ¬ (op : Int) ≤ 58 := by omega
    have c4 : (26 : Int) ≤ (op : Int) := by omega
    have c5 : ¬ (op : Int) ≤ 45 := by omega
    have c6 : (59 : Int) ≤ (op : Int) := by omega
    have c7 : (op : Int) ≤ 78 := by omega
    have ht : twoP op = true := decide_eq_true (by omega)
    have hr : lclP op vA = ((op : Int) - 59) % 4 := by unfold lclP; rw [if_neg (by omega), if_neg (by omega), if_pos (by omega)]; omega
    have k0 : 0 ≤ (op : Int) - 59 := by omega
    have k1 : IntKind.i64.wrap ((op : Int) - 59) = (op : Int) - 59 := wrap_i64 (by omega) (by omega)
    have k2 : IntKind.i64.wrap (((op : Int) - 59) % 4) = ((op : Int) - 59) % 4 := wrap_i64 (by omega) (by omega)
    have k3 : ((op : Int) - 59) / 4 = 3 := by omega
    have k4 : IntKind.i64.wrap 3 = 3 := wrap_i64 (by omega) (by omega)
    rw [hr, ht]
    simp (disch := first | omega | assumption) only [C.ref2_Local_gos, T.tv, ↓reduceIte, Nat.reduceEqDiff, reduceCtorEq, Nat.reduceLeDiff, Nat.reducePow, Int.reducePow, Int.reduceToNat, Nat.reduceAdd, q1, q3, w0, eq_false e22, eq_false e24, eq_false e55, eq_false e57, eq_false e132, c0, c1, c2, c3, c4, c5, c6, c7, k0, k1, k2, k3, k4, Int.reduceEq, decide_true, decide_false]
    exact E
  by_cases p21 : op ≤ 78
  case pos =>
    have e22 : ¬ (op : Int) = 22 := by omega
    have e24 : ¬ (op : Int) = 24 := by omega
    have e55 : ¬ (op : Int) = 55 := by omega
    have e57 : ¬ (op : Int) = 57 := by omega
    have e132 : ¬ (op : Int) = 132 := by omega
    have c0 : (21 : Int) ≤ (op : Int) := by omega
    have c1 : ¬ (op : Int) ≤ 25 := by omega
    have c2 : (54 : Int) ≤ (op : Int) := by omega
    have c3 : ¬ (op : Int) ≤ 58 := by omega
    have c4 : (26 : Int) ≤ (op : Int) := by omega
    have c5 : ¬ (op : Int) ≤ 45 := by omega
    have c6 : (59 : Int) ≤ (op : Int) := by omega
    have c7 : (op : Int) ≤ 78 := by omega
    have ht : twoP op = false := decide_eq_false (by omega)
    have hr : lclP op vA = ((op : Int) - 59) % 4 := by unfold lclP; rw [if_neg (by omega), if_neg (by omega), if_pos (by omega)]; omega
    have k0 : 0 ≤ (op : Int) - 59 := by omega
    have k1 : IntKind.i64.wrap ((op : Int) - 59) = (op : Int) - 59 := wrap_i64 (by omega) (by omega)
    have k2 : IntKind.i64.wrap (((op : Int) - 59) % 4) = ((op : Int) - 59) % 4 := wrap_i64 (by omega) (by omega)
    have k3 : ((op : Int) - 59) / 4 = 4 := by omega
    have k4 : IntKind.i64.wrap 4 = 4 := wrap_i64 (by omega) (by omega)
    rw [hr, ht]
    simp (disch := first | omega | assumption) only [C.ref2_Local_gos, T.tv, ↓reduceIte, Nat.reduceEqDiff, reduceCtorEq, Nat.reduceLeDiff, Nat.reducePow, Int.reducePow, Int.reduceToNat, Nat.reduceAdd, q1, q3, w0, eq_false e22, eq_false e24, eq_false e55, eq_false e57, eq_false e132, c0, c1, c2, c3, c4, c5, c6, c7, k0, k1, k2, k3, k4, Int.reduceEq, decide_true, decide_false]
    exact E
  by_cases p22 : op ≤ 131
  case pos =>
    have e22 : ¬ (op : Int) = 22 := by omega
    have e24 : ¬ (op : Int) = 24 := by omega
    have e55 : ¬ (op : Int) = 55 := by omega
    have e57 : ¬ (op : Int) = 57 := by omega
    have e132 : ¬ (op : Int) = 132 := by omega
    have c0 : (21 : Int) ≤ (op : Int) := by omega
    have c1 : ¬ (op : Int) ≤ 25 := by omega
    have c2 : (54 : Int) ≤ (op : Int) := by omega
    have c3 : ¬ (op : Int) ≤ 58 := by omega
    have c4 : (26 : Int) ≤ (op : Int) := by omega
    have c5 : ¬ (op : Int) ≤ 45 := by omega
    have c6 : (59 : Int) ≤ (op : Int) := by omega
    have c7 : ¬ (op : Int) ≤ 78 := by omega
    have ht : twoP op = false := decide_eq_false (by omega)
    have hr : lclP op vA = -1 := by unfold lclP; rw [if_neg (by omega), if_neg (by omega), if_neg (by omega)]
    rw [hr, ht]
    simp (disch := first | omega | assumption) only [C.ref2_Local_gos, T.tv, ↓reduceIte, Nat.reduceEqDiff, reduceCtorEq, Nat.reduceLeDiff, Nat.reducePow, Int.reducePow, Int.reduceToNat, Nat.reduceAdd, q1, q3, w0, eq_false e22, eq_false e24, eq_false e55, eq_false e57, eq_false e132, c0, c1, c2, c3, c4, c5, c6, c7, decide_true, decide_false]
    exact E
  by_cases p23 : op ≤ 132
  case pos =>
    have e22 : ¬ (op : Int) = 22 := by omega
    have e24 : ¬ (op : Int) = 24 := by omega
    have e55 : ¬ (op : Int) = 55 := by omega
    have e57 : ¬ (op : Int) = 57 := by omega
    have e132 : (op : Int) = 132 := by omega
    have c0 : (21 : Int) ≤ (op : Int) := by omega
    have c1 : ¬ (op : Int) ≤ 25 := by omega
    have c2 : (54 : Int) ≤ (op : Int) := by omega
    have c3 : ¬ (op : Int) ≤ 58 := by omega
    have c4 : (26 : Int) ≤ (op : Int) := by omega
    have c5 : ¬ (op : Int) ≤ 45 := by omega
    have c6 : (59 : Int) ≤ (op : Int) := by omega
    have c7 : ¬ (op : Int) ≤ 78 := by omega
    have ht : twoP op = false := decide_eq_false (by omega)
    have hr : lclP op vA = vA := if_pos (by omega)
    rw [hr, ht]
    simp (disch := first | omega | assumption) only [C.ref2_Local_gos, T.tv, ↓reduceIte, Nat.reduceEqDiff, reduceCtorEq, Nat.reduceLeDiff, Nat.reducePow, Int.reducePow, Int.reduceToNat, Nat.reduceAdd, q1, q3, w0, eq_false e22, eq_false e24, eq_false e55, eq_false e57, eq_true e132, c0, c1, c2, c3, c4, c5, c6, c7, decide_true, decide_false]
    exact E
  by_cases p24 : op ≤ 255
  case pos =>
    have e22 : ¬ (op : Int) = 22 := by omega
    have e24 : ¬ (op : Int) = 24 := by omega
    have e55 : ¬ (op : Int) = 55 := by omega
    have e57 : ¬ (op : Int) = 57 := by omega
    have e132 : ¬ (op : Int) = 132 := by omega
    have c0 : (21 : Int) ≤ (op : Int) := by omega
    have c1 : ¬ (op : Int) ≤ 25 := by omega
    have c2 : (54 : Int) ≤ (op : Int) := by omega
    have c3 : ¬ (op : Int) ≤ 58 := by omega
    have c4 : (26 : Int) ≤ (op : Int) := by omega
    have c5 : ¬ (op : Int) ≤ 45 := by omega
    have c6 : (59 : Int) ≤ (op : Int) := by omega
    have c7 : ¬ (op : Int) ≤ 78 := by omega
    have ht : twoP op = false := decide_eq_false (by omega)
    have hr : lclP op vA = -1 := by unfold lclP; rw [if_neg (by omega), if_neg (by omega), if_neg (by omega)]
    rw [hr, ht]
    simp (disch := first | omega | assumption) only [C.ref2_Local_gos, T.tv, ↓reduceIte, Nat.reduceEqDiff, reduceCtorEq, Nat.reduceLeDiff, Nat.reducePow, Int.reducePow, Int.reduceToNat, Nat.reduceAdd, q1, q3, w0, eq_false e22, eq_false e24, eq_false e55, eq_false e57, eq_false e132, c0, c1, c2, c3, c4, c5, c6, c7, decide_true, decide_false]
    exact E
  omega

set_option maxHeartbeats 8000000 in
theorem rroom_any (hop : x.op < 256) (L : Int) (h : Heap) (hL : L < 9223372036854775808) : HCalls Tryd.prog 11 #[aggX x ak bk nk ck nb cb, .int .i64 L] h fun v h' => Ext h h' ∧ v = .bool (roomP x.op x.A L) := by
  refine C.ref2_room_calls (args := [aggX x ak bk nk ck nb cb, .int .i64 L]) rfl ?_
  simp (disch := first | omega | assumption) only [C.ref2_room_gos, T.tv, ↓reduceIte, Nat.reduceEqDiff, reduceCtorEq, Nat.reduceLeDiff, Nat.reducePow, Int.reducePow, Int.reduceToNat, Nat.reduceAdd]
  refine eff_box ?_
  have E := Ext.push h (rowX x ak bk nk ck nb cb)
  have q0 : (h.push (rowX x ak bk nk ck nb cb))[h.size]? = some (rowX x ak bk nk ck nb cb) := by simp
  have q1 : cellAt (h.push (rowX x ak bk nk ck nb cb)) ⟨h.size, 1, none⟩ = some (.int .u8 (x.op : Int)) := by rw [cellAt_push_new]; rfl
  have w0 : IntKind.i64.wrap (x.op : Int) = (x.op : Int) := wrap_i64 (by omega) (by omega)
  simp (disch := first | omega | assumption) only [C.ref2_room_gos, T.tv, ↓reduceIte, Nat.reduceEqDiff, reduceCtorEq, Nat.reduceLeDiff, Nat.reducePow, Int.reducePow, Int.reduceToNat, Nat.reduceAdd, Nat.zero_add]
  generalize h.push (rowX x ak bk nk ck nb cb) = h1 at *
  generalize h.size = q at *
  simp (disch := first | omega | assumption) only [C.ref2_room_gos, T.tv, ↓reduceIte, Nat.reduceEqDiff, reduceCtorEq, Nat.reduceLeDiff, Nat.reducePow, Int.reducePow, Int.reduceToNat, Nat.reduceAdd, q1, w0]
  refine eff_callF rfl ((rform_any x.op hop h1).mono ?_)
  rintro v2 h2 ⟨rfl, rfl⟩
  have hf := frm_loc x.op hop
  have hld := ld_agg T.ag_37 (Rd_block (vs := [.int .i64 x.at', .int .u8 (x.op : Int), .bool x.wide, .int .i64 x.A, .int .i64 x.B, .int .i64 x.low, .slice ak nk ck, .slice bk nb cb]) q0) rfl
  generalize hn : lclP x.op x.A = n at *
  cases hh : hasP x.op with
  | false =>
    have h' : ¬ ((21 ≤ x.op ∧ x.op ≤ 45) ∨ (54 ≤ x.op ∧ x.op ≤ 78) ∨ x.op = 132) := of_decide_eq_false hh
    have f6' : ¬ frmL x.op = [108] := fun e => by have := hf.1.1 e; omega
    have f7' : ¬ frmL x.op = [110] := fun e => by have := hf.2.1 e; omega
    rw [show roomP x.op x.A L = true by unfold roomP; rw [hh]; rfl]
    simp (disch := first | omega | assumption) only [C.ref2_room_gos, T.tv, ↓reduceIte, Nat.reduceEqDiff, reduceCtorEq, Nat.reduceLeDiff, Nat.reducePow, Int.reducePow, Int.reduceToNat, Nat.reduceAdd, eq_false f6', decide_true, decide_false]
    refine eff_callF rfl ((rform_any x.op hop h2).mono ?_)
    rintro v2 h2 ⟨rfl, rfl⟩
    by_cases d1 : x.op < 26
    · have g1 : ¬ (26 : Int) ≤ (x.op : Int) := by omega
      have g2 : ¬ (59 : Int) ≤ (x.op : Int) := by omega
      simp (disch := first | omega | assumption) only [C.ref2_room_gos, T.tv, ↓reduceIte, Nat.reduceEqDiff, reduceCtorEq, Nat.reduceLeDiff, Nat.reducePow, Int.reducePow, Int.reduceToNat, Nat.reduceAdd, q1, eq_false f7', g1, g2, decide_true, decide_false]
      exact E
    by_cases d2 : x.op < 59
    · have g1 : (26 : Int) ≤ (x.op : Int) := by omega
      have g3 : ¬ (x.op : Int) ≤ 45 := by omega
      have g2 : ¬ (59 : Int) ≤ (x.op : Int) := by omega
      simp (disch := first | omega | assumption) only [C.ref2_room_gos, T.tv, ↓reduceIte, Nat.reduceEqDiff, reduceCtorEq, Nat.reduceLeDiff, Nat.reducePow, Int.reducePow, Int.reduceToNat, Nat.reduceAdd, q1, eq_false f7', g1, g2, g3, decide_true, decide_false]
      exact E
    · have g1 : (26 : Int) ≤ (x.op : Int) := by omega
      have g3 : ¬ (x.op : Int) ≤ 45 := by omega
      have g2 : (59 : Int) ≤ (x.op : Int) := by omega
      have g4 : ¬ (x.op : Int) ≤ 78 := by omega
      simp (disch := first | omega | assumption) only [C.ref2_room_gos, T.tv, ↓reduceIte, Nat.reduceEqDiff, reduceCtorEq, Nat.reduceLeDiff, Nat.reducePow, Int.reducePow, Int.reduceToNat, Nat.reduceAdd, q1, eq_false f7', g1, g2, g3, g4, decide_true, decide_false]
      exact E
  | true =>
    have h' : (21 ≤ x.op ∧ x.op ≤ 45) ∨ (54 ≤ x.op ∧ x.op ≤ 78) ∨ x.op = 132 := of_decide_eq_true hh
    rw [show roomP x.op x.A L = (decide (0 ≤ n) && decide (n < L) && (!twoP x.op || decide (n + 1 < L))) by unfold roomP; rw [hh, hn]; rfl]
    by_cases f6 : frmL x.op = [108]
    case pos =>
      simp (disch := first | omega | assumption) only [C.ref2_room_gos, T.tv, ↓reduceIte, Nat.reduceEqDiff, reduceCtorEq, Nat.reduceLeDiff, Nat.reducePow, Int.reducePow, Int.reduceToNat, Nat.reduceAdd, q1, hld, eq_true f6, decide_true, decide_false]
      refine eff_callF rfl ((rlocal_any hop h2).mono ?_)
      rintro v3 h3 ⟨hx3, rfl⟩
      rw [hn]
      by_cases n0 : n < 0
      case pos =>
        rw [show decide (0 ≤ n) = false from decide_eq_false (by omega)]
        simp (disch := first | omega | assumption) only [C.ref2_room_gos, T.tv, ↓reduceIte, Nat.reduceEqDiff, reduceCtorEq, Nat.reduceLeDiff, Nat.reducePow, Int.reducePow, Int.reduceToNat, Nat.reduceAdd, n0, decide_true, decide_false]
        exact ⟨E.trans hx3, by simp⟩
      by_cases nL : L ≤ n
      case pos =>
        rw [show decide (n < L) = false from decide_eq_false (by omega)]
        simp (disch := first | omega | assumption) only [C.ref2_room_gos, T.tv, ↓reduceIte, Nat.reduceEqDiff, reduceCtorEq, Nat.reduceLeDiff, Nat.reducePow, Int.reducePow, Int.reduceToNat, Nat.reduceAdd, n0, nL, decide_true, decide_false]
        exact ⟨E.trans hx3, by simp⟩
      rw [show decide (0 ≤ n) = true from decide_eq_true (by omega), show decide (n < L) = true from decide_eq_true (by omega)]
      have wl : IntKind.i64.wrap (L - n) = L - n := wrap_i64 (by omega) (by omega)
      have el : decide (1 < L - n) = decide (n + 1 < L) := decide_eq_decide.2 (by omega)
      cases htw : twoP x.op with
      | false =>
        simp (disch := first | omega | assumption) only [C.ref2_room_gos, T.tv, ↓reduceIte, Nat.reduceEqDiff, reduceCtorEq, Nat.reduceLeDiff, Nat.reducePow, Int.reducePow, Int.reduceToNat, Nat.reduceAdd, n0, nL, decide_true, decide_false]
        exact ⟨E.trans hx3, by simp⟩
      | true =>
        simp (disch := first | omega | assumption) only [C.ref2_room_gos, T.tv, ↓reduceIte, Nat.reduceEqDiff, reduceCtorEq, Nat.reduceLeDiff, Nat.reducePow, Int.reducePow, Int.reduceToNat, Nat.reduceAdd, n0, nL, wl, el, decide_true, decide_false]
        exact ⟨E.trans hx3, by simp⟩
    simp (disch := first | omega | assumption) only [C.ref2_room_gos, T.tv, ↓reduceIte, Nat.reduceEqDiff, reduceCtorEq, Nat.reduceLeDiff, Nat.reducePow, Int.reducePow, Int.reduceToNat, Nat.reduceAdd, eq_false f6, decide_true, decide_false]
    refine eff_callF rfl ((rform_any x.op hop h2).mono ?_)
    rintro v2 h2 ⟨rfl, rfl⟩
    by_cases f7 : frmL x.op = [110]
    case pos =>
      simp (disch := first | omega | assumption) only [C.ref2_room_gos, T.tv, ↓reduceIte, Nat.reduceEqDiff, reduceCtorEq, Nat.reduceLeDiff, Nat.reducePow, Int.reducePow, Int.reduceToNat, Nat.reduceAdd, q1, hld, eq_true f7, decide_true, decide_false]
      refine eff_callF rfl ((rlocal_any hop h2).mono ?_)
      rintro v3 h3 ⟨hx3, rfl⟩
      rw [hn]
      by_cases n0 : n < 0
      case pos =>
        rw [show decide (0 ≤ n) = false from decide_eq_false (by omega)]
        simp (disch := first | omega | assumption) only [C.ref2_room_gos, T.tv, ↓reduceIte, Nat.reduceEqDiff, reduceCtorEq, Nat.reduceLeDiff, Nat.reducePow, Int.reducePow, Int.reduceToNat, Nat.reduceAdd, n0, decide_true, decide_false]
        exact ⟨E.trans hx3, by simp⟩
      by_cases nL : L ≤ n
      case pos =>
        rw [show decide (n < L) = false from decide_eq_false (by omega)]
        simp (disch := first | omega | assumption) only [C.ref2_room_gos, T.tv, ↓reduceIte, Nat.reduceEqDiff, reduceCtorEq, Nat.reduceLeDiff, Nat.reducePow, Int.reducePow, Int.reduceToNat, Nat.reduceAdd, n0, nL, decide_true, decide_false]
        exact ⟨E.trans hx3, by simp⟩
      rw [show decide (0 ≤ n) = true from decide_eq_true (by omega), show decide (n < L) = true from decide_eq_true (by omega)]
      have wl : IntKind.i64.wrap (L - n) = L - n := wrap_i64 (by omega) (by omega)
      have el : decide (1 < L - n) = decide (n + 1 < L) := decide_eq_decide.2 (by omega)
      cases htw : twoP x.op with
      | false =>
        simp (disch := first | omega | assumption) only [C.ref2_room_gos, T.tv, ↓reduceIte, Nat.reduceEqDiff, reduceCtorEq, Nat.reduceLeDiff, Nat.reducePow, Int.reducePow, Int.reduceToNat, Nat.reduceAdd, n0, nL, decide_true, decide_false]
        exact ⟨E.trans hx3, by simp⟩
      | true =>
        simp (disch := first | omega | assumption) only [C.ref2_room_gos, T.tv, ↓reduceIte, Nat.reduceEqDiff, reduceCtorEq, Nat.reduceLeDiff, Nat.reducePow, Int.reducePow, Int.reduceToNat, Nat.reduceAdd, n0, nL, wl, el, decide_true, decide_false]
        exact ⟨E.trans hx3, by simp⟩
    have f6n : ¬ ((21 ≤ x.op ∧ x.op ≤ 25) ∨ (54 ≤ x.op ∧ x.op ≤ 58)) := fun e => f6 (hf.1.2 e)
    have f7n : ¬ x.op = 132 := fun e => f7 (hf.2.2 e)
    have g1 : (26 : Int) ≤ (x.op : Int) := by omega
    by_cases d1 : x.op ≤ 45
    case pos =>
      have g2 : (x.op : Int) ≤ 45 := by omega
      simp (disch := first | omega | assumption) only [C.ref2_room_gos, T.tv, ↓reduceIte, Nat.reduceEqDiff, reduceCtorEq, Nat.reduceLeDiff, Nat.reducePow, Int.reducePow, Int.reduceToNat, Nat.reduceAdd, q1, hld, eq_false f7, g1, g2, decide_true, decide_false]
      refine eff_callF rfl ((rlocal_any hop h2).mono ?_)
      rintro v3 h3 ⟨hx3, rfl⟩
      rw [hn]
      by_cases n0 : n < 0
      case pos =>
        rw [show decide (0 ≤ n) = false from decide_eq_false (by omega)]
        simp (disch := first | omega | assumption) only [C.ref2_room_gos, T.tv, ↓reduceIte, Nat.reduceEqDiff, reduceCtorEq, Nat.reduceLeDiff, Nat.reducePow, Int.reducePow, Int.reduceToNat, Nat.reduceAdd, n0, decide_true, decide_false]
        exact ⟨E.trans hx3, by simp⟩
      by_cases nL : L ≤ n
      case pos =>
        rw [show decide (n < L) = false from decide_eq_false (by omega)]
        simp (disch := first | omega | assumption) only [C.ref2_room_gos, T.tv, ↓reduceIte, Nat.reduceEqDiff, reduceCtorEq, Nat.reduceLeDiff, Nat.reducePow, Int.reducePow, Int.reduceToNat, Nat.reduceAdd, n0, nL, decide_true, decide_false]
        exact ⟨E.trans hx3, by simp⟩
      rw [show decide (0 ≤ n) = true from decide_eq_true (by omega), show decide (n < L) = true from decide_eq_true (by omega)]
      have wl : IntKind.i64.wrap (L - n) = L - n := wrap_i64 (by omega) (by omega)
      have el : decide (1 < L - n) = decide (n + 1 < L) := decide_eq_decide.2 (by omega)
      cases htw : twoP x.op with
      | false =>
        simp (disch := first | omega | assumption) only [C.ref2_room_gos, T.tv, ↓reduceIte, Nat.reduceEqDiff, reduceCtorEq, Nat.reduceLeDiff, Nat.reducePow, Int.reducePow, Int.reduceToNat, Nat.reduceAdd, n0, nL, decide_true, decide_false]
        exact ⟨E.trans hx3, by simp⟩
      | true =>
        simp (disch := first | omega | assumption) only [C.ref2_room_gos, T.tv, ↓reduceIte, Nat.reduceEqDiff, reduceCtorEq, Nat.reduceLeDiff, Nat.reducePow, Int.reducePow, Int.reduceToNat, Nat.reduceAdd, n0, nL, wl, el, decide_true, decide_false]
        exact ⟨E.trans hx3, by simp⟩
    have g2 : ¬ (x.op : Int) ≤ 45 := by omega
    have g3 : (59 : Int) ≤ (x.op : Int) := by omega
    have g4 : (x.op : Int) ≤ 78 := by omega
    simp (disch := first | omega | assumption) only [C.ref2_room_gos, T.tv, ↓reduceIte, Nat.reduceEqDiff, reduceCtorEq, Nat.reduceLeDiff, Nat.reducePow, Int.reducePow, Int.reduceToNat, Nat.reduceAdd, q1, hld, eq_false f7, g1, g2, g3, g4, decide_true, decide_false]
    refine eff_callF rfl ((rlocal_any hop h2).mono ?_)
    rintro v3 h3 ⟨hx3, rfl⟩
    rw [hn]
    by_cases n0 : n < 0
    case pos =>
      rw [show decide (0 ≤ n) = false from decide_eq_false (by omega)]
      simp (disch := first | omega | assumption) only [C.ref2_room_gos, T.tv, ↓reduceIte, Nat.reduceEqDiff, reduceCtorEq, Nat.reduceLeDiff, Nat.reducePow, Int.reducePow, Int.reduceToNat, Nat.reduceAdd, n0, decide_true, decide_false]
      exact ⟨E.trans hx3, by simp⟩
    by_cases nL : L ≤ n
    case pos =>
      rw [show decide (n < L) = false from decide_eq_false (by omega)]
      simp (disch := first | omega | assumption) only [C.ref2_room_gos, T.tv, ↓reduceIte, Nat.reduceEqDiff, reduceCtorEq, Nat.reduceLeDiff, Nat.reducePow, Int.reducePow, Int.reduceToNat, Nat.reduceAdd, n0, nL, decide_true, decide_false]
      exact ⟨E.trans hx3, by simp⟩
    rw [show decide (0 ≤ n) = true from decide_eq_true (by omega), show decide (n < L) = true from decide_eq_true (by omega)]
    have wl : IntKind.i64.wrap (L - n) = L - n := wrap_i64 (by omega) (by omega)
    have el : decide (1 < L - n) = decide (n + 1 < L) := decide_eq_decide.2 (by omega)
    cases htw : twoP x.op with
    | false =>
      simp (disch := first | omega | assumption) only [C.ref2_room_gos, T.tv, ↓reduceIte, Nat.reduceEqDiff, reduceCtorEq, Nat.reduceLeDiff, Nat.reducePow, Int.reducePow, Int.reduceToNat, Nat.reduceAdd, n0, nL, decide_true, decide_false]
      exact ⟨E.trans hx3, by simp⟩
    | true =>
      simp (disch := first | omega | assumption) only [C.ref2_room_gos, T.tv, ↓reduceIte, Nat.reduceEqDiff, reduceCtorEq, Nat.reduceLeDiff, Nat.reducePow, Int.reducePow, Int.reduceToNat, Nat.reduceAdd, n0, nL, wl, el, decide_true, decide_false]
      exact ⟨E.trans hx3, by simp⟩
end
end Go.Proofs.YtgdmoimclelfhaaDoor
