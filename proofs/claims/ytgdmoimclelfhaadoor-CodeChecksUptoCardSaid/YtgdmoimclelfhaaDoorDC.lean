/- strings.Split at a slash. No condition. -/
import Derived.Test.YtgdmoimclelfhaaDoorDB
namespace Go.Proofs.YtgdmoimclelfhaaDoor
open Go.Vc
set_option maxRecDepth 100000
set_option linter.unusedSimpArgs false
set_option linter.unusedVariables false

theorem run_ct (c : UInt8) (l : List UInt8) (w : World) : (Extern.BytealgCount.count #[str l, .int .u8 (c.toNat : Int)]).run Tryd.prog w = .ok (.int .i64 (l.count c : Nat)) w := by
  have h := Lib.run_countString (P := Tryd.prog) ⟨l.toArray⟩ (c.toNat : Int) w
  have hc : ((c.toNat : Int)).toNat.toUInt8 = c := by simp
  rw [hc] at h
  exact h
theorem count_any {h : Heap} (l : List UInt8) : HCalls Tryd.prog 60 #[str l, str [47]] h fun v h' => h' = h ∧ v = .int .i64 (l.count 47 : Nat) := by
  refine C.s_Count_calls (args := [str l, str [47]]) rfl ?_
  have f0 : ¬ (1 : Int) = 0 := by decide
  have f1 : ((1 : Nat) : Int) = 1 := rfl
  have f2 : (0 : Int) < ((([47] : List UInt8).length : Nat) : Int) := by decide
  simp (disch := first | omega | assumption) only [C.s_Count_gos, T.tv, ↓reduceIte, Nat.reduceEqDiff, reduceCtorEq, Nat.reduceLeDiff, Nat.reducePow, Int.reducePow, Int.reduceToNat, Nat.reduceAdd, f0, f1, f2, decide_true, decide_false]
  refine eff_callX (v := .int .i64 (l.count 47 : Nat)) rfl Tryd.func64 (by kernel_rfl) (by kernel_rfl) (by kernel_rfl) (by kernel_rfl) (run_ct 47 l) ?_
  simp (disch := first | omega | assumption) only [C.s_Count_gos, T.tv, ↓reduceIte, Nat.reduceEqDiff, reduceCtorEq, Nat.reduceLeDiff, Nat.reducePow, Int.reducePow, Int.reduceToNat, Nat.reduceAdd]
theorem slIndex_any {h : Heap} (l : List UInt8) : HCalls Tryd.prog 65 #[str l, str [47]] h fun v h' => h' = h ∧ v = .int .i64 (ib l 47) := by
  refine C.sl_Index_calls (args := [str l, str [47]]) rfl ?_
  have f0 : ¬ (1 : Int) = 0 := by decide
  have f1 : ((1 : Nat) : Int) = 1 := rfl
  have f2 : (0 : Int) < ((([47] : List UInt8).length : Nat) : Int) := by decide
  by_cases he : [47] = l
  · subst he
    simp (disch := first | omega | assumption) only [C.sl_Index_gos, T.tv, ↓reduceIte, Nat.reduceEqDiff, reduceCtorEq, Nat.reduceLeDiff, Nat.reducePow, Int.reducePow, Int.reduceToNat, Nat.reduceAdd, f0, f1, decide_true, decide_false]
    rfl
  · simp (disch := first | omega | assumption) only [C.sl_Index_gos, T.tv, ↓reduceIte, Nat.reduceEqDiff, reduceCtorEq, Nat.reduceLeDiff, Nat.reducePow, Int.reducePow, Int.reduceToNat, Nat.reduceAdd, f0, f1, f2, he, decide_true, decide_false]
    refine eff_callF rfl ((slIndexByte_any 47 l).mono ?_)
    rintro v1 h1 ⟨rfl, rfl⟩
    simp (disch := first | omega | assumption) only [C.sl_Index_gos, T.tv, ↓reduceIte, Nat.reduceEqDiff, reduceCtorEq, Nat.reduceLeDiff, Nat.reducePow, Int.reducePow, Int.reduceToNat, Nat.reduceAdd]
theorem index_any {h : Heap} (l : List UInt8) : HCalls Tryd.prog 61 #[str l, str [47]] h fun v h' => h' = h ∧ v = .int .i64 (ib l 47) := by
  refine C.s_Index_calls (args := [str l, str [47]]) rfl ?_
  simp (disch := first | omega | assumption) only [C.s_Index_gos, T.tv, ↓reduceIte, Nat.reduceEqDiff, reduceCtorEq, Nat.reduceLeDiff, Nat.reducePow, Int.reducePow, Int.reduceToNat, Nat.reduceAdd]
  refine eff_callF rfl ((slIndex_any l).mono ?_)
  rintro v1 h1 ⟨rfl, rfl⟩
  simp (disch := first | omega | assumption) only [C.s_Index_gos, T.tv, ↓reduceIte, Nat.reduceEqDiff, reduceCtorEq, Nat.reduceLeDiff, Nat.reducePow, Int.reducePow, Int.reduceToNat, Nat.reduceAdd]

theorem genSplit_any {h : Heap} (l : List UInt8) (hl : l.length ≤ 4294967296) :
    HCalls Tryd.prog 58 #[str l, str [47], .int .i64 0, .int .i64 (-1)] h fun v h' => Ext h h' ∧ Sl h' v ((pieces [] l).map str) := by
  refine C.s_genSplit_calls (args := [str l, str [47], .int .i64 0, .int .i64 (-1)]) rfl ?_
  have f0 : ¬ ((-1 : Int) = 0) := by decide
  have f1 : ¬ (([47] : List UInt8) = []) := by decide
  have f2 : (-1 : Int) < 0 := by decide
  simp (disch := first | omega | assumption) only [C.s_genSplit_gos, T.tv, ↓reduceIte, Nat.reduceEqDiff, reduceCtorEq, Nat.reduceLeDiff, Nat.reducePow, Int.reducePow, Int.reduceToNat, Nat.reduceAdd, f0, f1, f2, decide_true, decide_false]
  refine eff_callF rfl ((count_any l).mono ?_)
  rintro v1 h1 ⟨rfl, rfl⟩
  obtain ⟨n, hn⟩ : ∃ n, n = l.count 47 := ⟨_, rfl⟩
  have hnl : n ≤ l.length := by rw [hn]; exact List.count_le_length
  rw [← hn]
  have f3 : (if (l.length : Int) + 1 < (n : Int) + 1 then (l.length : Int) + 1 else (n : Int) + 1) = ((n + 1 : Nat) : Int) := by rw [if_neg (by omega)]; omega
  simp (disch := first | omega | assumption) only [C.s_genSplit_gos, T.tv, ↓reduceIte, Nat.reduceEqDiff, reduceCtorEq, Nat.reduceLeDiff, Nat.reducePow, Int.reducePow, Int.reduceToNat, Nat.reduceAdd, f3]
  refine eff_make T.slT_57 rfl rfl (by omega) (by omega) (by omega) ?_
  intro cs z ii hii hzz hcs
  have hsz : cs.size = n + 1 := by rw [hcs, size_madeCells]; omega
  clear hcs hzz hii
  rw [show ((n + 1 : Nat) : Int).toNat = n + 1 by omega]
  have E := Ext.push h1 (.cells cs 9)
  have b0 : (h1.push (.cells cs 9))[h1.size]? = some (.cells cs 9 (0, 0)) := by simp
  generalize h1.push (.cells cs 9) = h2 at *
  obtain ⟨g, hg⟩ : ∃ x, x = h1.size := ⟨_, rfl⟩
  rw [← hg] at b0 ⊢
  have f4 : IntKind.i64.wrap (((n + 1 : Nat) : Int) - 1) = (n : Int) := by rw [wrap_i64 (by omega) (by omega)]; omega
  simp (disch := first | omega | assumption) only [C.s_genSplit_gos, T.tv, ↓reduceIte, Nat.reduceEqDiff, reduceCtorEq, Nat.reduceLeDiff, Nat.reducePow, Int.reducePow, Int.reduceToNat, Nat.reduceAdd, f4]
  refine loop_intro [0, 1, 2, 3, 9, 10] (fun m ρ hc => ∃ (i : Nat) (done : List (List UInt8)) (r : List UInt8) (cells : Array Value), m = n - i ∧ i ≤ n ∧
    ρ = [(0, str r), (1, str [47]), (2, .int .i64 0), (3, .int .i64 (n : Int)), (9, .slice (some ⟨g, 0, none⟩) (n + 1) (n + 1)), (10, .int .i64 (i : Int))] ∧ Ext h1 hc ∧
    hc[g]? = some (.cells cells 9 (0, 0)) ∧ cells.size = n + 1 ∧ done.length = i ∧ cells.toList.take i = done.map str ∧ pieces [] l = done ++ pieces [] r ∧ r.length ≤ l.length) ?_ ?_
  · simp (disch := first | omega | assumption) only [C.s_genSplit_gos, T.tv, ↓reduceIte, Nat.reduceEqDiff, reduceCtorEq, Nat.reduceLeDiff, Nat.reducePow, Int.reducePow, Int.reduceToNat, Nat.reduceAdd]
    exact ⟨_, 0, [], l, cs, rfl, Nat.zero_le _, rfl, E, b0, hsz, rfl, by simp, by simp, Nat.le_refl _⟩
  rintro m ρ hc ⟨i, done, r, cells, rfl, hi, rfl, hx, hb, hcs, hdl, htk, hpc, hrl⟩
  have hcnt : r.count 47 = n - i := by
    have e1 := pieces_len (l := l) (acc := [])
    have e2 := pieces_len (l := r) (acc := [])
    rw [hpc, List.length_append, e2, hdl] at e1
    omega
  have store : ∀ v : List UInt8, ∃ cells' : Array Value, (setAt hc ⟨g, i, none⟩ (str v))[g]? = some (.cells cells' 9 (0, 0)) ∧ cells'.size = n + 1 ∧ cells'.toList.take (i + 1) = (done ++ [v]).map str ∧ Ext h1 (setAt hc ⟨g, i, none⟩ (str v)) := by
    intro v
    refine ⟨_, setAt_get (o := i) hb (str v), by simp [hcs], ?_, Fr.trans (T := fun _ => False) hx (Fr.set (S := fun k => k = g) hc ⟨g, i, none⟩ (str v) fun _ => rfl) (fun _ _ h => h) fun k hk hS => by omega⟩
    rw [Array.toList_setIfInBounds, List.take_add_one, List.take_set_of_le (Nat.le_refl _), htk]
    simp [hcs, show i < n + 1 by omega]
  have hz : frozenAt hc ⟨g, i, none⟩ = false := by unfold frozenAt; rw [hb]; simp
  have hil : i < cells.size := by omega
  have hc0 : cellAt hc ⟨g, i, none⟩ = some (cells[i]) := by rw [cellAt_of hb]; simp [hil]
  by_cases hlt : i < n
  · have hlt' : (i : Int) < (n : Int) := by omega
    simp (disch := first | omega | assumption) only [C.s_genSplit_gos, T.tv, ↓reduceIte, Nat.reduceEqDiff, reduceCtorEq, Nat.reduceLeDiff, Nat.reducePow, Int.reducePow, Int.reduceToNat, Nat.reduceAdd, hlt', decide_true]
    refine eff_callF rfl ((index_any r).mono ?_)
    rintro v3 h3 ⟨rfl, rfl⟩
    rcases ib_spec 47 r with ⟨_, hno⟩ | ⟨k, hk, hib, hat, hnot⟩
    · exact absurd (List.count_eq_zero.2 hno) (by omega)
    rw [hib]
    have g0 : ¬ (k : Int) < 0 := by omega
    have g1 : (k : Int) ≤ (r.length : Int) := by omega
    have g2 : IntKind.i64.wrap ((k : Int) + 0) = (k : Int) := by rw [Int.add_zero, wrap_i64 (by omega) (by omega)]
    have g3 : (i : Int) < ((n + 1 : Nat) : Int) := by omega
    have g4 : IntKind.i64.wrap ((k : Int) + ((1 : Nat) : Int)) = ((k + 1 : Nat) : Int) := by rw [wrap_i64 (by omega) (by omega)]; omega
    simp (disch := first | omega | assumption) only [C.s_genSplit_gos, T.tv, ↓reduceIte, Nat.reduceEqDiff, reduceCtorEq, Nat.reduceLeDiff, Nat.reducePow, Int.reducePow, Int.reduceToNat, Nat.reduceAdd, g0, g1, g2, g3, decide_false]
    obtain ⟨cells', s1, s2, s3, s4⟩ := store (r.take k)
    refine eff_store1_z (v := str (r.take k)) (b := g) (o := i) T.zr_9 rfl rfl rfl rfl rfl hc0 hz ?_
    generalize setAt h3 ⟨g, i, none⟩ (str (r.take k)) = h4 at *
    have g5 : ((k + 1 : Nat) : Int) ≤ (r.length : Int) := by omega
    simp (disch := first | omega | assumption) only [C.s_genSplit_gos, T.tv, ↓reduceIte, Nat.reduceEqDiff, reduceCtorEq, Nat.reduceLeDiff, Nat.reducePow, Int.reducePow, Int.reduceToNat, Nat.reduceAdd, g4, g5]
    refine ⟨n - (i + 1), by omega, i + 1, done ++ [r.take k], r.drop (k + 1), cells', rfl, by omega, rfl, s4, s1, s2, by simp [hdl], s3, ?_, by rw [List.length_drop]; omega⟩
    rw [hpc, pieces_at hat hnot]; simp
  · have hlt' : ¬ (i : Int) < (n : Int) := by omega
    have hin : i = n := by omega
    have g3 : (i : Int) < ((n + 1 : Nat) : Int) := by omega
    simp (disch := first | omega | assumption) only [C.s_genSplit_gos, T.tv, ↓reduceIte, Nat.reduceEqDiff, reduceCtorEq, Nat.reduceLeDiff, Nat.reducePow, Int.reducePow, Int.reduceToNat, Nat.reduceAdd, hlt', g3, decide_false]
    obtain ⟨cells', s1, s2, s3, s4⟩ := store r
    refine eff_store1_z (v := str r) (b := g) (o := i) T.zr_9 rfl rfl rfl rfl rfl hc0 hz ?_
    generalize setAt hc ⟨g, i, none⟩ (str r) = h4 at *
    simp (disch := first | omega | assumption) only [C.s_genSplit_gos, T.tv, ↓reduceIte, Nat.reduceEqDiff, reduceCtorEq, Nat.reduceLeDiff, Nat.reducePow, Int.reducePow, Int.reduceToNat, Nat.reduceAdd]
    refine ⟨s4, ?_⟩
    have hno : (47 : UInt8) ∉ r := List.count_eq_zero.1 (by omega)
    have hp : pieces [] l = done ++ [r] := by rw [hpc, pieces_none hno]; simp
    rw [hp]
    have hlen : ((i : Int) + 1).toNat - 0 = ((done ++ [r]).map str).length := by rw [List.length_map, List.length_append, hdl, List.length_singleton]; omega
    rw [hlen]
    refine ⟨_, _, rfl, .inr ⟨g, 0, ?_, fun j v hv => ?_⟩⟩
    · unfold slA
      split
      · rfl
      · simp [Addr.add]
    · rw [Nat.zero_add, cellAt_of s1]
      rw [← s3, List.getElem?_take] at hv
      split at hv
      · simpa using hv
      · cases hv
theorem split_any {h : Heap} (l : List UInt8) (hl : l.length ≤ 4294967296) :
    HCalls Tryd.prog 52 #[str l, str [47]] h fun v h' => Ext h h' ∧ Sl h' v ((pieces [] l).map str) := by
  refine C.s_Split_calls (args := [str l, str [47]]) rfl ?_
  simp (disch := first | omega | assumption) only [C.s_Split_gos, T.tv, ↓reduceIte, Nat.reduceEqDiff, reduceCtorEq, Nat.reduceLeDiff, Nat.reducePow, Int.reducePow, Int.reduceToNat, Nat.reduceAdd]
  refine eff_callF rfl ((genSplit_any l hl).mono ?_)
  rintro v1 h1 ⟨hx, hs⟩
  simp (disch := first | omega | assumption) only [C.s_Split_gos, T.tv, ↓reduceIte, Nat.reduceEqDiff, reduceCtorEq, Nat.reduceLeDiff, Nat.reducePow, Int.reducePow, Int.reduceToNat, Nat.reduceAdd]
  exact ⟨hx, hs⟩
end Go.Proofs.YtgdmoimclelfhaaDoor
