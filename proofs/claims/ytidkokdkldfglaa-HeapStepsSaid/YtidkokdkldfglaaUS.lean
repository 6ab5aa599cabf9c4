/- All looked at: references turned, things taken out, by the program. No condition. -/
import Derived.Test.YtidkokdkldfglaaUO
namespace Go.Proofs.Ytidkokdkldfglaa
open Go.Vc
set_option maxRecDepth 100000
set_option linter.unusedSimpArgs false
set_option linter.unusedVariables false

theorem Major2_any {base : Nat} {h : Heap} {p : Ph} {s : St} {b : Nat} (R : Rep base h p s) (B : Bx h p s b) {loc : Loc} {x : Nat} {c : CP} (hl : getL s loc = some x) (hc : s.old[x]? = some c) :
    HCalls Try.prog 49 #[ptr (locB p loc) (locO loc), ptr b 0] h fun v h' => Stp base h h' p p s (setL s loc c.to) := by
  refine C.h_Major2_calls (args := [ptr (locB p loc) (locO loc), ptr b 0]) rfl ?_
  have lc := R.locc hl
  have lc1 := lc.1
  have bx := B.get
  have l1 := R.h1
  have hx := (List.getElem?_eq_some_iff.1 hc).1
  have a5 : cellAt h ⟨p.O, x * 7 + 5, none⟩ = some (.int .u32 (c.to : Int)) := Own_at R.oo (by rw [rows_get hc (by decide)]; rfl)
  have b1 : (0 : Int) ≤ (x : Int) := by omega
  have b2 : (x : Int) < (s.old.length : Int) := by omega
  simp (disch := first | omega | assumption) only [C.h_Major2_gos, T.tv, ↓reduceIte, Nat.reduceEqDiff, reduceCtorEq, Nat.reduceLeDiff, Nat.reducePow, Int.reducePow, Int.reduceToNat, Nat.reduceAdd, lc1, refV, bx, l1, a5, b1, b2]
  refine eff_store1_z T.zr_51 rfl rfl rfl rfl rfl lc1 lc.2 ?_
  simp (disch := first | omega | assumption) only [C.h_Major2_gos, T.tv, ↓reduceIte, Nat.reduceEqDiff, reduceCtorEq, Nat.reduceLeDiff, Nat.reducePow, Int.reducePow, Int.reduceToNat, Nat.reduceAdd]
  exact R.locs hl c.to
/-- Is it to be taken out? -/
theorem Major3_any {h : Heap} {c : CP} : HCalls Try.prog 51 #[.agg c.row.toArray] h fun v h' => Ext h h' ∧ v = .bool (decide (c.to = 0)) := by
  refine C.h_Major3_calls (args := [.agg c.row.toArray]) rfl ?_
  simp (disch := first | omega | assumption) only [C.h_Major3_gos, T.tv, ↓reduceIte, Nat.reduceEqDiff, reduceCtorEq, Nat.reduceLeDiff, Nat.reducePow, Int.reducePow, Int.reduceToNat, Nat.reduceAdd]
  refine eff_box ?_
  have X := Ext.push h (.cells c.row.toArray 85 (0, 0))
  have l5 : cellAt (h.push (.cells c.row.toArray 85 (0, 0))) ⟨h.size, 5, none⟩ = some (.int .u32 (c.to : Int)) := cellAt_push_new
  have e : (decide ((c.to : Int) = 0)) = decide (c.to = 0) := by
    by_cases h : c.to = 0
    · rw [decide_eq_true h, decide_eq_true (by omega)]
    · rw [decide_eq_false h, decide_eq_false (by omega)]
  simp (disch := first | omega | assumption) only [C.h_Major3_gos, T.tv, ↓reduceIte, Nat.reduceEqDiff, reduceCtorEq, Nat.reduceLeDiff, Nat.reducePow, Int.reducePow, Int.reduceToNat, Nat.reduceAdd, l5, e]
  first | exact X | exact ⟨X, rfl⟩
def goes (c : CP) : Bool := c.to != 0
theorem own_row {h : Heap} {base g n cap : Nat} {l : List CP} (O : Own h base 85 7 (.slice (some ⟨g, 0, none⟩) n cap) n (rows l)) {i : Nat} {c : CP} (hc : l[i]? = some c) : ld Try.prog 85 ⟨g, i * 7, none⟩ h = some (.agg c.row.toArray) := by
  have hl := (List.getElem?_eq_some_iff.1 hc).1
  refine ld_agg T.ag_85 (vs := c.row) ?_ rfl
  intro j v hv
  have hj : j < 7 := (List.getElem?_eq_some_iff.1 hv).1
  exact Own_at O (by rw [rows_get hc hj]; exact hv)
set_option maxHeartbeats 1000000 in
theorem Index_any {h : Heap} {base g n cap : Nat} {l : List CP} (O : Own h base 85 7 (.slice (some ⟨g, 0, none⟩) n cap) n (rows l)) (hl : l.length = n) (hn : n ≤ 1000000) :
    HCalls Try.prog 52 #[.slice (some ⟨g, 0, none⟩) n cap, .func (.func 51) #[] #[]] h fun v h' => Ext h h' ∧
      ((v = .int .i64 (-1) ∧ ∀ c ∈ l, goes c = true) ∨ ∃ (i : Nat) (c : CP), l[i]? = some c ∧ goes c = false ∧ v = .int .i64 (i : Int) ∧ ∀ c ∈ l.take i, goes c = true) := by
  refine C.h_Index_calls (args := [.slice (some ⟨g, 0, none⟩) n cap, .func (.func 51) #[] #[]]) rfl ?_
  simp (disch := first | omega | assumption) only [C.h_Index_gos, T.tv, ↓reduceIte, Nat.reduceEqDiff, reduceCtorEq, Nat.reduceLeDiff, Nat.reducePow, Int.reducePow, Int.reduceToNat, Nat.reduceAdd]
  refine loop_intro [0, 1, 7, 8] (fun m ρ hc => ∃ i, m = n - i ∧ i ≤ n ∧ ρ = [(0, .slice (some ⟨g, 0, none⟩) n cap), (1, .func (.func 51) #[] #[]), (7, .int .i64 (n : Int)), (8, .int .i64 (i : Int))] ∧ Ext h hc ∧ ∀ c ∈ l.take i, goes c = true) ?_ ?_
  · simp (disch := first | omega | assumption) only [C.h_Index_gos, T.tv, ↓reduceIte, Nat.reduceEqDiff, reduceCtorEq, Nat.reduceLeDiff, Nat.reducePow, Int.reducePow, Int.reduceToNat, Nat.reduceAdd]
    exact ⟨_, 0, rfl, Nat.zero_le _, rfl, Ext.refl _, by simp⟩
  rintro m ρ hc ⟨i, rfl, hi, rfl, X, hg⟩
  by_cases c1 : i < n
  · have c2 : (i : Int) < (n : Int) := by omega
    have b1 : (0 : Int) ≤ (i : Int) := by omega
    have w : IntKind.i64.wrap ((i : Int) + 1) = ((i + 1 : Nat) : Int) := by rw [wrap_i64 (by omega) (by omega)]; omega
    have hci : l[i]? = some l[i] := by simp
    generalize l[i] = c at hci
    have lr := own_row (O.ext X) hci
    simp (disch := first | omega | assumption) only [C.h_Index_gos, T.tv, ↓reduceIte, Nat.reduceEqDiff, reduceCtorEq, Nat.reduceLeDiff, Nat.reducePow, Int.reducePow, Int.reduceToNat, Nat.reduceAdd, c2, b1, lr]
    refine eff_callC rfl rfl T.able_51 (Major3_any.mono ?_)
    rintro v h1 ⟨X1, rfl⟩
    by_cases c3 : c.to = 0
    · rw [decide_eq_true c3]
      simp (disch := first | omega | assumption) only [C.h_Index_gos, T.tv, ↓reduceIte, Nat.reduceEqDiff, reduceCtorEq, Nat.reduceLeDiff, Nat.reducePow, Int.reducePow, Int.reduceToNat, Nat.reduceAdd]
      refine ⟨X.trans X1, .inr ⟨i, c, hci, by unfold goes; simp [c3], rfl, hg⟩⟩
    · rw [decide_eq_false c3]
      simp (disch := first | omega | assumption) only [C.h_Index_gos, T.tv, ↓reduceIte, Nat.reduceEqDiff, reduceCtorEq, Nat.reduceLeDiff, Nat.reducePow, Int.reducePow, Int.reduceToNat, Nat.reduceAdd, w]
      refine ⟨_, by omega, i + 1, rfl, by omega, rfl, X.trans X1, fun d hd => ?_⟩
      rw [List.take_add_one, hci] at hd
      rcases List.mem_append.1 hd with h | h
      · exact hg d h
      · simp only [Option.toList_some, List.mem_singleton] at h; subst h; unfold goes; simp [c3]
  · have c2 : ¬ (i : Int) < (n : Int) := by omega
    simp (disch := first | omega | assumption) only [C.h_Index_gos, T.tv, ↓reduceIte, Nat.reduceEqDiff, reduceCtorEq, Nat.reduceLeDiff, Nat.reducePow, Int.reducePow, Int.reduceToNat, Nat.reduceAdd, c2]
    have hall : ∀ c ∈ l, goes c = true := fun c hc => hg c (by rw [List.take_of_length_le (by omega)]; exact hc)
    exact ⟨X, .inl hall⟩
theorem rows_put : ∀ {l : List CP} {i : Nat} {c c' : CP}, l[i]? = some c → rows (l.set i c') = (rows l).take (i * 7) ++ c'.row ++ (rows l).drop (i * 7 + 7)
  | [], i, c, c', h => by simp at h
  | d :: r, 0, c, c', h => by
    rw [List.set_cons_zero, rows, rows, Nat.zero_mul, List.take_zero, List.nil_append, Nat.zero_add, List.drop_append, row_len, List.drop_of_length_le (by rw [row_len]; omega), List.nil_append, Nat.sub_self, List.drop_zero]
  | d :: r, i + 1, c, c', h => by
    rw [List.getElem?_cons_succ] at h
    have e1 : (d.row ++ rows r).take ((i + 1) * 7) = d.row ++ (rows r).take (i * 7) := by
      rw [List.take_append, row_len, show (i + 1) * 7 - 7 = i * 7 by omega]
      congr 1
      exact List.take_of_length_le (by rw [row_len]; omega)
    have e2 : (d.row ++ rows r).drop ((i + 1) * 7 + 7) = (rows r).drop (i * 7 + 7) := by
      rw [List.drop_append, row_len, show (i + 1) * 7 + 7 - 7 = i * 7 + 7 by omega, List.drop_of_length_le (l := d.row) (by rw [row_len]; omega), List.nil_append]
    rw [List.set_cons_succ, rows, rows, rows_put (c' := c') h, e1, e2]
    simp only [List.append_assoc]
theorem Own.put {h h' : Heap} {base g n cap : Nat} {l : List CP} (O : Own h base 85 7 (.slice (some ⟨g, 0, none⟩) n cap) n (rows l)) {i : Nat} {c c' : CP} (hc : l[i]? = some c)
    (H : ∀ cur fz, h[g]? = some (.cells cur 85 fz) → h'[g]? = some (.cells (cur.toList.take (i * 7) ++ c'.row ++ cur.toList.drop (i * 7 + 7)).toArray 85 fz)) : Own h' base 85 7 (.slice (some ⟨g, 0, none⟩) n cap) n (rows (l.set i c')) := by
  have hil := (List.getElem?_eq_some_iff.1 hc).1
  obtain ⟨hl, h0⟩ := O
  rcases h0 with ⟨hv, _⟩ | ⟨g', cap', cur, fz, hv, hb, hg, hfz, hnc, hcm, hcs, htk⟩
  · cases hv
  · cases hv
    have hmul := Nat.mul_le_mul_right 7 hnc
    rw [rows_len] at hl
    have hcl : cur.toList.length = cap * 7 := by rw [Array.length_toList, hcs]
    refine ⟨by rw [rows_len, List.length_set]; exact hl, .inr ⟨g, cap, _, fz, rfl, hb, H cur fz hg, hfz, hnc, hcm, ?_, ?_⟩⟩
    · simp only [List.size_toArray, List.length_append, List.length_take, List.length_drop, hcl, row_len]; omega
    · show (cur.toList.take (i * 7) ++ c'.row ++ cur.toList.drop (i * 7 + 7)).take (n * 7) = _
      rw [rows_put hc, ← htk]
      rw [List.take_append, List.length_append, List.length_take, hcl, row_len, Nat.min_eq_left (by omega), List.take_of_length_le (by simp only [List.length_append, List.length_take, hcl, row_len]; omega),
        List.take_take, Nat.min_eq_left (by omega), List.drop_take]
set_option maxHeartbeats 1000000 in
theorem Delete_any {h : Heap} {base g n cap : Nat} {l : List CP} (O : Own h base 85 7 (.slice (some ⟨g, 0, none⟩) n cap) n (rows l)) (hl : l.length = n) (hn : n ≤ 1000000) :
    HCalls Try.prog 50 #[.slice (some ⟨g, 0, none⟩) n cap, .func (.func 51) #[] #[]] h fun v h' => Fr (fun k => k = g) h h' ∧
      v = .slice (some ⟨g, 0, none⟩) (l.filter goes).length cap ∧ Own h' base 85 7 (.slice (some ⟨g, 0, none⟩) (l.filter goes).length cap) (l.filter goes).length (rows (l.filter goes)) := by
  refine C.h_Delete_calls (args := [.slice (some ⟨g, 0, none⟩) n cap, .func (.func 51) #[] #[]]) rfl ?_
  simp (disch := first | omega | assumption) only [C.h_Delete_gos, T.tv, ↓reduceIte, Nat.reduceEqDiff, reduceCtorEq, Nat.reduceLeDiff, Nat.reducePow, Int.reducePow, Int.reduceToNat, Nat.reduceAdd]
  refine eff_callF rfl ((Index_any O hl hn).mono ?_)
  rintro v h1 ⟨X, hv⟩
  have O1 := O.ext X
  have F1 : Fr (fun k => k = g) h h1 := X.mono fun _ _ h => h.elim
  rcases hv with ⟨rfl, hall⟩ | ⟨i, c, hc, hg, rfl, hpre⟩
  · have e : l.filter goes = l := List.filter_eq_self.2 hall
    simp (disch := first | omega | assumption) only [C.h_Delete_gos, T.tv, ↓reduceIte, Nat.reduceEqDiff, reduceCtorEq, Nat.reduceLeDiff, Nat.reducePow, Int.reducePow, Int.reduceToNat, Nat.reduceAdd]
    rw [e, hl]
    first | exact ⟨F1, O1⟩ | exact ⟨F1, rfl, O1⟩
  · have hil := (List.getElem?_eq_some_iff.1 hc).1
    have c1 : ¬ (i : Int) = -1 := by omega
    have w1 : IntKind.i64.wrap ((i : Int) + 1) = ((i + 1 : Nat) : Int) := by rw [wrap_i64 (by omega) (by omega)]; omega
    simp (disch := first | omega | assumption) only [C.h_Delete_gos, T.tv, ↓reduceIte, Nat.reduceEqDiff, reduceCtorEq, Nat.reduceLeDiff, Nat.reducePow, Int.reducePow, Int.reduceToNat, Nat.reduceAdd, c1, w1]
    have e0 : l.take i = (l.take (i + 1)).filter goes := by
      rw [List.take_add_one, hc, List.filter_append, List.filter_eq_self.2 hpre]
      simp [hg]
    refine loop_intro [0, 1, 5, 6] (fun m ρ hc => ∃ i j L, m = n - j ∧ j ≤ n ∧ i < j ∧ L.length = n ∧ ρ = [(0, .slice (some ⟨g, 0, none⟩) n cap), (1, .func (.func 51) #[] #[]), (5, .int .i64 (i : Int)), (6, .int .i64 (j : Int))] ∧
      Fr (fun k => k = g) h hc ∧ Own hc base 85 7 (.slice (some ⟨g, 0, none⟩) n cap) n (rows L) ∧ L.take i = (l.take j).filter goes ∧ L.drop j = l.drop j) ?_ ?_
    · simp (disch := first | omega | assumption) only [C.h_Delete_gos, T.tv, ↓reduceIte, Nat.reduceEqDiff, reduceCtorEq, Nat.reduceLeDiff, Nat.reducePow, Int.reducePow, Int.reduceToNat, Nat.reduceAdd]
      exact ⟨_, i, i + 1, l, rfl, by omega, by omega, hl, rfl, F1, O1, e0, rfl⟩
    clear hc hg hpre c1 w1 e0 hil O1 F1 X
    rintro m ρ hc ⟨i, j, L, rfl, hj, hij, hL, rfl, F, O2, hta, hdr⟩
    by_cases c1 : j < n
    · have c2 : (j : Int) < (n : Int) := by omega
      have b1 : (0 : Int) ≤ (j : Int) := by omega
      have b2 : (i : Int) < (n : Int) := by omega
      have b3 : (0 : Int) ≤ (i : Int) := by omega
      have w : IntKind.i64.wrap ((j : Int) + 1) = ((j + 1 : Nat) : Int) := by rw [wrap_i64 (by omega) (by omega)]; omega
      have w' : IntKind.i64.wrap ((i : Int) + 1) = ((i + 1 : Nat) : Int) := by rw [wrap_i64 (by omega) (by omega)]; omega
      have hlj : l[j]? = some l[j] := by simp
      generalize l[j] = c at hlj
      have hLj : L[j]? = some c := by
        have : (L.drop j)[0]? = (l.drop j)[0]? := by rw [hdr]
        rw [List.getElem?_drop, List.getElem?_drop, Nat.add_zero] at this
        rw [this]; exact hlj
      have lr := own_row O2 hLj
      simp (disch := first | omega | assumption) only [C.h_Delete_gos, T.tv, ↓reduceIte, Nat.reduceEqDiff, reduceCtorEq, Nat.reduceLeDiff, Nat.reducePow, Int.reducePow, Int.reduceToNat, Nat.reduceAdd, c2, b1, lr]
      refine eff_alloc_z T.zr_85 ?_
      simp (disch := first | omega | assumption) only [C.h_Delete_gos, T.tv, ↓reduceIte, Nat.reduceEqDiff, reduceCtorEq, Nat.reduceLeDiff, Nat.reducePow, Int.reducePow, Int.reduceToNat, Nat.reduceAdd]
      refine eff_store_new_z T.zr_85 rfl rfl rfl (one_row c) rfl ?_
      intro h3 X3 s3 rd3 g3
      have hbk : g < hc.size := (O2.lt g rfl).2
      have lq : ld Try.prog 85 ⟨hc.size, 0, none⟩ h3 = some (.agg c.row.toArray) := ld_agg T.ag_85 (vs := c.row) rd3 rfl
      simp (disch := first | omega | assumption) only [C.h_Delete_gos, T.tv, ↓reduceIte, Nat.reduceEqDiff, reduceCtorEq, Nat.reduceLeDiff, Nat.reducePow, Int.reducePow, Int.reduceToNat, Nat.reduceAdd, lq]
      refine eff_callC rfl rfl T.able_51 (Major3_any.mono ?_)
      rintro v h4 ⟨X4, rfl⟩
      have lq4 : ld Try.prog 85 ⟨hc.size, 0, none⟩ h4 = some (.agg c.row.toArray) := by rw [X4.ld s3]; exact lq
      have O4 := (O2.ext X3).ext X4
      have F4 : Fr (fun k => k = g) h h4 := Fr.trans (Fr.trans F X3 (fun _ _ h => h) fun _ _ h => h.elim) X4 (fun _ _ h => h) fun _ _ h => h.elim
      by_cases c3 : c.to = 0
      · rw [decide_eq_true c3]
        simp (disch := first | omega | assumption) only [C.h_Delete_gos, T.tv, ↓reduceIte, Nat.reduceEqDiff, reduceCtorEq, Nat.reduceLeDiff, Nat.reducePow, Int.reducePow, Int.reduceToNat, Nat.reduceAdd, w]
        refine ⟨_, by omega, i, j + 1, L, rfl, by omega, by omega, hL, rfl, F4, O4, ?_, ?_⟩
        · rw [hta, List.take_add_one, hlj, List.filter_append]
          have : List.filter goes [c] = [] := by simp [goes, c3]
          rw [Option.toList_some, this, List.append_nil]
        · rw [← List.drop_drop, ← List.drop_drop, hdr]
      · rw [decide_eq_false c3]
        simp (disch := first | omega | assumption) only [C.h_Delete_gos, T.tv, ↓reduceIte, Nat.reduceEqDiff, reduceCtorEq, Nat.reduceLeDiff, Nat.reducePow, Int.reducePow, Int.reduceToNat, Nat.reduceAdd, lq4, b2, b3]
        obtain ⟨cu, hcu⟩ : ∃ cu, L[i]? = some cu := ⟨L[i]'(by omega), by simp⟩
        obtain ⟨i7, hi7, z7⟩ : ∃ i7, Try.prog.info? 85 = some i7 ∧ i7.size = 7 := by
          obtain ⟨i7, z, h1, _, _, h4⟩ := zr_spec T.zr_85
          exact ⟨i7, h1, h4⟩
        have O4' := O4
        obtain ⟨hl4, h04⟩ := O4'
        rcases h04 with ⟨hv, _⟩ | ⟨g', cap', cur, fz, hv, hb, hgg, hfz, hnc, hcm, hcs, htk⟩
        · cases hv
        cases hv
        have hmul := Nat.mul_le_mul_right 7 hnc
        refine eff_storeN (cur := cur) (fz := fz) hi7 rfl rfl z7.symm (one_row c) hgg (by rw [z7, hcs]; omega) (fun q _ hq => by rw [z7] at hq; exact hfz q (by omega)) ?_
        intro h5 f5 e5 g5
        have O5 := Own.put O4 (c' := c) hcu (h' := h5) (fun cur' fz' hx => by
          rw [hgg] at hx; cases hx
          rw [g5, z7]; rfl)
        simp (disch := first | omega | assumption) only [C.h_Delete_gos, T.tv, ↓reduceIte, Nat.reduceEqDiff, reduceCtorEq, Nat.reduceLeDiff, Nat.reducePow, Int.reducePow, Int.reduceToNat, Nat.reduceAdd, w, w']
        refine ⟨_, by omega, i + 1, j + 1, L.set i c, rfl, by omega, by omega, by rw [List.length_set]; exact hL, rfl, Fr.trans F4 f5 (fun _ _ h => h) (fun _ _ h => h), O5, ?_, ?_⟩
        · rw [List.take_add_one, set_get hcu, if_pos rfl, List.take_set_of_le (Nat.le_refl i), hta, List.take_add_one, hlj, List.filter_append]
          have : List.filter goes [c] = [c] := by simp [goes, c3]
          rw [Option.toList_some, this]
        · rw [List.drop_set_of_lt (by omega), ← List.drop_drop, ← List.drop_drop, hdr]
    · have c2 : ¬ (j : Int) < (n : Int) := by omega
      have ej : j = n := by omega
      subst ej
      have b1 : (0 : Int) ≤ (i : Int) := by omega
      have b2 : (i : Int) ≤ (j : Int) := by omega
      have O2' := O2
      obtain ⟨hl4, h04⟩ := O2'
      rcases h04 with ⟨hv, _⟩ | ⟨g', cap', cur, fz, hv, hb, hgg, hfz, hnc, hcm, hcs, htk⟩
      · cases hv
      cases hv
      have b3 : (i : Int) ≤ (cap : Int) := by omega
      have hsl : slA (some ⟨g, 0, none⟩) cap i 7 = some ⟨g, i * 7, none⟩ := by
        unfold slA; rw [if_neg (by omega)]
        simp only [Option.map_some, addr_add, Nat.zero_add]
      have hsl2 : slA (some ⟨g, 0, none⟩) cap 0 7 = some ⟨g, 0, none⟩ := by
        unfold slA; split <;> rfl
      have hmul := Nat.mul_le_mul_right 7 hnc
      have hlen : (l.filter goes).length = i := by
        have : (L.take i).length = ((l.take j).filter goes).length := by rw [hta]
        rw [List.length_take, Nat.min_eq_left (by omega), List.take_of_length_le (by omega)] at this
        exact this.symm
      simp (disch := first | omega | assumption) only [C.h_Delete_gos, T.tv, ↓reduceIte, Nat.reduceEqDiff, reduceCtorEq, Nat.reduceLeDiff, Nat.reducePow, Int.reducePow, Int.reduceToNat, Nat.reduceAdd, c2, b1, b2, hsl]
      refine eff_clear T.slT_67 T.zr_85 rfl hgg (by rw [hcs]; omega) (fun q _ hq => hfz q (by omega)) (one_row nul) ?_
      intro h5 f5 e5 g5
      simp (disch := first | omega | assumption) only [C.h_Delete_gos, T.tv, ↓reduceIte, Nat.reduceEqDiff, reduceCtorEq, Nat.reduceLeDiff, Nat.reducePow, Int.reducePow, Int.reduceToNat, Nat.reduceAdd, b1, b3, hsl2, Nat.sub_zero]
      have O5 : Own h5 base 85 7 (.slice (some ⟨g, 0, none⟩) i cap) i (rows (l.filter goes)) := by
        have hcl : cur.toList.length = cap * 7 := by rw [Array.length_toList, hcs]
        have hzl : (Builtin.zeroCells nul.row.toArray (j - i)).toList.length = (j - i) * 7 := by rw [zeroCells_len]; rfl
        refine ⟨by rw [rows_len, hlen], .inr ⟨g, cap, _, fz, rfl, hb, g5, hfz, by omega, hcm, ?_, ?_⟩⟩
        · have := hzl
          show (cur.toList.take (i * 7) ++ (Builtin.zeroCells nul.row.toArray (j - i)).toList ++ cur.toList.drop (i * 7 + (j - i) * 7)).toArray.size = _
          simp only [List.size_toArray, List.length_append, List.length_take, List.length_drop, hcl, hzl]; omega
        · show (cur.toList.take (i * 7) ++ (Builtin.zeroCells nul.row.toArray (j - i)).toList ++ cur.toList.drop (i * 7 + (j - i) * 7)).take (i * 7) = _
          have e : l.filter goes = L.take i := by rw [hta, List.take_of_length_le (l := l) (by omega)]
          rw [e, ← rows_take, ← htk, List.append_assoc, List.take_append_of_le_length (by rw [List.length_take, hcl]; omega), List.take_take, List.take_take, Nat.min_self, Nat.min_eq_left (by omega)]
      rw [hlen]
      have F5 : Fr (fun k => k = g) h h5 := Fr.trans F f5 (fun _ _ h => h) (fun _ _ h => h)
      first | exact ⟨F5, O5⟩ | exact ⟨F5, rfl, O5⟩
end Go.Proofs.Ytidkokdkldfglaa
