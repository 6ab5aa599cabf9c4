/- Lists of instructions: their weight, a twin. -/
import Derived.Test.YtgdmoimclelfhaaDoorNA
import Derived.Test.YtgdmoimclelfhaaDoorCb
namespace Go.Proofs.YtgdmoimclelfhaaDoor
open Go.Vc
set_option maxRecDepth 100000
set_option linter.unusedSimpArgs false
set_option linter.unusedVariables false

set_option maxHeartbeats 1000000 in
theorem weight_any (l : List In) (v : Value) (h : Heap) (hl : InsC h v l) (hll : l.length ≤ 1048576) (hLl : ∀ x ∈ l, x.keys.length ≤ 1048576 ∧ x.tgts.length ≤ 1048576) :
    HCalls Tryd.prog 4 #[v] h fun r h' => Ext h h' ∧ ∃ n : Nat, r = .int .i64 n ∧ n ≤ 1048576 + 1048576 * 2097152 := by
  refine C.law2_weight_calls (args := [v]) rfl ?_
  obtain ⟨rows, hr1, hr2, hr3⟩ := id hl
  have hr2' := hr2
  obtain ⟨_, a, c, rfl, _⟩ := hr2'
  simp (disch := first | omega | assumption) only [C.law2_weight_gos, T.tv, ↓reduceIte, Nat.reduceEqDiff, reduceCtorEq, Nat.reduceLeDiff, Nat.reducePow, Int.reducePow, Int.reduceToNat, Nat.reduceAdd]
  refine loop_intro [3, 8, 9, 10] (fun m ρ hc => ∃ (i n : Nat), m = l.length - i ∧ i ≤ l.length ∧ n ≤ l.length + i * 2097152 ∧ ρ = [(3, .int .i64 n), (8, .slice a l.length c), (9, .int .i64 l.length), (10, .int .i64 i)] ∧ Ext h hc) ?_ ?_
  · simp (disch := first | omega | assumption) only [C.law2_weight_gos, T.tv, ↓reduceIte, Nat.reduceEqDiff, reduceCtorEq, Nat.reduceLeDiff, Nat.reducePow, Int.reducePow, Int.reduceToNat, Nat.reduceAdd]
    exact ⟨_, 0, l.length, rfl, Nat.zero_le _, by omega, rfl, Ext.refl _⟩
  rintro m ρ hc ⟨i, n, rfl, hi, hn, rfl, hx⟩
  rcases Nat.lt_or_ge i l.length with hlt | hge
  · have hlt' : (i : Int) < l.length := by omega
    obtain ⟨b, o, c', vk, vt, heq, hrd0, sk, ck, st, ct⟩ := hl.at hlt
    cases heq
    have hll2 := hLl (l.getD i in0) (getD_mem hlt)
    generalize l.getD i in0 = x at *
    have hrd : Rd hc b (o + i * 8) (InV x vk vt) := hx.rd hrd0 (hrd0.lt (by simp [InV])) id
    obtain ⟨_, ak, kk, rfl, _⟩ := sk
    obtain ⟨_, at7, kt, rfl, _⟩ := st
    have hld := ld_agg T.ag_37 hrd rfl
    simp only [InV] at hld
    simp (disch := first | omega | assumption) only [C.law2_weight_gos, T.tv, ↓reduceIte, Nat.reduceEqDiff, reduceCtorEq, Nat.reduceLeDiff, Nat.reducePow, Int.reducePow, Int.reduceToNat, Nat.reduceAdd, hlt', hld]
    refine eff_alloc_z T.zr_37 ?_
    simp (disch := first | omega | assumption) only [C.law2_weight_gos, T.tv, ↓reduceIte, Nat.reduceEqDiff, reduceCtorEq, Nat.reduceLeDiff, Nat.reducePow, Int.reducePow, Int.reduceToNat, Nat.reduceAdd]
    refine eff_store_new_z T.zr_37 rfl rfl rfl (by simp [Value.cells, oneCell]) rfl ?_
    intro h3 x3 hlt3 hrd3 b3
    have c1 : cellAt h3 ⟨hc.size, 6, none⟩ = some (.slice ak x.keys.length kk) := hrd3 6 _ rfl
    have c2 : cellAt h3 ⟨hc.size, 7, none⟩ = some (.slice at7 x.tgts.length kt) := hrd3 7 _ rfl
    by_cases hbig : (32768 : Int) < (n : Int) + ((x.keys.length : Int) + x.tgts.length)
    · simp (disch := first | omega | assumption) only [C.law2_weight_gos, T.tv, ↓reduceIte, Nat.reduceEqDiff, reduceCtorEq, Nat.reduceLeDiff, Nat.reducePow, Int.reducePow, Int.reduceToNat, Nat.reduceAdd, c1, c2, hbig]
      exact ⟨hx.trans x3, n + (x.keys.length + x.tgts.length), by simp, by omega⟩
    · simp (disch := first | omega | assumption) only [C.law2_weight_gos, T.tv, ↓reduceIte, Nat.reduceEqDiff, reduceCtorEq, Nat.reduceLeDiff, Nat.reducePow, Int.reducePow, Int.reduceToNat, Nat.reduceAdd, c1, c2, hbig]
      exact ⟨_, by omega, i + 1, n + (x.keys.length + x.tgts.length), rfl, by omega, by omega, by simp, hx.trans x3⟩
  · have hlt' : ¬ (i : Int) < l.length := by omega
    simp (disch := first | omega | assumption) only [C.law2_weight_gos, T.tv, ↓reduceIte, Nat.reduceEqDiff, reduceCtorEq, Nat.reduceLeDiff, Nat.reducePow, Int.reducePow, Int.reduceToNat, Nat.reduceAdd, hlt']
    exact ⟨hx, n, rfl, by omega⟩

set_option maxHeartbeats 4000000 in
theorem twin_any (l : List In) (v : Value) (h : Heap) (hl : InsC h v l) (hll : l.length ≤ 1048576) (hLl : ∀ x ∈ l, x.keys.length ≤ 1048576 ∧ x.tgts.length ≤ 1048576) :
    HCalls Tryd.prog 5 #[v] h fun r h' => Ext h h' ∧ InsC h' r l := by
  refine C.law2_twin_calls (args := [v]) rfl ?_
  obtain ⟨rows0, hr1, hr2, hr3⟩ := id hl
  have hr2' := hr2
  obtain ⟨_, a, c, rfl, _⟩ := hr2'
  simp (disch := first | omega | assumption) only [C.law2_twin_gos, T.tv, ↓reduceIte, Nat.reduceEqDiff, reduceCtorEq, Nat.reduceLeDiff, Nat.reducePow, Int.reducePow, Int.reduceToNat, Nat.reduceAdd]
  refine loop_intro [3, 6, 7, 8] (fun m ρ hc => ∃ (i : Nat) (sv : Value) (rows : List (List Value)), m = l.length - i ∧ i ≤ l.length ∧ rows.length = i ∧ ρ = [(3, sv), (6, .slice a l.length c), (7, .int .i64 l.length), (8, .int .i64 i)] ∧ Ext h hc ∧
      Own hc h.size 37 8 sv i rows.flatten ∧ ∀ j, j < i → InO hc h.size (l.getD j in0) (rows.getD j [])) ?_ ?_
  · simp (disch := first | omega | assumption) only [C.law2_twin_gos, T.tv, ↓reduceIte, Nat.reduceEqDiff, reduceCtorEq, Nat.reduceLeDiff, Nat.reducePow, Int.reducePow, Int.reduceToNat, Nat.reduceAdd]
    exact ⟨_, 0, _, [], rfl, Nat.zero_le _, rfl, rfl, Ext.refl _, Own.nil, fun j hj => by omega⟩
  rintro m ρ hc ⟨i, sv, rows, rfl, hi, hrl, rfl, hx, hown, hrows⟩
  rcases Nat.lt_or_ge i l.length with hlt | hge
  case inr =>
    have hlt' : ¬ (i : Int) < l.length := by omega
    have hin : i = l.length := by omega
    subst hin
    simp (disch := first | omega | assumption) only [C.law2_twin_gos, T.tv, ↓reduceIte, Nat.reduceEqDiff, reduceCtorEq, Nat.reduceLeDiff, Nat.reducePow, Int.reducePow, Int.reduceToNat, Nat.reduceAdd, hlt']
    exact ⟨hx, rows, hrl, hown.slN, fun j hj => (hrows j hj).inc⟩
  have hlt' : (i : Int) < l.length := by omega
  obtain ⟨b, o, c', vL, vS, heq, hrd0, sL, cL, sS, cS⟩ := hl.at hlt
  cases heq
  have hll2 := hLl (l.getD i in0) (getD_mem hlt)
  have hfin : ∀ r : List Value, ∀ h' : Heap, (∀ j, j < i → InO h' h.size (l.getD j in0) (rows.getD j [])) → InO h' h.size (l.getD i in0) r → ∀ j, j < i + 1 → InO h' h.size (l.getD j in0) ((rows ++ [r]).getD j []) := by
    intro r h' h1 h2 j hj
    rcases Nat.lt_or_ge j i with hji | hji
    · have : (rows ++ [r]).getD j [] = rows.getD j [] := by simp [List.getElem?_append_left (by omega : j < rows.length)]
      rw [this]; exact h1 j hji
    · have hje : j = i := by omega
      subst hje
      have : (rows ++ [r]).getD j [] = r := by simp [← hrl]
      rw [this]; exact h2
  generalize hf : l.getD i in0 = x at *
  have hrd : Rd hc b (o + i * 8) (InV x vL vS) := hx.rd hrd0 (hrd0.lt (by simp [InV])) id
  have hld := ld_agg T.ag_37 hrd rfl
  have sL' := sL
  have sS' := sS
  obtain ⟨_, aL, kL, rfl, _⟩ := sL'
  obtain ⟨_, aS, kS, rfl, _⟩ := sS'
  simp only [InV] at hld
  simp (disch := first | omega | assumption) only [C.law2_twin_gos, T.tv, ↓reduceIte, Nat.reduceEqDiff, reduceCtorEq, Nat.reduceLeDiff, Nat.reducePow, Int.reducePow, Int.reduceToNat, Nat.reduceAdd, hlt', hld]
  refine eff_alloc_z T.zr_37 ?_
  simp (disch := first | omega | assumption) only [C.law2_twin_gos, T.tv, ↓reduceIte, Nat.reduceEqDiff, reduceCtorEq, Nat.reduceLeDiff, Nat.reducePow, Int.reducePow, Int.reduceToNat, Nat.reduceAdd]
  refine eff_store_new_z T.zr_37 rfl rfl rfl (by simp [Value.cells, oneCell]) rfl ?_
  intro h3 x3 hlt3 hrd3 b3
  change h3[hc.size]? = some (.cells (InV x (.slice aL x.keys.length kL) (.slice aS x.tgts.length kS)).toArray 37 (0, 0)) at b3
  have c1 : cellAt h3 ⟨hc.size, 6, none⟩ = some (.slice aL x.keys.length kL) := hrd3 6 _ rfl
  have hx3 := hx.trans x3
  have own3 := hown.ext x3
  have hqb : h.size ≤ hc.size := hx.size
  have hqo : ¬ sv.ownBlock = some hc.size := fun hk => by have := (hown.lt _ hk).2; omega
  have rows3 : ∀ j, j < i → InO h3 h.size (l.getD j in0) (rows.getD j []) := fun j hj => by
    obtain ⟨wL, wS, e1, e2, e3⟩ := hrows j hj
    exact ⟨wL, wS, e1, e2.ext x3, e3.ext x3⟩
  clear hld hrd hrd3 hown hrows x3
  generalize hc.size = q at *
  simp (disch := first | omega | assumption) only [C.law2_twin_gos, T.tv, ↓reduceIte, Nat.reduceEqDiff, reduceCtorEq, Nat.reduceLeDiff, Nat.reducePow, Int.reducePow, Int.reduceToNat, Nat.reduceAdd, c1]
  refine eff_append_slN (base := h.size) T.slT_35 rfl rfl Own.nil (sL.ext (by decide) hx3) (intsV_one x.keys) (by omega) (by omega) hx3.size ?_
  intro v4 h4 own4 fr4
  have x4 : Ext h3 h4 := ⟨fr4.size, fun k hk _ => fr4.same k hk (by simp [Value.ownBlock])⟩
  simp only [Nat.zero_add, List.nil_append] at own4
  have b4 := Fr_blk x4 b3 id
  have hx4 := hx3.trans x4
  have d1 : cellAt h4 ⟨q, 6, none⟩ = some (.slice aL x.keys.length kL) := by rw [cellAt_of b4]; rfl
  obtain ⟨a4, k4, rfl, _⟩ := own4.slN.2
  try simp only [Nat.zero_add]
  simp (disch := first | omega | assumption) only [C.law2_twin_gos, T.tv, ↓reduceIte, Nat.reduceEqDiff, reduceCtorEq, Nat.reduceLeDiff, Nat.reducePow, Int.reducePow, Int.reduceToNat, Nat.reduceAdd]
  refine eff_store1_z T.zr_35 rfl rfl rfl rfl rfl d1 (by simp [frozenAt, b4]) ?_
  have b5 := setAt_get (o := 6) b4 (.slice a4 x.keys.length k4)
  change (setAt h4 ⟨q, 6, none⟩ (.slice a4 x.keys.length k4))[q]? = some (.cells (InV x (.slice a4 x.keys.length k4) (.slice aS x.tgts.length kS)).toArray 37 (0, 0)) at b5
  have w5 : Fr (fun k => k = q) h4 (setAt h4 ⟨q, 6, none⟩ (.slice a4 x.keys.length k4)) := Fr.set (S := fun k => k = q) _ _ _ fun _ => rfl
  have hx5 : Ext h (setAt h4 ⟨q, 6, none⟩ (.slice a4 x.keys.length k4)) := Fr.trans hx4 w5 (fun _ _ h => h) (fun k hk hS => by omega)
  have own5 := own4.fr w5 (fun k hk hS => by subst hS; exact Own_ne own4 b4 (by decide) hk)
  have sv5 := (own3.ext x4).fr w5 (fun k hk hS => by subst hS; exact hqo hk)
  have rows5 : ∀ j, j < i → InO (setAt h4 ⟨q, 6, none⟩ (.slice a4 x.keys.length k4)) h.size (l.getD j in0) (rows.getD j []) := fun j hj => by
    obtain ⟨wL, wS, e1, e2, e3⟩ := rows3 j hj
    exact ⟨wL, wS, e1, (e2.ext x4).fr w5 (fun k hk hS => by subst hS; exact Own_ne (e2.ext x4) b4 (by decide) hk), (e3.ext x4).fr w5 (fun k hk hS => by subst hS; exact Own_ne (e3.ext x4) b4 (by decide) hk)⟩
  generalize setAt h4 ⟨q, 6, none⟩ (.slice a4 x.keys.length k4) = h5 at *
  have c2 : cellAt h5 ⟨q, 7, none⟩ = some (.slice aS x.tgts.length kS) := by rw [cellAt_of b5]; rfl
  clear w5 x4 own4 b4 d1 fr4 rows3 own3
  simp (disch := first | omega | assumption) only [C.law2_twin_gos, T.tv, ↓reduceIte, Nat.reduceEqDiff, reduceCtorEq, Nat.reduceLeDiff, Nat.reducePow, Int.reducePow, Int.reduceToNat, Nat.reduceAdd, c2]
  refine eff_append_slN (base := h.size) T.slT_35 rfl rfl Own.nil (sS.ext (by decide) hx5) (intsV_one x.tgts) (by omega) (by omega) hx5.size ?_
  intro v6 h6 own6 fr6
  have x6 : Ext h5 h6 := ⟨fr6.size, fun k hk _ => fr6.same k hk (by simp [Value.ownBlock])⟩
  simp only [Nat.zero_add, List.nil_append] at own6
  have b6 := Fr_blk x6 b5 id
  have hx6 := hx5.trans x6
  have d2 : cellAt h6 ⟨q, 7, none⟩ = some (.slice aS x.tgts.length kS) := by rw [cellAt_of b6]; rfl
  obtain ⟨a6, k6, rfl, _⟩ := own6.slN.2
  try simp only [Nat.zero_add]
  simp (disch := first | omega | assumption) only [C.law2_twin_gos, T.tv, ↓reduceIte, Nat.reduceEqDiff, reduceCtorEq, Nat.reduceLeDiff, Nat.reducePow, Int.reducePow, Int.reduceToNat, Nat.reduceAdd]
  refine eff_store1_z T.zr_35 rfl rfl rfl rfl rfl d2 (by simp [frozenAt, b6]) ?_
  have b7 := setAt_get (o := 7) b6 (.slice a6 x.tgts.length k6)
  change (setAt h6 ⟨q, 7, none⟩ (.slice a6 x.tgts.length k6))[q]? = some (.cells (InV x (.slice a4 x.keys.length k4) (.slice a6 x.tgts.length k6)).toArray 37 (0, 0)) at b7
  have w7 : Fr (fun k => k = q) h6 (setAt h6 ⟨q, 7, none⟩ (.slice a6 x.tgts.length k6)) := Fr.set (S := fun k => k = q) _ _ _ fun _ => rfl
  have hx7 : Ext h (setAt h6 ⟨q, 7, none⟩ (.slice a6 x.tgts.length k6)) := Fr.trans hx6 w7 (fun _ _ h => h) (fun k hk hS => by omega)
  have ownL := (own5.ext x6).fr w7 (fun k hk hS => by subst hS; exact Own_ne (own5.ext x6) b6 (by decide) hk)
  have ownS := own6.fr w7 (fun k hk hS => by subst hS; exact Own_ne own6 b6 (by decide) hk)
  have sv7 := (sv5.ext x6).fr w7 (fun k hk hS => by subst hS; exact hqo hk)
  have rows7 : ∀ j, j < i → InO (setAt h6 ⟨q, 7, none⟩ (.slice a6 x.tgts.length k6)) h.size (l.getD j in0) (rows.getD j []) := fun j hj => by
    obtain ⟨wL, wS, e1, e2, e3⟩ := rows5 j hj
    exact ⟨wL, wS, e1, (e2.ext x6).fr w7 (fun k hk hS => by subst hS; exact Own_ne (e2.ext x6) b6 (by decide) hk), (e3.ext x6).fr w7 (fun k hk hS => by subst hS; exact Own_ne (e3.ext x6) b6 (by decide) hk)⟩
  generalize setAt h6 ⟨q, 7, none⟩ (.slice a6 x.tgts.length k6) = h7 at *
  have hld7 := ld_agg T.ag_37 (Rd_block b7) rfl
  simp only [InV] at hld7
  clear w7 x6 own6 b6 d2 fr6 rows5 own5 sv5 b5 c2
  simp (disch := first | omega | assumption) only [C.law2_twin_gos, T.tv, ↓reduceIte, Nat.reduceEqDiff, reduceCtorEq, Nat.reduceLeDiff, Nat.reducePow, Int.reducePow, Int.reduceToNat, Nat.reduceAdd, hld7]
  refine eff_lits T.slT_22 rfl rfl (by decide) ?_
  simp (disch := first | omega | assumption) only [C.law2_twin_gos, T.tv, ↓reduceIte, Nat.reduceEqDiff, reduceCtorEq, Nat.reduceLeDiff, Nat.reducePow, Int.reducePow, Int.reduceToNat, Nat.reduceAdd]
  refine eff_append_own (m := 1) T.slT_22 rfl rfl (sv7.push _) rfl (Rd_new (vs := InV x (.slice a4 x.keys.length k4) (.slice a6 x.tgts.length k6))) (by simp [InV, oneCell]) (by omega) (by omega) (by have := hx7.size; simp; omega) ?_
  intro v8 h8 own8 fr8 _
  have hx8 : Ext h h8 := Ext.app (hx7.trans (Ext.push _ _)) fr8 (fun k hk => (sv7.lt k hk).1)
  have key : ∀ {w : Value} {n : Nat} {xs : List Value}, Own h7 h.size 3 1 w n xs → Own h8 h.size 3 1 w n xs := fun H => (H.push (.cells (InV x (.slice a4 x.keys.length k4) (.slice a6 x.tgts.length k6)).toArray 37)).fr fr8 (Own_two (H.push (.cells (InV x (.slice a4 x.keys.length k4) (.slice a6 x.tgts.length k6)).toArray 37)) (sv7.push (.cells (InV x (.slice a4 x.keys.length k4) (.slice a6 x.tgts.length k6)).toArray 37)) (by decide))
  simp (disch := first | omega | assumption) only [C.law2_twin_gos, T.tv, ↓reduceIte, Nat.reduceEqDiff, reduceCtorEq, Nat.reduceLeDiff, Nat.reducePow, Int.reducePow, Int.reduceToNat, Nat.reduceAdd]
  exact ⟨_, by omega, i + 1, v8, rows ++ [InV x (.slice a4 x.keys.length k4) (.slice a6 x.tgts.length k6)], rfl, by omega, by simp [hrl], by simp, hx8, by rw [List.flatten_append]; simpa using own8,
    hfin _ h8 (fun j hj => by
      obtain ⟨wL, wS, e1, e2, e3⟩ := rows7 j hj
      exact ⟨wL, wS, e1, key e2, key e3⟩) ⟨_, _, rfl, key ownL, key ownS⟩⟩
end Go.Proofs.YtgdmoimclelfhaaDoor
