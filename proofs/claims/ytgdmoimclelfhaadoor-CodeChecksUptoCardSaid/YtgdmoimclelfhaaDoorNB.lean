/- Lists of instructions compared. -/
import Derived.Test.YtgdmoimclelfhaaDoorNA
import Derived.Test.YtgdmoimclelfhaaDoorCs
namespace Go.Proofs.YtgdmoimclelfhaaDoor
open Go.Vc
set_option maxRecDepth 100000
set_option linter.unusedSimpArgs false
set_option linter.unusedVariables false

set_option maxHeartbeats 1000000 in
theorem sameInts_any (cs : List Int) (v u : Value) (h : Heap) (hs : SlN h 1 v cs.length (intsV cs)) (ht : SlN h 1 u cs.length (intsV cs)) (hlen : cs.length ≤ 9223372036854775806) :
    HCalls Tryd.prog 13 #[v, u] h fun r h' => h' = h ∧ r = .bool true := by
  refine C.law2_sameInts_calls (args := [v, u]) rfl ?_
  have hs' := hs
  have ht' := ht
  obtain ⟨_, a, c, rfl, _⟩ := hs'
  obtain ⟨_, a2, c2, rfl, _⟩ := ht'
  simp (disch := first | omega | assumption) only [C.law2_sameInts_gos, T.tv, ↓reduceIte, Nat.reduceEqDiff, reduceCtorEq, Nat.reduceLeDiff, Nat.reducePow, Int.reducePow, Int.reduceToNat, Nat.reduceAdd]
  refine loop_intro [0, 1, 12, 13] (fun m ρ hc => ∃ i : Nat, m = cs.length - i ∧ i ≤ cs.length ∧ ρ = [(0, .slice a cs.length c), (1, .slice a2 cs.length c2), (12, .int .i64 cs.length), (13, .int .i64 i)] ∧ hc = h) ?_ ?_
  · simp (disch := first | omega | assumption) only [C.law2_sameInts_gos, T.tv, ↓reduceIte, Nat.reduceEqDiff, reduceCtorEq, Nat.reduceLeDiff, Nat.reducePow, Int.reducePow, Int.reduceToNat, Nat.reduceAdd]
    exact ⟨_, 0, rfl, Nat.zero_le _, rfl⟩
  rintro m ρ hc ⟨i, rfl, hi, rfl, rfl⟩
  rcases Nat.lt_or_ge i cs.length with hlt | hge
  · have hlt' : (i : Int) < cs.length := by omega
    obtain ⟨b, o, c', heq, hrd, _⟩ := hs.at hlt
    obtain ⟨b2, o2, c2', heq2, hrd2, _⟩ := ht.at hlt
    cases heq
    cases heq2
    have e0 : cellAt hc ⟨b, o + i, none⟩ = some (.int .i64 (cs.getD i 0)) := by
      have := hrd 0 (.int .i64 (cs.getD i 0)) (by simp [intsV, hlt])
      simpa using this
    have e1 : cellAt hc ⟨b2, o2 + i, none⟩ = some (.int .i64 (cs.getD i 0)) := by
      have := hrd2 0 (.int .i64 (cs.getD i 0)) (by simp [intsV, hlt])
      simpa using this
    simp (disch := first | omega | assumption) only [C.law2_sameInts_gos, T.tv, ↓reduceIte, Nat.reduceEqDiff, reduceCtorEq, Nat.reduceLeDiff, Nat.reducePow, Int.reducePow, Int.reduceToNat, Nat.reduceAdd, hlt', e0, e1]
    exact ⟨cs.length - (i + 1), by omega, i + 1, rfl, by omega, by simp⟩
  · have hlt' : ¬ (i : Int) < cs.length := by omega
    simp (disch := first | omega | assumption) only [C.law2_sameInts_gos, T.tv, ↓reduceIte, Nat.reduceEqDiff, reduceCtorEq, Nat.reduceLeDiff, Nat.reducePow, Int.reducePow, Int.reduceToNat, Nat.reduceAdd, hlt']

set_option maxHeartbeats 2000000 in
theorem same_any (l : List In) (v u : Value) (h : Heap) (hs : InsC h v l) (ht : InsC h u l) (hll : l.length ≤ 1048576) (hLl : ∀ x ∈ l, x.keys.length ≤ 1048576 ∧ x.tgts.length ≤ 1048576) :
    HCalls Tryd.prog 8 #[v, u] h fun r h' => Ext h h' ∧ r = .bool true := by
  refine C.law2_same_calls (args := [v, u]) rfl ?_
  obtain ⟨_, _, hr2, _⟩ := id hs
  obtain ⟨_, _, hr2', _⟩ := id ht
  obtain ⟨_, a, c, rfl, _⟩ := hr2
  obtain ⟨_, a2, c2, rfl, _⟩ := hr2'
  simp (disch := first | omega | assumption) only [C.law2_same_gos, T.tv, ↓reduceIte, Nat.reduceEqDiff, reduceCtorEq, Nat.reduceLeDiff, Nat.reducePow, Int.reducePow, Int.reduceToNat, Nat.reduceAdd]
  refine loop_intro [0, 1, 14, 15] (fun m ρ hc => ∃ i : Nat, m = l.length - i ∧ i ≤ l.length ∧ ρ = [(0, .slice a l.length c), (1, .slice a2 l.length c2), (14, .int .i64 l.length), (15, .int .i64 i)] ∧ Ext h hc) ?_ ?_
  · simp (disch := first | omega | assumption) only [C.law2_same_gos, T.tv, ↓reduceIte, Nat.reduceEqDiff, reduceCtorEq, Nat.reduceLeDiff, Nat.reducePow, Int.reducePow, Int.reduceToNat, Nat.reduceAdd]
    exact ⟨_, 0, rfl, Nat.zero_le _, rfl, Ext.refl _⟩
  rintro m ρ hc ⟨i, rfl, hi, rfl, hx⟩
  rcases Nat.lt_or_ge i l.length with hlt | hge
  case inr =>
    have hlt' : ¬ (i : Int) < l.length := by omega
    simp (disch := first | omega | assumption) only [C.law2_same_gos, T.tv, ↓reduceIte, Nat.reduceEqDiff, reduceCtorEq, Nat.reduceLeDiff, Nat.reducePow, Int.reducePow, Int.reduceToNat, Nat.reduceAdd, hlt']
    exact hx
  have hlt' : (i : Int) < l.length := by omega
  obtain ⟨b, o, c', vL, vS, heq, hrd0, sL, cL, sS, cS⟩ := hs.at hlt
  obtain ⟨b2, o2, c2', wL, wS, heq2, hrd20, tL, dL, tS, dS⟩ := ht.at hlt
  cases heq
  cases heq2
  have hll2 := hLl (l.getD i in0) (getD_mem hlt)
  generalize l.getD i in0 = x at *
  have hrd : Rd hc b (o + i * 8) (InV x vL vS) := hx.rd hrd0 (hrd0.lt (by simp [InV])) id
  have hrd2 : Rd hc b2 (o2 + i * 8) (InV x wL wS) := hx.rd hrd20 (hrd20.lt (by simp [InV])) id
  have hld := ld_agg T.ag_37 hrd rfl
  simp only [InV] at hld
  simp (disch := first | omega | assumption) only [C.law2_same_gos, T.tv, ↓reduceIte, Nat.reduceEqDiff, reduceCtorEq, Nat.reduceLeDiff, Nat.reducePow, Int.reducePow, Int.reduceToNat, Nat.reduceAdd, hlt', hld]
  refine eff_alloc_z T.zr_37 ?_
  simp (disch := first | omega | assumption) only [C.law2_same_gos, T.tv, ↓reduceIte, Nat.reduceEqDiff, reduceCtorEq, Nat.reduceLeDiff, Nat.reducePow, Int.reducePow, Int.reduceToNat, Nat.reduceAdd]
  obtain ⟨_, aL, kL, rfl, _⟩ := id sL
  obtain ⟨_, aS, kS, rfl, _⟩ := id sS
  obtain ⟨_, bL, mL, rfl, _⟩ := id tL
  obtain ⟨_, bS, mS, rfl, _⟩ := id tS
  refine eff_store_new_z T.zr_37 rfl rfl rfl (by simp [Value.cells, oneCell]) rfl ?_
  intro h3 x3 hlt3 hrd3 b3
  have hx3 := hx.trans x3
  have hrd23 : Rd h3 b2 (o2 + i * 8) (InV x (.slice bL x.keys.length mL) (.slice bS x.tgts.length mS)) := x3.rd hrd2 (hrd2.lt (by simp [InV])) id
  have hld2 := ld_agg T.ag_37 hrd23 rfl
  simp only [InV] at hld2
  clear hld hrd hrd2 hrd3 hrd23
  generalize hc.size = q at *
  simp (disch := first | omega | assumption) only [C.law2_same_gos, T.tv, ↓reduceIte, Nat.reduceEqDiff, reduceCtorEq, Nat.reduceLeDiff, Nat.reducePow, Int.reducePow, Int.reduceToNat, Nat.reduceAdd, hlt', hld2]
  refine eff_alloc_z T.zr_37 ?_
  simp (disch := first | omega | assumption) only [C.law2_same_gos, T.tv, ↓reduceIte, Nat.reduceEqDiff, reduceCtorEq, Nat.reduceLeDiff, Nat.reducePow, Int.reducePow, Int.reduceToNat, Nat.reduceAdd]
  refine eff_store_new_z T.zr_37 rfl rfl rfl (by simp [Value.cells, oneCell]) rfl ?_
  intro h4 x4 hlt4 hrd4 b4
  have hx4 := hx3.trans x4
  have b34 := Fr_blk x4 b3 id
  clear hld2
  have hrA := Rd_block (vs := InV x (.slice aL x.keys.length kL) (.slice aS x.tgts.length kS)) b34
  have hrB := Rd_block (vs := InV x (.slice bL x.keys.length mL) (.slice bS x.tgts.length mS)) b4
  generalize h3.size = q2 at *
  have fa : cellAt h4 ⟨q, 0, none⟩ = some (.int .i64 x.at') ∧ cellAt h4 ⟨q, 1, none⟩ = some (.int .u8 (x.op : Int)) ∧ cellAt h4 ⟨q, 2, none⟩ = some (.bool x.wide) ∧ cellAt h4 ⟨q, 3, none⟩ = some (.int .i64 x.A) ∧ cellAt h4 ⟨q, 4, none⟩ = some (.int .i64 x.B) ∧ cellAt h4 ⟨q, 5, none⟩ = some (.int .i64 x.low) ∧ cellAt h4 ⟨q, 6, none⟩ = some (.slice aL x.keys.length kL) ∧ cellAt h4 ⟨q, 7, none⟩ = some (.slice aS x.tgts.length kS) :=
    ⟨hrA 0 _ rfl, hrA 1 _ rfl, hrA 2 _ rfl, hrA 3 _ rfl, hrA 4 _ rfl, hrA 5 _ rfl, hrA 6 _ rfl, hrA 7 _ rfl⟩
  have fb : cellAt h4 ⟨q2, 0, none⟩ = some (.int .i64 x.at') ∧ cellAt h4 ⟨q2, 1, none⟩ = some (.int .u8 (x.op : Int)) ∧ cellAt h4 ⟨q2, 2, none⟩ = some (.bool x.wide) ∧ cellAt h4 ⟨q2, 3, none⟩ = some (.int .i64 x.A) ∧ cellAt h4 ⟨q2, 4, none⟩ = some (.int .i64 x.B) ∧ cellAt h4 ⟨q2, 5, none⟩ = some (.int .i64 x.low) ∧ cellAt h4 ⟨q2, 6, none⟩ = some (.slice bL x.keys.length mL) ∧ cellAt h4 ⟨q2, 7, none⟩ = some (.slice bS x.tgts.length mS) :=
    ⟨hrB 0 _ rfl, hrB 1 _ rfl, hrB 2 _ rfl, hrB 3 _ rfl, hrB 4 _ rfl, hrB 5 _ rfl, hrB 6 _ rfl, hrB 7 _ rfl⟩
  simp (disch := first | omega | assumption) only [C.law2_same_gos, T.tv, ↓reduceIte, Nat.reduceEqDiff, reduceCtorEq, Nat.reduceLeDiff, Nat.reducePow, Int.reducePow, Int.reduceToNat, Nat.reduceAdd, fa, fb]
  refine eff_callF rfl ((sameInts_any x.keys _ _ _ (sL.ext (by decide) hx4) (tL.ext (by decide) hx4) (by omega)).mono ?_)
  intro v5 h5 hp5
  have e5 := hp5.1
  subst e5
  have hv5 := hp5.2
  simp (disch := first | omega | assumption) only [C.law2_same_gos, T.tv, ↓reduceIte, Nat.reduceEqDiff, reduceCtorEq, Nat.reduceLeDiff, Nat.reducePow, Int.reducePow, Int.reduceToNat, Nat.reduceAdd, hv5, fa, fb]
  refine eff_callF rfl ((sameInts_any x.tgts _ _ _ (sS.ext (by decide) hx4) (tS.ext (by decide) hx4) (by omega)).mono ?_)
  intro v6 h6 hp6
  have e6 := hp6.1
  subst e6
  have hv6 := hp6.2
  simp (disch := first | omega | assumption) only [C.law2_same_gos, T.tv, ↓reduceIte, Nat.reduceEqDiff, reduceCtorEq, Nat.reduceLeDiff, Nat.reducePow, Int.reducePow, Int.reduceToNat, Nat.reduceAdd, hv6]
  exact ⟨_, by omega, i + 1, rfl, by omega, by simp, hx4⟩

end Go.Proofs.YtgdmoimclelfhaaDoor
