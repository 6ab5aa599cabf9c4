/- One class is written and read as it was (closed). -/
import Derived.Test.YtohkbpnblkkdgaaLX3
import Derived.Test.YtohkbpnblkkdgaaL4
import Derived.Test.YtohkbpnblkkdgaaL7
import Derived.Test.YtohkbpnblkkdgaaL9
import Derived.Test.YtohkbpnblkkdgaaLR5
import Derived.Test.YtohkbpnblkkdgaaCzc
namespace Go.Proofs.Ytohkbpnblkkdgaa
open Go.Vc
set_option maxRecDepth 100000
set_option linter.unusedSimpArgs false
set_option linter.unusedVariables false

def ownP : List Cst := [⟨0, [], 0, 0, 0⟩, ⟨1, [65], 0, 0, 0⟩, ⟨7, [], 0, 1, 0⟩, ⟨1, [106, 97, 118, 97, 47, 108, 97, 110, 103, 47, 79, 98, 106, 101, 99, 116], 0, 0, 0⟩, ⟨7, [], 0, 3, 0⟩, ⟨1, [67, 111, 100, 101], 0, 0, 0⟩, ⟨1, [40, 41, 86], 0, 0, 0⟩, ⟨1, [73], 0, 0, 0⟩]
def ownC : Cls := ⟨0, 51, 33, 2, 4, ownP, [], [⟨1, 1, 7, 0⟩], [⟨9, 1, 6, true, ⟨1, 0, [177], [], []⟩⟩]⟩
def ownB : List UInt8 := (outP (clsP (nameR ownP) ownC)).1
theorem own_w : outP (clsP (nameR ownC.pool) ownC) = (ownB, 0) := by kernel_rfl
theorem own_k : outP (clsP (nameK ownC.pool) ownC) = (ownB, 0) := by kernel_rfl
theorem own_r : readR ownB = (ownC, 0, 0) := by kernel_rfl
theorem bad_r : readR [202, 254, 186, 191] = (cls0, 3, 0) := by kernel_rfl
theorem own_len : ownB.length ≤ 1000 := by decide +kernel
theorem own_fit : ownC.Fit := by
  refine ⟨by decide, by decide, by decide, by decide, by decide, ?_, by decide, ?_, ?_⟩
  · intro x hx
    simp only [ownC, ownP, List.mem_cons, List.not_mem_nil, or_false] at hx
    rcases hx with rfl | rfl | rfl | rfl | rfl | rfl | rfl | rfl <;> exact ⟨by decide, by decide, by decide, by decide⟩
  · intro x hx
    simp only [ownC, List.mem_cons, List.not_mem_nil, or_false] at hx
    subst hx
    exact ⟨by decide, by decide, by decide, by decide⟩
  · intro x hx
    simp only [ownC, List.mem_cons, List.not_mem_nil, or_false] at hx
    subst hx
    exact ⟨by decide, by decide, by decide, by decide, by decide, by decide, by decide, fun h hh => by cases hh⟩
theorem ownM_C {h : Heap} {b : Nat} (hb : h[b]? = some (.cells (MthV ⟨9, 1, 6, true, ⟨1, 0, [177], [], []⟩⟩ (.slice none 0 0)).toArray 81 (0, 0))) : MthsC h (.slice (some ⟨b, 0, none⟩) 1 1) ownC.methods := by
  refine ⟨[MthV ⟨9, 1, 6, true, ⟨1, 0, [177], [], []⟩⟩ (.slice none 0 0)], rfl, ⟨rfl, _, _, rfl, .inr ⟨b, 0, rfl, ?_⟩⟩, ?_⟩
  · have := Rd_block hb
    simpa using this
  · intro j hj
    have hj0 : j = 0 := by simp [ownC] at hj; exact hj
    subst hj0
    exact ⟨.slice none 0 0, rfl, ⟨rfl, _, _, rfl, .inl rfl⟩, by simp [capOk]⟩
set_option maxHeartbeats 4000000 in
theorem classWorks_any (h : Heap) : HCalls Try.prog 21 #[] h fun v h' => Ext h h' ∧ v = .bool true := by
  refine C.law3_classWorks_calls (args := []) rfl ?_
  simp (disch := first | omega | assumption) only [C.law3_classWorks_gos, T.tv, ↓reduceIte, Nat.reduceEqDiff, reduceCtorEq, Nat.reduceLeDiff, Nat.reducePow, Int.reducePow, Int.reduceToNat, Nat.reduceAdd]
  refine eff_lits T.slT_22 rfl rfl (by decide) ?_
  have e1 : Ext h (h.push (.cells (flatS ownP).toArray 76)) := Ext.push _ _
  have b1 : (h.push (.cells (flatS ownP).toArray 76))[h.size]? = some (.cells (flatS ownP).toArray 76 (0, 0)) := by simp
  simp (disch := first | omega | assumption) only [C.law3_classWorks_gos, T.tv, ↓reduceIte, Nat.reduceEqDiff, reduceCtorEq, Nat.reduceLeDiff, Nat.reducePow, Int.reducePow, Int.reduceToNat, Nat.reduceAdd]
  change eff _ _ _ _ _ (h.push (.cells (flatS ownP).toArray 76)) _
  generalize h.push (.cells (flatS ownP).toArray 76) = h1 at *
  generalize h.size = bp at *
  refine eff_lits T.slT_40 rfl rfl (by decide) ?_
  have e2 : Ext h1 (h1.push (.cells ([.int .u16 1, .int .u16 1, .int .u16 7, .int .u16 0] : List Value).toArray 89)) := Ext.push _ _
  have b2 : (h1.push (.cells ([.int .u16 1, .int .u16 1, .int .u16 7, .int .u16 0] : List Value).toArray 89))[h1.size]? = some (.cells ([.int .u16 1, .int .u16 1, .int .u16 7, .int .u16 0] : List Value).toArray 89 (0, 0)) := by simp
  simp (disch := first | omega | assumption) only [C.law3_classWorks_gos, T.tv, ↓reduceIte, Nat.reduceEqDiff, reduceCtorEq, Nat.reduceLeDiff, Nat.reducePow, Int.reducePow, Int.reduceToNat, Nat.reduceAdd]
  generalize h1.push _ = h2 at *
  generalize h1.size = bf at *
  have b12 := Fr_blk e2 b1 id
  refine eff_lits T.slT_41 rfl rfl (by decide) ?_
  have e3 : Ext h2 (h2.push (.cells ([.int .u16 9, .int .u16 1, .int .u16 6, .bool true, .int .i64 1, .int .i64 0, str [177], .slice none 0 0, str []] : List Value).toArray 81)) := Ext.push _ _
  have b3 : (h2.push (.cells ([.int .u16 9, .int .u16 1, .int .u16 6, .bool true, .int .i64 1, .int .i64 0, str [177], .slice none 0 0, str []] : List Value).toArray 81))[h2.size]? = some (.cells ([.int .u16 9, .int .u16 1, .int .u16 6, .bool true, .int .i64 1, .int .i64 0, str [177], .slice none 0 0, str []] : List Value).toArray 81 (0, 0)) := by simp
  simp (disch := first | omega | assumption) only [C.law3_classWorks_gos, T.tv, ↓reduceIte, Nat.reduceEqDiff, reduceCtorEq, Nat.reduceLeDiff, Nat.reducePow, Int.reducePow, Int.reduceToNat, Nat.reduceAdd]
  generalize h2.push _ = h3 at *
  generalize h2.size = bm at *
  have b13 := Fr_blk e3 b12 id
  have b23 := Fr_blk e3 b2 id
  have hC : ClsC h3 ownC (.slice (some ⟨bp, 0, none⟩) 8 8) (.slice none 0 0) (.slice (some ⟨bf, 0, none⟩) 1 1) (.slice (some ⟨bm, 0, none⟩) 1 1) :=
    ⟨⟨rfl, _, _, rfl, .inr ⟨bp, 0, rfl, Rd_block b13⟩⟩, by simp [capOk], ⟨rfl, _, _, rfl, .inl rfl⟩, by simp [capOk], ⟨rfl, _, _, rfl, .inr ⟨bf, 0, rfl, Rd_block b23⟩⟩, by simp [capOk], ownM_C b3, by simp [capOk]⟩
  have X3 : Ext h h3 := (e1.trans e2).trans e3
  clear e1 e2 e3 b1 b12 b13 b2 b23 b3
  refine eff_alloc_z T.zr_43 ?_
  simp (disch := first | omega | assumption) only [C.law3_classWorks_gos, T.tv, ↓reduceIte, Nat.reduceEqDiff, reduceCtorEq, Nat.reduceLeDiff, Nat.reducePow, Int.reducePow, Int.reduceToNat, Nat.reduceAdd]
  refine eff_store_new_z T.zr_43 rfl rfl rfl (by simp [Value.cells, oneCell, str]) rfl ?_
  intro h4 x4 hlt4 hrd4 b4
  have hC4 := ClsC.ext hC x4
  have X4 := X3.trans x4
  generalize h3.size = bo at *
  clear hC x4 X3 hlt4 hrd4
  have l1 : ld Try.prog 43 ⟨bo, 0, none⟩ h4 = some (.agg #[.int .u16 0, .int .u16 51, .int .u16 33, .int .u16 2, .int .u16 4, .slice (some ⟨bp, 0, none⟩) 8 8, .slice none 0 0, .slice (some ⟨bf, 0, none⟩) 1 1, .slice (some ⟨bm, 0, none⟩) 1 1]) := ld_agg T.ag_43 (Rd_block (vs := ClsV ownC (.slice (some ⟨bp, 0, none⟩) 8 8) (.slice none 0 0) (.slice (some ⟨bf, 0, none⟩) 1 1) (.slice (some ⟨bm, 0, none⟩) 1 1)) b4) rfl
  simp (disch := first | omega | assumption) only [C.law3_classWorks_gos, T.tv, ↓reduceIte, Nat.reduceEqDiff, reduceCtorEq, Nat.reduceLeDiff, Nat.reducePow, Int.reducePow, Int.reduceToNat, Nat.reduceAdd, l1]
  refine eff_callF rfl ((refClass_any ownC (.slice (some ⟨bp, 0, none⟩) 8 8) (.slice none 0 0) (.slice (some ⟨bf, 0, none⟩) 1 1) (.slice (some ⟨bm, 0, none⟩) 1 1) h4 hC4 own_fit (by decide) (by decide) (by decide) (by decide) (by decide) (by decide) (by decide)).mono ?_)
  rw [own_w]
  rintro _ h5 ⟨x5, rfl⟩
  have hC5 := ClsC.ext hC4 x5
  have b5 := Fr_blk x5 b4 id
  have X5 := X4.trans x5
  clear l1 hC4 b4 x5 X4
  simp (disch := first | omega | assumption) only [C.law3_classWorks_gos, T.tv, ↓reduceIte, Nat.reduceEqDiff, reduceCtorEq, Nat.reduceLeDiff, Nat.reducePow, Int.reducePow, Int.reduceToNat, Nat.reduceAdd]
  refine eff_call_of ?_
  simp (disch := first | omega | assumption) only [C.law3_classWorks_gos, T.tv, ↓reduceIte, Nat.reduceEqDiff, reduceCtorEq, Nat.reduceLeDiff, Nat.reducePow, Int.reducePow, Int.reduceToNat, Nat.reduceAdd]
  have hob := own_len
  refine (read_any ownB h5 (by omega)).mono ?_
  rw [own_r]
  rintro _ h6 ⟨x6, vp, vi, vf, vm, rfl, C6⟩
  have hC6 := ClsC.ext hC5 x6
  have b6 := Fr_blk x6 b5 id
  have X6 := X5.trans x6
  clear hC5 b5 x6 X5
  obtain ⟨a1, c1, a2, c2, a3, c3, a4, c4, rfl, rfl, rfl, rfl⟩ := ClsC.sl C6
  change ClsC h6 ownC (.slice a1 8 c1) (.slice a2 0 c2) (.slice a3 1 c3) (.slice a4 1 c4) at C6
  simp only [ClsV]
  simp (disch := first | omega | assumption) only [C.law3_classWorks_gos, T.tv, ↓reduceIte, Nat.reduceEqDiff, reduceCtorEq, Nat.reduceLeDiff, Nat.reducePow, Int.reducePow, Int.reduceToNat, Nat.reduceAdd]
  refine eff_alloc_z T.zr_43 ?_
  simp (disch := first | omega | assumption) only [C.law3_classWorks_gos, T.tv, ↓reduceIte, Nat.reduceEqDiff, reduceCtorEq, Nat.reduceLeDiff, Nat.reducePow, Int.reducePow, Int.reduceToNat, Nat.reduceAdd]
  refine eff_store_new_z T.zr_43 rfl rfl rfl (by simp [Value.cells, oneCell, str]) rfl ?_
  intro h7 x7 hlt7 hrd7 b7
  have hC7 := ClsC.ext hC6 x7
  have C7 := ClsC.ext C6 x7
  have b67 := Fr_blk x7 b6 id
  have X7 := X6.trans x7
  generalize h6.size = bc at *
  clear hC6 C6 b6 x7 X6 hlt7 hrd7
  have l1 : ld Try.prog 43 ⟨bo, 0, none⟩ h7 = some (.agg #[.int .u16 0, .int .u16 51, .int .u16 33, .int .u16 2, .int .u16 4, .slice (some ⟨bp, 0, none⟩) 8 8, .slice none 0 0, .slice (some ⟨bf, 0, none⟩) 1 1, .slice (some ⟨bm, 0, none⟩) 1 1]) := ld_agg T.ag_43 (Rd_block (vs := ClsV ownC (.slice (some ⟨bp, 0, none⟩) 8 8) (.slice none 0 0) (.slice (some ⟨bf, 0, none⟩) 1 1) (.slice (some ⟨bm, 0, none⟩) 1 1)) b67) rfl
  have l2 : ld Try.prog 43 ⟨bc, 0, none⟩ h7 = some (.agg #[.int .u16 0, .int .u16 51, .int .u16 33, .int .u16 2, .int .u16 4, .slice a1 8 c1, .slice a2 0 c2, .slice a3 1 c3, .slice a4 1 c4]) := ld_agg T.ag_43 (Rd_block (vs := ClsV ownC (.slice a1 8 c1) (.slice a2 0 c2) (.slice a3 1 c3) (.slice a4 1 c4)) b7) rfl
  simp (disch := first | omega | assumption) only [C.law3_classWorks_gos, T.tv, ↓reduceIte, Nat.reduceEqDiff, reduceCtorEq, Nat.reduceLeDiff, Nat.reducePow, Int.reducePow, Int.reduceToNat, Nat.reduceAdd, l1, l2, Int.natCast_zero]
  refine eff_callF rfl ((sameClass_any ownC (.slice a1 8 c1) (.slice a2 0 c2) (.slice a3 1 c3) (.slice a4 1 c4) (.slice (some ⟨bp, 0, none⟩) 8 8) (.slice none 0 0) (.slice (some ⟨bf, 0, none⟩) 1 1) (.slice (some ⟨bm, 0, none⟩) 1 1) h7 C7 hC7 (by decide) (by decide) (by decide) (by decide) (by decide)).mono ?_)
  rintro _ h8 ⟨x8, rfl⟩
  have C8 := ClsC.ext C7 x8
  have b8 := Fr_blk x8 b7 id
  have X8 := X7.trans x8
  clear l1 l2 hC7 C7 b67 b7 x8 X7
  have l2 : ld Try.prog 43 ⟨bc, 0, none⟩ h8 = some (.agg #[.int .u16 0, .int .u16 51, .int .u16 33, .int .u16 2, .int .u16 4, .slice a1 8 c1, .slice a2 0 c2, .slice a3 1 c3, .slice a4 1 c4]) := ld_agg T.ag_43 (Rd_block (vs := ClsV ownC (.slice a1 8 c1) (.slice a2 0 c2) (.slice a3 1 c3) (.slice a4 1 c4)) b8) rfl
  simp (disch := first | omega | assumption) only [C.law3_classWorks_gos, T.tv, ↓reduceIte, Nat.reduceEqDiff, reduceCtorEq, Nat.reduceLeDiff, Nat.reducePow, Int.reducePow, Int.reduceToNat, Nat.reduceAdd, l2]
  refine eff_callF rfl ((classWrite_any ownC (.slice a1 8 c1) (.slice a2 0 c2) (.slice a3 1 c3) (.slice a4 1 c4) h8 C8 own_fit (by decide) (by decide) (by decide) (by decide) (by decide) (by decide) (by decide)).mono ?_)
  rw [own_k]
  rintro _ h9 ⟨x9, rfl⟩
  simp (disch := first | omega | assumption) only [C.law3_classWorks_gos, T.tv, ↓reduceIte, Nat.reduceEqDiff, reduceCtorEq, Nat.reduceLeDiff, Nat.reducePow, Int.reducePow, Int.reduceToNat, Nat.reduceAdd, Int.natCast_zero]
  exact X8.trans x9
end Go.Proofs.Ytohkbpnblkkdgaa
