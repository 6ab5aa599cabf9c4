/- The law ClassRounds on heaps. -/
import Derived.Test.YtohkbpnblkkdgaaLX4
namespace Go.Proofs.Ytohkbpnblkkdgaa
open Go.Vc
set_option maxRecDepth 100000
set_option linter.unusedSimpArgs false
set_option linter.unusedVariables false

theorem textW_each {x : Cst} : ∀ {l : List Cst}, x ∈ l → x.text.length ≤ textW l := by
  intro l
  induction l with
  | nil => intro h; cases h
  | cons y r ih =>
    intro h
    simp only [textW]
    rcases List.mem_cons.1 h with h | h
    · rw [h]; omega
    · have := ih h; omega
set_option maxHeartbeats 8000000 in
theorem classRounds_any (l : List UInt8) (h : Heap) (hl : l.length ≤ 9223372036854775807) : HCalls Try.prog 7 #[str l] h fun v h' => Ext h h' ∧ v = .bool true := by
  refine C.law3_ClassRounds_calls (args := [str l]) rfl ?_
  by_cases hb : 32768 < l.length
  · have hb' : (32768 : Int) < (l.length : Int) := by omega
    simp (disch := first | omega | assumption) only [C.law3_ClassRounds_gos, T.tv, ↓reduceIte, Nat.reduceEqDiff, reduceCtorEq, Nat.reduceLeDiff, Nat.reducePow, Int.reducePow, Int.reduceToNat, Nat.reduceAdd, hb']
    exact Ext.refl _
  have hb' : ¬ (32768 : Int) < (l.length : Int) := by omega
  have hl2 : l.length ≤ 1073741824 := by omega
  simp (disch := first | omega | assumption) only [C.law3_ClassRounds_gos, T.tv, ↓reduceIte, Nat.reduceEqDiff, reduceCtorEq, Nat.reduceLeDiff, Nat.reducePow, Int.reducePow, Int.reduceToNat, Nat.reduceAdd, hb']
  refine eff_callF rfl ((read_any [202, 254, 186, 191] h (by decide)).mono ?_)
  rw [bad_r]
  rintro _ h1 ⟨x1, vp, vi, vf, vm, rfl, C1⟩
  obtain ⟨w1, w2, w3, w4, w5, w6, w7, w8, rfl, rfl, rfl, rfl⟩ := ClsC.sl C1
  simp only [ClsV, cls0, List.length_nil]
  simp (disch := first | omega | assumption) only [C.law3_ClassRounds_gos, T.tv, ↓reduceIte, Nat.reduceEqDiff, reduceCtorEq, Nat.reduceLeDiff, Nat.reducePow, Int.reducePow, Int.reduceToNat, Nat.reduceAdd]
  refine eff_alloc_z T.zr_43 ?_
  simp (disch := first | omega | assumption) only [C.law3_ClassRounds_gos, T.tv, ↓reduceIte, Nat.reduceEqDiff, reduceCtorEq, Nat.reduceLeDiff, Nat.reducePow, Int.reducePow, Int.reduceToNat, Nat.reduceAdd]
  refine eff_store_new_z T.zr_43 rfl rfl rfl (by simp [Value.cells, oneCell, str]) rfl ?_
  intro h2 x2 _ _ _
  have X2 : Ext h h2 := x1.trans x2
  clear x1 x2 C1
  have i3 : ((3 : Nat) : Int) = 3 := rfl
  simp (disch := first | omega | assumption) only [C.law3_ClassRounds_gos, T.tv, ↓reduceIte, Nat.reduceEqDiff, reduceCtorEq, Nat.reduceLeDiff, Nat.reducePow, Int.reducePow, Int.reduceToNat, Nat.reduceAdd, i3, Int.natCast_zero]
  refine eff_callF rfl ((classWorks_any h2).mono ?_)
  rintro _ h3 ⟨x3, rfl⟩
  have X3 := X2.trans x3
  clear x3 X2
  simp (disch := first | omega | assumption) only [C.law3_ClassRounds_gos, T.tv, ↓reduceIte, Nat.reduceEqDiff, reduceCtorEq, Nat.reduceLeDiff, Nat.reducePow, Int.reducePow, Int.reduceToNat, Nat.reduceAdd]
  refine eff_callF rfl ((read_any l h3 hl2).mono ?_)
  rintro _ h4 ⟨x4, vp, vi, vf, vm, rfl, C4⟩
  have X4 := X3.trans x4
  clear x4 X3
  by_cases he : (readR l).2.1 = 0
  case neg =>
    have he' : ¬ ((readR l).2.1 : Int) = 0 := by omega
    obtain ⟨X, hX⟩ : ∃ X, X = readR l := ⟨_, rfl⟩
    rw [← hX] at he' C4 ⊢
    obtain ⟨w1, w2, w3, w4, w5, w6, w7, w8, rfl, rfl, rfl, rfl⟩ := ClsC.sl C4
    simp only [ClsV]
    simp (disch := first | omega | assumption) only [C.law3_ClassRounds_gos, T.tv, ↓reduceIte, Nat.reduceEqDiff, reduceCtorEq, Nat.reduceLeDiff, Nat.reducePow, Int.reducePow, Int.reduceToNat, Nat.reduceAdd]
    refine eff_alloc_z T.zr_43 ?_
    simp (disch := first | omega | assumption) only [C.law3_ClassRounds_gos, T.tv, ↓reduceIte, Nat.reduceEqDiff, reduceCtorEq, Nat.reduceLeDiff, Nat.reducePow, Int.reducePow, Int.reduceToNat, Nat.reduceAdd]
    refine eff_store_new_z T.zr_43 rfl rfl rfl (by simp [Value.cells, oneCell, str]) rfl ?_
    intro h5 x5 _ _ _
    simp (disch := first | omega | assumption) only [C.law3_ClassRounds_gos, T.tv, ↓reduceIte, Nat.reduceEqDiff, reduceCtorEq, Nat.reduceLeDiff, Nat.reducePow, Int.reducePow, Int.reduceToNat, Nat.reduceAdd, eq_false he']
    exact X4.trans x5
  case pos =>
    obtain ⟨c, D⟩ := class_rounds he
    rw [D.eq] at C4 ⊢
    obtain ⟨t, ht1, ht2, ht3⟩ := D.w
    have hpl := D.pl
    have htw := D.tw
    have hsw := D.sw
    have hil := D.g.il
    have hfl := D.g.fl
    have hml := D.g.ml
    have hpt : ∀ x ∈ c.pool, x.text.length ≤ 1073741824 := fun x hx => by have := textW_each hx; omega
    have hmh : ∀ m ∈ c.methods, m.code.hs.length ≤ 1073741824 := fun x hx => by have := (D.g.methods x hx).code.n; omega
    obtain ⟨w1, w2, w3, w4, w5, w6, w7, w8, rfl, rfl, rfl, rfl⟩ := ClsC.sl C4
    simp only [ClsV]
    simp (disch := first | omega | assumption) only [C.law3_ClassRounds_gos, T.tv, ↓reduceIte, Nat.reduceEqDiff, reduceCtorEq, Nat.reduceLeDiff, Nat.reducePow, Int.reducePow, Int.reduceToNat, Nat.reduceAdd]
    refine eff_alloc_z T.zr_43 ?_
    simp (disch := first | omega | assumption) only [C.law3_ClassRounds_gos, T.tv, ↓reduceIte, Nat.reduceEqDiff, reduceCtorEq, Nat.reduceLeDiff, Nat.reducePow, Int.reducePow, Int.reduceToNat, Nat.reduceAdd]
    refine eff_store_new_z T.zr_43 rfl rfl rfl (by simp [Value.cells, oneCell, str]) rfl ?_
    intro h5 x5 _ _ b5
    have C5 := ClsC.ext C4 x5
    have X5 := X4.trans x5
    generalize h4.size = bc at *
    clear C4 x5 X4
    have l1 : ld Try.prog 43 ⟨bc, 0, none⟩ h5 = some (.agg #[.int .u16 (c.minor : Int), .int .u16 (c.major : Int), .int .u16 (c.flags : Int), .int .u16 (c.this : Int), .int .u16 (c.super : Int), .slice w1 c.pool.length w2, .slice w3 c.ifs.length w4, .slice w5 c.fields.length w6, .slice w7 c.methods.length w8]) := ld_agg T.ag_43 (Rd_block (vs := ClsV c (.slice w1 c.pool.length w2) (.slice w3 c.ifs.length w4) (.slice w5 c.fields.length w6) (.slice w7 c.methods.length w8)) b5) rfl
    simp (disch := first | omega | assumption) only [C.law3_ClassRounds_gos, T.tv, ↓reduceIte, Nat.reduceEqDiff, reduceCtorEq, Nat.reduceLeDiff, Nat.reducePow, Int.reducePow, Int.reduceToNat, Nat.reduceAdd, l1, Int.natCast_zero]
    refine eff_callF rfl ((classWrite_any c (.slice w1 c.pool.length w2) (.slice w3 c.ifs.length w4) (.slice w5 c.fields.length w6) (.slice w7 c.methods.length w8) h5 C5 D.fit hpl hpt (by omega) (by omega) (by omega) (by omega) (by omega)).mono ?_)
    rw [ht1]
    rintro _ h6 ⟨x6, rfl⟩
    have C6 := ClsC.ext C5 x6
    have b6 := Fr_blk x6 b5 id
    have X6 := X5.trans x6
    clear l1 C5 b5 x6 X5
    simp (disch := first | omega | assumption) only [C.law3_ClassRounds_gos, T.tv, ↓reduceIte, Nat.reduceEqDiff, reduceCtorEq, Nat.reduceLeDiff, Nat.reducePow, Int.reducePow, Int.reduceToNat, Nat.reduceAdd, Int.natCast_zero]
    refine eff_callF rfl ((read_any t h6 (by omega)).mono ?_)
    rw [ht2]
    rintro _ h7 ⟨x7, up, ui, uf, um, rfl, C7⟩
    have C67 := ClsC.ext C6 x7
    have b7 := Fr_blk x7 b6 id
    have X7 := X6.trans x7
    clear C6 b6 x7 X6
    obtain ⟨q1, q2, q3, q4, q5, q6, q7, q8, rfl, rfl, rfl, rfl⟩ := ClsC.sl C7
    simp only [ClsV]
    simp (disch := first | omega | assumption) only [C.law3_ClassRounds_gos, T.tv, ↓reduceIte, Nat.reduceEqDiff, reduceCtorEq, Nat.reduceLeDiff, Nat.reducePow, Int.reducePow, Int.reduceToNat, Nat.reduceAdd]
    refine eff_alloc_z T.zr_43 ?_
    simp (disch := first | omega | assumption) only [C.law3_ClassRounds_gos, T.tv, ↓reduceIte, Nat.reduceEqDiff, reduceCtorEq, Nat.reduceLeDiff, Nat.reducePow, Int.reducePow, Int.reduceToNat, Nat.reduceAdd]
    refine eff_store_new_z T.zr_43 rfl rfl rfl (by simp [Value.cells, oneCell, str]) rfl ?_
    intro h8 x8 _ _ b8
    have C68 := ClsC.ext C67 x8
    have C78 := ClsC.ext C7 x8
    have b78 := Fr_blk x8 b7 id
    have X8 := X7.trans x8
    generalize h7.size = bd at *
    clear C67 C7 b7 x8 X7
    have l1 : ld Try.prog 43 ⟨bc, 0, none⟩ h8 = some (.agg #[.int .u16 (c.minor : Int), .int .u16 (c.major : Int), .int .u16 (c.flags : Int), .int .u16 (c.this : Int), .int .u16 (c.super : Int), .slice w1 c.pool.length w2, .slice w3 c.ifs.length w4, .slice w5 c.fields.length w6, .slice w7 c.methods.length w8]) := ld_agg T.ag_43 (Rd_block (vs := ClsV c (.slice w1 c.pool.length w2) (.slice w3 c.ifs.length w4) (.slice w5 c.fields.length w6) (.slice w7 c.methods.length w8)) b78) rfl
    have l2 : ld Try.prog 43 ⟨bd, 0, none⟩ h8 = some (.agg #[.int .u16 (c.minor : Int), .int .u16 (c.major : Int), .int .u16 (c.flags : Int), .int .u16 (c.this : Int), .int .u16 (c.super : Int), .slice q1 c.pool.length q2, .slice q3 c.ifs.length q4, .slice q5 c.fields.length q6, .slice q7 c.methods.length q8]) := ld_agg T.ag_43 (Rd_block (vs := ClsV c (.slice q1 c.pool.length q2) (.slice q3 c.ifs.length q4) (.slice q5 c.fields.length q6) (.slice q7 c.methods.length q8)) b8) rfl
    have hle : (t.length : Int) ≤ (l.length : Int) := by omega
    simp (disch := first | omega | assumption) only [C.law3_ClassRounds_gos, T.tv, ↓reduceIte, Nat.reduceEqDiff, reduceCtorEq, Nat.reduceLeDiff, Nat.reducePow, Int.reducePow, Int.reduceToNat, Nat.reduceAdd, l1, l2, Int.natCast_zero, hle]
    refine eff_callF rfl ((sameClass_any c (.slice w1 c.pool.length w2) (.slice w3 c.ifs.length w4) (.slice w5 c.fields.length w6) (.slice w7 c.methods.length w8) (.slice q1 c.pool.length q2) (.slice q3 c.ifs.length q4) (.slice q5 c.fields.length q6) (.slice q7 c.methods.length q8) h8 C68 C78 (by omega) (by omega) (by omega) (by omega) hmh).mono ?_)
    rintro _ h9 ⟨x9, rfl⟩
    simp (disch := first | omega | assumption) only [C.law3_ClassRounds_gos, T.tv, ↓reduceIte, Nat.reduceEqDiff, reduceCtorEq, Nat.reduceLeDiff, Nat.reducePow, Int.reducePow, Int.reduceToNat, Nat.reduceAdd]
    exact X8.trans x9
end Go.Proofs.Ytohkbpnblkkdgaa
