/- The writer of classes: numbers. The writer of classes: indexes, attributes. The writer of classes: code. -/
import Derived.Test.YtohkbpnblkkdgaaLO
import Derived.Test.YtohkbpnblkkdgaaCi
import Derived.Test.YtohkbpnblkkdgaaCa
import Derived.Test.YtohkbpnblkkdgaaVcS
namespace Go.Proofs.Ytohkbpnblkkdgaa
open Go.Vc
set_option maxRecDepth 100000
set_option linter.unusedSimpArgs false
set_option linter.unusedVariables false

def wrV (vb : Value) (cc : List Value) (e : Nat) : List Value := vb :: (cc ++ [.int .i64 (e : Int)])
def CW (h0 h : Heap) (g : Nat) (cc : List Value) (b : List UInt8) (e : Nat) : Prop :=
  h0.size ≤ g ∧ Ext h0 h ∧ cc.length = 9 ∧ ∃ vb, h[g]? = some (.cells (wrV vb cc e).toArray 84 (0, 0)) ∧ Own h h0.size 5 1 vb b.length (bytesV b)
section
variable {h0 h : Heap} {g : Nat} {cc : List Value} {b : List UInt8} {e : Nat}
theorem CW.ext {h' : Heap} (H : CW h0 h g cc b e) (hx : Ext h h') : CW h0 h' g cc b e := by
  obtain ⟨h1, h2, h5, vb, h3, h4⟩ := H
  exact ⟨h1, h2.trans hx, h5, vb, Fr_blk hx h3 id, h4.ext hx⟩
theorem CW.lt (H : CW h0 h g cc b e) : g < h.size := by
  obtain ⟨_, _, _, vb, h3, _⟩ := H
  exact (Array.getElem?_eq_some_iff.1 h3).1
theorem wrV_err {vb : Value} {cc : List Value} {e : Nat} (hl : cc.length = 9) : (wrV vb cc e).toArray[10]? = some (.int .i64 (e : Int)) := by
  simp [wrV, List.getElem?_cons, List.getElem?_append, hl]
theorem wrV_set0 {vb v : Value} {cc : List Value} {e : Nat} : (wrV vb cc e).toArray.setIfInBounds 0 v = (wrV v cc e).toArray := by
  simp [wrV]
theorem wrV_set10 {vb : Value} {cc : List Value} {e q : Nat} (hl : cc.length = 9) : (wrV vb cc e).toArray.setIfInBounds 10 (.int .i64 (q : Int)) = (wrV vb cc q).toArray := by
  simp [wrV, List.set_append, hl]
theorem CW.ty (H : CW h0 h g cc b e) {k : Nat} {cs : Array Value} {t : TypeId} {fz : Nat × Nat} (hb : h[k]? = some (.cells cs t fz)) (ht : t ≠ 84) : k ≠ g := by
  intro hk
  obtain ⟨_, _, _, vb, h3, _⟩ := H
  rw [hk, h3] at hb
  simp only [Option.some.injEq, Obj.cells.injEq] at hb
  exact ht hb.2.1.symm
theorem cwfail_any (q : Nat) (H : CW h0 h g cc b e) :
    HCalls Try.prog 39 #[.pointer (some ⟨g, 0, none⟩), .int .i64 q] h fun _ h' => CW h0 h' g cc b (thenE e q) ∧ KeepB h h' g := by
  refine C.cw_fail_calls (args := [.pointer (some ⟨g, 0, none⟩), .int .i64 q]) rfl ?_
  obtain ⟨hg, x0, hl, vb, hblk, own⟩ := H
  have c2 : cellAt h ⟨g, 10, none⟩ = some (.int .i64 (e : Int)) := by rw [cellAt_of hblk]; exact wrV_err hl
  by_cases he : e = 0
  · have he' : (e : Int) = 0 := by omega
    have ht : thenE e q = q := by unfold thenE; rw [if_pos he]
    rw [ht]
    simp (disch := first | omega | assumption) only [C.cw_fail_gos, T.tv, ↓reduceIte, Nat.reduceEqDiff, reduceCtorEq, Nat.reduceLeDiff, Nat.reducePow, Int.reducePow, Int.reduceToNat, Nat.reduceAdd, c2, eq_true he']
    refine eff_store1_z T.zr_27 rfl rfl rfl rfl rfl c2 (by simp [frozenAt, hblk]) ?_
    have b1 := setAt_get (o := 10) hblk (.int .i64 (q : Int))
    rw [wrV_set10 hl] at b1
    have f1 : Fr (fun k => k = g) h (setAt h ⟨g, 10, none⟩ (.int .i64 (q : Int))) := Fr.set (S := fun k => k = g) _ _ _ fun _ => rfl
    simp (disch := first | omega | assumption) only [C.cw_fail_gos, T.tv, ↓reduceIte, Nat.reduceEqDiff, reduceCtorEq, Nat.reduceLeDiff, Nat.reducePow, Int.reducePow, Int.reduceToNat, Nat.reduceAdd]
    refine ⟨⟨hg, Fr.trans x0 f1 (fun _ _ h => h) (fun k hk hS => by omega), hl, vb, b1, own.fr f1 (fun k hk hS => ?_)⟩, f1.size, fun c cs t fz h1 h2 h3 => Fr_blk f1 h3 h1⟩
    subst hS
    exact Own_ne own hblk (by decide) hk
  · have he' : ¬ (e : Int) = 0 := by omega
    have ht : thenE e q = e := by unfold thenE; rw [if_neg he]
    rw [ht]
    simp (disch := first | omega | assumption) only [C.cw_fail_gos, T.tv, ↓reduceIte, Nat.reduceEqDiff, reduceCtorEq, Nat.reduceLeDiff, Nat.reducePow, Int.reducePow, Int.reduceToNat, Nat.reduceAdd, c2, eq_false he']
    exact ⟨⟨hg, x0, hl, vb, hblk, own⟩, KeepB.refl _ _⟩
/-- What is left of append and store. -/
theorem CW.app (hg : h0.size ≤ g) {h1 h2 : Heap} {vb v2 : Value} {x : List UInt8} (hx : Ext h0 h1) (hl : cc.length = 9) (blk1 : h1[g]? = some (.cells (wrV vb cc e).toArray 84 (0, 0))) (own1 : Own h1 h0.size 5 1 vb b.length (bytesV b))
    (own2 : Own h2 h0.size 5 1 v2 (b.length + x.length) (bytesV b ++ bytesV x)) (fr2 : Fr (fun k => vb.ownBlock = some k) h1 h2) :
    cellAt h2 ⟨g, 0, none⟩ = some vb ∧ frozenAt h2 ⟨g, 0, none⟩ = false ∧ CW h0 (setAt h2 ⟨g, 0, none⟩ v2) g cc (b ++ x) e ∧ KeepB h1 (setAt h2 ⟨g, 0, none⟩ v2) g := by
  have ext2 : Ext h0 h2 := Ext.app hx fr2 (fun k hk => (own1.lt k hk).1)
  have blk2 := Fr_blk fr2 blk1 (Own_ne own1 blk1 (by decide))
  have b3 := setAt_get (o := 0) blk2 v2
  rw [wrV_set0] at b3
  have f3 : Fr (fun k => k = g) h2 (setAt h2 ⟨g, 0, none⟩ v2) := Fr.set (S := fun k => k = g) _ _ _ fun _ => rfl
  refine ⟨by rw [cellAt_of blk2]; rfl, by simp [frozenAt, blk2], ⟨hg, Fr.trans ext2 f3 (fun _ _ h => h) (fun k hk hS => by omega), hl, _, b3, ?_⟩, ?_⟩
  · refine Own_cast (own2.fr f3 (fun k hk hS => ?_)) (by simp) (by simp [bytesV])
    subst hS
    exact Own_ne own2 blk2 (by decide) hk
  · exact KeepB.trans (b := h2) ⟨fr2.size, fun c cs t fz h1' h2' h3' => Fr_blk fr2 h3' (Own_ne own1 h3' (Ne.symm h2'))⟩ ⟨f3.size, fun c cs t fz h1' h2' h3' => Fr_blk f3 h3' h1'⟩
theorem cwnum_any (x : Int) (n : Nat) (hn : n = 2 ∨ n = 4) (hb : b.length ≤ 1099511627776) (H : CW h0 h g cc b e) :
    HCalls Try.prog 37 #[.pointer (some ⟨g, 0, none⟩), .int .i64 x, .int .i64 n] h fun _ h' => CW h0 h' g cc (b ++ (numP x n).1) (thenE e (numP x n).2) ∧ KeepB h h' g := by
  refine C.cw_num_calls (args := [.pointer (some ⟨g, 0, none⟩), .int .i64 x, .int .i64 n]) rfl ?_
  obtain ⟨hw, hlt⟩ := atU_wrap x
  rcases hn with rfl | rfl
  · have hn : (((2 : Nat)) : Int) = 2 := rfl
    have hP : numP x 2 = (bigS (atU x) 2, if x < 0 ∨ 65536 ≤ x then 12 else 0) := rfl
    rw [hP]
    simp only
    by_cases hok : x < 0 ∨ 65536 ≤ x
    case pos =>
      rw [if_pos hok]
      by_cases hneg : x < 0
      case' pos =>
        simp (disch := first | omega | assumption) only [C.cw_num_gos, T.tv, ↓reduceIte, Nat.reduceEqDiff, reduceCtorEq, Nat.reduceLeDiff, Nat.reducePow, Int.reducePow, Int.reduceToNat, Nat.reduceAdd, hneg, hn]
      case' neg =>
        have hbig : ¬ x / 65536 = 0 := by omega
        simp (disch := first | omega | assumption) only [C.cw_num_gos, T.tv, ↓reduceIte, Nat.reduceEqDiff, reduceCtorEq, Nat.reduceLeDiff, Nat.reducePow, Int.reducePow, Int.reduceToNat, Nat.reduceAdd, hneg, hn, Int.reduceMul, hbig]
      all_goals
        refine eff_callF rfl ((cwfail_any 12 H).mono ?_)
        rintro v9 h9 ⟨H9, K9⟩
        obtain ⟨hg, x0, hl, vb, hblk, own⟩ := H9
        have c0 : cellAt h9 ⟨g, 0, none⟩ = some vb := by rw [cellAt_of hblk]; rfl
        simp (disch := first | omega | assumption) only [C.cw_num_gos, T.tv, ↓reduceIte, Nat.reduceEqDiff, reduceCtorEq, Nat.reduceLeDiff, Nat.reducePow, Int.reducePow, Int.reduceToNat, Nat.reduceAdd, c0, hw]
        refine eff_callF rfl ((big_any (atU x) 2 h9 hlt (by omega)).mono ?_)
        rintro v1 h1 ⟨x1, rfl⟩
        have own1 := own.ext x1
        have blk1 := Fr_blk x1 hblk id
        have c01 : cellAt h1 ⟨g, 0, none⟩ = some vb := by rw [cellAt_of blk1]; rfl
        simp (disch := first | omega | assumption) only [C.cw_num_gos, T.tv, ↓reduceIte, Nat.reduceEqDiff, reduceCtorEq, Nat.reduceLeDiff, Nat.reducePow, Int.reducePow, Int.reduceToNat, Nat.reduceAdd, c01]
        refine eff_append_str (l := bigS (atU x) 2) T.slT_69 Try.underlying9 rfl rfl own1 (by rw [bigS_len]; omega) (by rw [bigS_len]; omega) (x0.trans x1).size ?_
        intro v2 h2 own2 fr2
        obtain ⟨c02, z02, W2, K2⟩ := CW.app hg (x0.trans x1) hl blk1 own1 own2 fr2
        obtain ⟨a2, c2, rfl, _⟩ := own2.slN.2
        simp (disch := first | omega | assumption) only [C.cw_num_gos, T.tv, ↓reduceIte, Nat.reduceEqDiff, reduceCtorEq, Nat.reduceLeDiff, Nat.reducePow, Int.reducePow, Int.reduceToNat, Nat.reduceAdd]
        refine eff_store1_z T.zr_69 rfl rfl rfl rfl rfl c02 z02 ?_
        simp (disch := first | omega | assumption) only [C.cw_num_gos, T.tv, ↓reduceIte, Nat.reduceEqDiff, reduceCtorEq, Nat.reduceLeDiff, Nat.reducePow, Int.reducePow, Int.reduceToNat, Nat.reduceAdd]
        exact ⟨W2, K9.trans ((KeepB.ext x1).trans K2)⟩
    case neg =>
      rw [if_neg hok, thenE_zero]
      have hneg : ¬ x < 0 := by omega
      have hbig : x / 65536 = 0 := by omega
      obtain ⟨h9, hh9⟩ : ∃ h9, h9 = h := ⟨_, rfl⟩
      have H9 := H
      have K9 := KeepB.refl h g
      simp (disch := first | omega | assumption) only [C.cw_num_gos, T.tv, ↓reduceIte, Nat.reduceEqDiff, reduceCtorEq, Nat.reduceLeDiff, Nat.reducePow, Int.reducePow, Int.reduceToNat, Nat.reduceAdd, hneg, hn, Int.reduceMul, hbig]
      rw [← hh9] at H9 ⊢
      rw [← hh9] at K9
      obtain ⟨hg, x0, hl, vb, hblk, own⟩ := H9
      have c0 : cellAt h9 ⟨g, 0, none⟩ = some vb := by rw [cellAt_of hblk]; rfl
      simp (disch := first | omega | assumption) only [C.cw_num_gos, T.tv, ↓reduceIte, Nat.reduceEqDiff, reduceCtorEq, Nat.reduceLeDiff, Nat.reducePow, Int.reducePow, Int.reduceToNat, Nat.reduceAdd, c0, hw]
      refine eff_callF rfl ((big_any (atU x) 2 h9 hlt (by omega)).mono ?_)
      rintro v1 h1 ⟨x1, rfl⟩
      have own1 := own.ext x1
      have blk1 := Fr_blk x1 hblk id
      have c01 : cellAt h1 ⟨g, 0, none⟩ = some vb := by rw [cellAt_of blk1]; rfl
      simp (disch := first | omega | assumption) only [C.cw_num_gos, T.tv, ↓reduceIte, Nat.reduceEqDiff, reduceCtorEq, Nat.reduceLeDiff, Nat.reducePow, Int.reducePow, Int.reduceToNat, Nat.reduceAdd, c01]
      refine eff_append_str (l := bigS (atU x) 2) T.slT_69 Try.underlying9 rfl rfl own1 (by rw [bigS_len]; omega) (by rw [bigS_len]; omega) (x0.trans x1).size ?_
      intro v2 h2 own2 fr2
      obtain ⟨c02, z02, W2, K2⟩ := CW.app hg (x0.trans x1) hl blk1 own1 own2 fr2
      obtain ⟨a2, c2, rfl, _⟩ := own2.slN.2
      simp (disch := first | omega | assumption) only [C.cw_num_gos, T.tv, ↓reduceIte, Nat.reduceEqDiff, reduceCtorEq, Nat.reduceLeDiff, Nat.reducePow, Int.reducePow, Int.reduceToNat, Nat.reduceAdd]
      refine eff_store1_z T.zr_69 rfl rfl rfl rfl rfl c02 z02 ?_
      simp (disch := first | omega | assumption) only [C.cw_num_gos, T.tv, ↓reduceIte, Nat.reduceEqDiff, reduceCtorEq, Nat.reduceLeDiff, Nat.reducePow, Int.reducePow, Int.reduceToNat, Nat.reduceAdd]
      exact ⟨W2, K9.trans ((KeepB.ext x1).trans K2)⟩
  · have hn : (((4 : Nat)) : Int) = 4 := rfl
    have hP : numP x 4 = (bigS (atU x) 4, if x < 0 ∨ 4294967296 ≤ x then 12 else 0) := rfl
    rw [hP]
    simp only
    by_cases hok : x < 0 ∨ 4294967296 ≤ x
    case pos =>
      rw [if_pos hok]
      by_cases hneg : x < 0
      case' pos =>
        simp (disch := first | omega | assumption) only [C.cw_num_gos, T.tv, ↓reduceIte, Nat.reduceEqDiff, reduceCtorEq, Nat.reduceLeDiff, Nat.reducePow, Int.reducePow, Int.reduceToNat, Nat.reduceAdd, hneg, hn]
      case' neg =>
        have hbig : ¬ x / 4294967296 = 0 := by omega
        simp (disch := first | omega | assumption) only [C.cw_num_gos, T.tv, ↓reduceIte, Nat.reduceEqDiff, reduceCtorEq, Nat.reduceLeDiff, Nat.reducePow, Int.reducePow, Int.reduceToNat, Nat.reduceAdd, hneg, hn, Int.reduceMul, hbig]
      all_goals
        refine eff_callF rfl ((cwfail_any 12 H).mono ?_)
        rintro v9 h9 ⟨H9, K9⟩
        obtain ⟨hg, x0, hl, vb, hblk, own⟩ := H9
        have c0 : cellAt h9 ⟨g, 0, none⟩ = some vb := by rw [cellAt_of hblk]; rfl
        simp (disch := first | omega | assumption) only [C.cw_num_gos, T.tv, ↓reduceIte, Nat.reduceEqDiff, reduceCtorEq, Nat.reduceLeDiff, Nat.reducePow, Int.reducePow, Int.reduceToNat, Nat.reduceAdd, c0, hw]
        refine eff_callF rfl ((big_any (atU x) 4 h9 hlt (by omega)).mono ?_)
        rintro v1 h1 ⟨x1, rfl⟩
        have own1 := own.ext x1
        have blk1 := Fr_blk x1 hblk id
        have c01 : cellAt h1 ⟨g, 0, none⟩ = some vb := by rw [cellAt_of blk1]; rfl
        simp (disch := first | omega | assumption) only [C.cw_num_gos, T.tv, ↓reduceIte, Nat.reduceEqDiff, reduceCtorEq, Nat.reduceLeDiff, Nat.reducePow, Int.reducePow, Int.reduceToNat, Nat.reduceAdd, c01]
        refine eff_append_str (l := bigS (atU x) 4) T.slT_69 Try.underlying9 rfl rfl own1 (by rw [bigS_len]; omega) (by rw [bigS_len]; omega) (x0.trans x1).size ?_
        intro v2 h2 own2 fr2
        obtain ⟨c02, z02, W2, K2⟩ := CW.app hg (x0.trans x1) hl blk1 own1 own2 fr2
        obtain ⟨a2, c2, rfl, _⟩ := own2.slN.2
        simp (disch := first | omega | assumption) only [C.cw_num_gos, T.tv, ↓reduceIte, Nat.reduceEqDiff, reduceCtorEq, Nat.reduceLeDiff, Nat.reducePow, Int.reducePow, Int.reduceToNat, Nat.reduceAdd]
        refine eff_store1_z T.zr_69 rfl rfl rfl rfl rfl c02 z02 ?_
        simp (disch := first | omega | assumption) only [C.cw_num_gos, T.tv, ↓reduceIte, Nat.reduceEqDiff, reduceCtorEq, Nat.reduceLeDiff, Nat.reducePow, Int.reducePow, Int.reduceToNat, Nat.reduceAdd]
        exact ⟨W2, K9.trans ((KeepB.ext x1).trans K2)⟩
    case neg =>
      rw [if_neg hok, thenE_zero]
      have hneg : ¬ x < 0 := by omega
      have hbig : x / 4294967296 = 0 := by omega
      obtain ⟨h9, hh9⟩ : ∃ h9, h9 = h := ⟨_, rfl⟩
      have H9 := H
      have K9 := KeepB.refl h g
      simp (disch := first | omega | assumption) only [C.cw_num_gos, T.tv, ↓reduceIte, Nat.reduceEqDiff, reduceCtorEq, Nat.reduceLeDiff, Nat.reducePow, Int.reducePow, Int.reduceToNat, Nat.reduceAdd, hneg, hn, Int.reduceMul, hbig]
      rw [← hh9] at H9 ⊢
      rw [← hh9] at K9
      obtain ⟨hg, x0, hl, vb, hblk, own⟩ := H9
      have c0 : cellAt h9 ⟨g, 0, none⟩ = some vb := by rw [cellAt_of hblk]; rfl
      simp (disch := first | omega | assumption) only [C.cw_num_gos, T.tv, ↓reduceIte, Nat.reduceEqDiff, reduceCtorEq, Nat.reduceLeDiff, Nat.reducePow, Int.reducePow, Int.reduceToNat, Nat.reduceAdd, c0, hw]
      refine eff_callF rfl ((big_any (atU x) 4 h9 hlt (by omega)).mono ?_)
      rintro v1 h1 ⟨x1, rfl⟩
      have own1 := own.ext x1
      have blk1 := Fr_blk x1 hblk id
      have c01 : cellAt h1 ⟨g, 0, none⟩ = some vb := by rw [cellAt_of blk1]; rfl
      simp (disch := first | omega | assumption) only [C.cw_num_gos, T.tv, ↓reduceIte, Nat.reduceEqDiff, reduceCtorEq, Nat.reduceLeDiff, Nat.reducePow, Int.reducePow, Int.reduceToNat, Nat.reduceAdd, c01]
      refine eff_append_str (l := bigS (atU x) 4) T.slT_69 Try.underlying9 rfl rfl own1 (by rw [bigS_len]; omega) (by rw [bigS_len]; omega) (x0.trans x1).size ?_
      intro v2 h2 own2 fr2
      obtain ⟨c02, z02, W2, K2⟩ := CW.app hg (x0.trans x1) hl blk1 own1 own2 fr2
      obtain ⟨a2, c2, rfl, _⟩ := own2.slN.2
      simp (disch := first | omega | assumption) only [C.cw_num_gos, T.tv, ↓reduceIte, Nat.reduceEqDiff, reduceCtorEq, Nat.reduceLeDiff, Nat.reducePow, Int.reducePow, Int.reduceToNat, Nat.reduceAdd]
      refine eff_store1_z T.zr_69 rfl rfl rfl rfl rfl c02 z02 ?_
      simp (disch := first | omega | assumption) only [C.cw_num_gos, T.tv, ↓reduceIte, Nat.reduceEqDiff, reduceCtorEq, Nat.reduceLeDiff, Nat.reducePow, Int.reducePow, Int.reduceToNat, Nat.reduceAdd]
      exact ⟨W2, K9.trans ((KeepB.ext x1).trans K2)⟩
end
end Go.Proofs.Ytohkbpnblkkdgaa
namespace Go.Proofs.Ytohkbpnblkkdgaa
open Go.Vc
set_option maxRecDepth 100000
set_option linter.unusedSimpArgs false
set_option linter.unusedVariables false

theorem idxP_num {x : Nat} (hx : x < 65536) : numP (x : Int) 2 = idxP x := by
  unfold numP idxP
  rw [atU_nat (by omega), if_neg (by have : (256 : Nat) ^ 2 = 65536 := by decide
                                     omega)]
theorem allP_idx (l : List Nat) : (allP idxP l).2 = 0 ∧ (allP idxP l).1.length = 2 * l.length := by
  induction l with
  | nil => exact ⟨rfl, rfl⟩
  | cons x r ih =>
    refine ⟨?_, ?_⟩
    · simp only [allP, seqP, idxP, ih.1, thenE_zero]
    · simp only [allP, seqP, idxP, List.length_append, bigS_len, ih.2, List.length_cons]; omega
section
variable {h0 h : Heap} {g : Nat} {cc : List Value} {b : List UInt8} {e : Nat}
theorem cwindex_any (l : List Nat) (vi : Value) (hl : ∀ x ∈ l, x < 65536) (hlen : l.length ≤ 1073741824) (hb : b.length ≤ 1073741824) (hS : ∀ h', KeepB h h' g → Ext h0 h' → SlN h' 1 vi l.length (natV l)) (H : CW h0 h g cc b e) :
    HCalls Try.prog 38 #[.pointer (some ⟨g, 0, none⟩), vi] h fun _ h' => CW h0 h' g cc (b ++ (allP idxP l).1) e ∧ KeepB h h' g := by
  refine C.cw_index_calls (args := [.pointer (some ⟨g, 0, none⟩), vi]) rfl ?_
  obtain ⟨_, a, c, rfl, _⟩ := hS h (KeepB.refl _ _) H.2.1
  simp (disch := first | omega | assumption) only [C.cw_index_gos, T.tv, ↓reduceIte, Nat.reduceEqDiff, reduceCtorEq, Nat.reduceLeDiff, Nat.reducePow, Int.reducePow, Int.reduceToNat, Nat.reduceAdd]
  refine loop_intro [0, 6, 7, 8] (fun m ρ hc => ∃ i : Nat, m = l.length - i ∧ i ≤ l.length ∧ ρ = [(0, .pointer (some ⟨g, 0, none⟩)), (6, .slice a l.length c), (7, .int .i64 l.length), (8, .int .i64 i)] ∧
      CW h0 hc g cc (b ++ (allP idxP (l.take i)).1) e ∧ KeepB h hc g) ?_ ?_
  · simp (disch := first | omega | assumption) only [C.cw_index_gos, T.tv, ↓reduceIte, Nat.reduceEqDiff, reduceCtorEq, Nat.reduceLeDiff, Nat.reducePow, Int.reducePow, Int.reduceToNat, Nat.reduceAdd]
    exact ⟨_, 0, rfl, Nat.zero_le _, rfl, by simpa [allP] using H, KeepB.refl _ _⟩
  rintro m ρ hc ⟨i, rfl, hi, rfl, HW, HK⟩
  rcases Nat.lt_or_ge i l.length with hlt | hge
  case inr =>
    have hlt' : ¬ (i : Int) < l.length := by omega
    rw [List.take_of_length_le hge] at HW
    simp (disch := first | omega | assumption) only [C.cw_index_gos, T.tv, ↓reduceIte, Nat.reduceEqDiff, reduceCtorEq, Nat.reduceLeDiff, Nat.reducePow, Int.reducePow, Int.reduceToNat, Nat.reduceAdd, hlt']
    exact ⟨HW, HK⟩
  have hlt' : (i : Int) < l.length := by omega
  obtain ⟨bb, o, c', heq, hrd, _⟩ := (hS hc HK HW.2.1).at hlt
  cases heq
  rw [natV_at hlt] at hrd
  have hx := hl (l.getD i 0) (by simp [hlt])
  have hst := take_snocD 0 hlt
  have hlb := (allP_idx (l.take i)).2
  have htl : (l.take i).length = i := by simp; omega
  have hP := idxP_num hx
  have c0 : cellAt hc ⟨bb, o + i, none⟩ = some (.int .u16 ((l.getD i 0 : Nat) : Int)) := by
    have := hrd 0 _ rfl
    simpa using this
  generalize l.getD i 0 = x at *
  have hw : IntKind.i64.wrap (x : Int) = (x : Int) := wrap_i64 (by omega) (by omega)
  simp (disch := first | omega | assumption) only [C.cw_index_gos, T.tv, ↓reduceIte, Nat.reduceEqDiff, reduceCtorEq, Nat.reduceLeDiff, Nat.reducePow, Int.reducePow, Int.reduceToNat, Nat.reduceAdd, hlt', c0, hw]
  refine eff_callF rfl ((cwnum_any (x : Int) 2 (.inl rfl) (by rw [List.length_append]; omega) HW).mono ?_)
  rintro v2 h2 ⟨H2, K2⟩
  rw [hP] at H2
  have H3 : CW h0 h2 g cc (b ++ (allP idxP (l.take (i + 1))).1) e := by
    rw [hst, allP_snoc]
    simpa [seqP, idxP, thenE_zero] using H2
  simp (disch := first | omega | assumption) only [C.cw_index_gos, T.tv, ↓reduceIte, Nat.reduceEqDiff, reduceCtorEq, Nat.reduceLeDiff, Nat.reducePow, Int.reducePow, Int.reduceToNat, Nat.reduceAdd]
  exact ⟨_, by omega, i + 1, rfl, by omega, by simp, H3, HK.trans K2⟩
theorem nameK_none {p : List Cst} {name : List UInt8} (h : ∀ j, j < p.length → hitN name (p.getD j Cst.zero) = false) : nameK p name = none := by
  unfold nameK
  rw [List.findIdx?_eq_none_iff]
  intro x hx
  obtain ⟨j, hj, rfl⟩ := List.mem_iff_getElem.1 hx
  have := h j hj
  simpa [hj] using this
theorem nameK_some {p : List Cst} {name : List UInt8} {i : Nat} (hi : i < p.length) (h1 : hitN name (p.getD i Cst.zero) = true) (h : ∀ j, j < i → hitN name (p.getD j Cst.zero) = false) : nameK p name = some i := by
  unfold nameK
  rw [List.findIdx?_eq_some_iff_getElem]
  refine ⟨hi, by simpa [hi] using h1, fun j hj => ?_⟩
  have := h j hj
  have hjl : j < p.length := by omega
  simp [hjl] at this
  simp [this]
theorem pat_take (b x l y : List UInt8) (hl : l.length = 4) (hx : x.length = 4) : (b ++ x ++ y).take b.length ++ l ++ (b ++ x ++ y).drop (b.length + 4) = b ++ (l ++ y) := by
  rw [List.append_assoc b x y, List.take_left, List.drop_append, Nat.add_sub_cancel_left, List.drop_eq_nil_of_le (by omega), List.drop_left' hx]
  simp
set_option maxHeartbeats 4000000 in
theorem cwattr_any (p : List Cst) (vp : Value) (name : List UInt8) (F : Nat) (cap : Array Value) (Q : Pce) (hcal : callable Try.prog F = true) (hp : SlN h0 5 vp p.length (flatS p)) (hcc : cc[5]? = some vp) (hpf : ∀ c ∈ p, c.Fit) (hpl : p.length ≤ 65536)
    (hb : b.length + Q.1.length ≤ 1000000000)
    (hF : ∀ (h1 : Heap) (b1 : List UInt8) (e1 : Nat), CW h0 h1 g cc b1 e1 → KeepB h h1 g → b1.length ≤ b.length + 6 → HCalls Try.prog F cap h1 fun _ h' => CW h0 h' g cc (b1 ++ Q.1) (thenE e1 Q.2) ∧ KeepB h1 h' g)
    (H : CW h0 h g cc b e) :
    HCalls Try.prog 41 #[.pointer (some ⟨g, 0, none⟩), str name, .func (.func F) #[] cap] h fun _ h' => CW h0 h' g cc (b ++ (attrP (nameK p) name Q).1) (thenE e (attrP (nameK p) name Q).2) ∧ KeepB h h' g := by
  refine C.cw_attribute_calls (args := [.pointer (some ⟨g, 0, none⟩), str name, .func (.func F) #[] cap]) rfl ?_
  have hp' := hp
  obtain ⟨_, ap, cp, rfl, _⟩ := hp'
  have c6 : cellAt h ⟨g, 6, none⟩ = some (.slice ap p.length cp) := by
    obtain ⟨_, _, hl, vb, h3, _⟩ := H
    rw [cellAt_of h3]
    have h5 : 5 < cc.length := by omega
    rw [List.getElem?_eq_getElem h5] at hcc
    simp [wrV, List.getElem?_cons, List.getElem?_append, hl]
    simpa using hcc
  simp (disch := first | omega | assumption) only [C.cw_attribute_gos, T.tv, ↓reduceIte, Nat.reduceEqDiff, reduceCtorEq, Nat.reduceLeDiff, Nat.reducePow, Int.reducePow, Int.reduceToNat, Nat.reduceAdd, c6]
  refine loop_intro [0, 1, 2, 13, 14, 15] (fun m ρ hc => ∃ i : Nat, m = p.length - i ∧ i ≤ p.length ∧ ρ = [(0, .pointer (some ⟨g, 0, none⟩)), (1, str name), (2, .func (.func F) #[] cap), (13, .slice ap p.length cp), (14, .int .i64 p.length), (15, .int .i64 i)] ∧
      Ext h hc ∧ ∀ j, j < i → hitN name (p.getD j Cst.zero) = false) ?_ ?_
  · simp (disch := first | omega | assumption) only [C.cw_attribute_gos, T.tv, ↓reduceIte, Nat.reduceEqDiff, reduceCtorEq, Nat.reduceLeDiff, Nat.reducePow, Int.reducePow, Int.reduceToNat, Nat.reduceAdd]
    exact ⟨_, 0, rfl, Nat.zero_le _, rfl, Ext.refl _, fun j hj => by omega⟩
  clear c6
  rintro m ρ hc ⟨i, rfl, hi, rfl, X, hno⟩
  have HW := H.ext X
  rcases Nat.lt_or_ge i p.length with hlt | hge
  case inr =>
    have hlt' : ¬ (i : Int) < p.length := by omega
    have hN : nameK p name = none := nameK_none fun j hj => hno j (by omega)
    have hA : attrP (nameK p) name Q = ([], 8) := by unfold attrP; rw [hN]
    rw [hA]
    simp (disch := first | omega | assumption) only [C.cw_attribute_gos, T.tv, ↓reduceIte, Nat.reduceEqDiff, reduceCtorEq, Nat.reduceLeDiff, Nat.reducePow, Int.reducePow, Int.reduceToNat, Nat.reduceAdd, hlt']
    refine eff_callF rfl ((cwfail_any 8 HW).mono ?_)
    rintro v2 h2 ⟨H2, K2⟩
    simp (disch := first | omega | assumption) only [C.cw_attribute_gos, T.tv, ↓reduceIte, Nat.reduceEqDiff, reduceCtorEq, Nat.reduceLeDiff, Nat.reducePow, Int.reducePow, Int.reduceToNat, Nat.reduceAdd]
    exact ⟨by simpa using H2, (KeepB.ext X).trans K2⟩
  have hlt' : (i : Int) < p.length := by omega
  obtain ⟨bb, o, c', heq, hrd, _⟩ := (hp.ext (by decide) HW.2.1).at hlt
  cases heq
  rw [flatS_at hlt] at hrd
  have hld := ld_agg T.ag_76 hrd rfl
  have hstep : hitN name (p.getD i Cst.zero) = false → ∀ j, j < i + 1 → hitN name (p.getD j Cst.zero) = false := fun h1 j hj => by
    rcases Nat.lt_or_ge j i with hji | hji
    · exact hno j hji
    · have : j = i := by omega
      rw [this]; exact h1
  have hhit := fun h1 => nameK_some (p := p) (name := name) hlt h1 hno
  generalize p.getD i Cst.zero = x at *
  obtain ⟨tag, text, bits, xa, xb⟩ := x
  simp only [Cst.cells] at hld
  simp (disch := first | omega | assumption) only [C.cw_attribute_gos, T.tv, ↓reduceIte, Nat.reduceEqDiff, reduceCtorEq, Nat.reduceLeDiff, Nat.reducePow, Int.reducePow, Int.reduceToNat, Nat.reduceAdd, hlt', hld]
  refine eff_alloc_z T.zr_76 ?_
  simp (disch := first | omega | assumption) only [C.cw_attribute_gos, T.tv, ↓reduceIte, Nat.reduceEqDiff, reduceCtorEq, Nat.reduceLeDiff, Nat.reducePow, Int.reducePow, Int.reduceToNat, Nat.reduceAdd]
  refine eff_store_new_z T.zr_76 rfl rfl rfl (by simp [Value.cells, oneCell, str]) rfl ?_
  intro h3 x3 hlt3 hrd3 b3
  have g0 : cellAt h3 ⟨hc.size, 0, none⟩ = some (.int .u8 (tag : Int)) := hrd3 0 _ rfl
  have g1 : cellAt h3 ⟨hc.size, 1, none⟩ = some (str text) := hrd3 1 _ rfl
  have X3 := X.trans x3
  have H3 := H.ext X3
  have K3 : KeepB h h3 g := KeepB.ext X3
  clear hld hrd hrd3 b3 hlt3 x3
  by_cases ht : tag = 1
  case neg =>
    have ht' : ¬ (tag : Int) = 1 := by omega
    simp (disch := first | omega | assumption) only [C.cw_attribute_gos, T.tv, ↓reduceIte, Nat.reduceEqDiff, reduceCtorEq, Nat.reduceLeDiff, Nat.reducePow, Int.reducePow, Int.reduceToNat, Nat.reduceAdd, g0, ht']
    exact ⟨_, by omega, i + 1, rfl, by omega, by simp, X3, hstep (by simp [hitN, ht])⟩
  have ht' : (tag : Int) = 1 := by omega
  by_cases hx : text = name
  case neg =>
    simp (disch := first | omega | assumption) only [C.cw_attribute_gos, T.tv, ↓reduceIte, Nat.reduceEqDiff, reduceCtorEq, Nat.reduceLeDiff, Nat.reducePow, Int.reducePow, Int.reduceToNat, Nat.reduceAdd, g0, ht', g1, eq_false hx]
    exact ⟨_, by omega, i + 1, rfl, by omega, by simp, X3, hstep (by simp [hitN, hx])⟩
  have hA : attrP (nameK p) name Q = (bigS i 2 ++ (bigS Q.1.length 4 ++ Q.1), Q.2) := by unfold attrP; rw [hhit (by simp [hitN, ht, hx])]
  rw [hA]
  have hPi : numP (i : Int) 2 = (bigS i 2, 0) := by
    have := idxP_num (x := i) (by omega)
    rw [this]; rfl
  simp (disch := first | omega | assumption) only [C.cw_attribute_gos, T.tv, ↓reduceIte, Nat.reduceEqDiff, reduceCtorEq, Nat.reduceLeDiff, Nat.reducePow, Int.reducePow, Int.reduceToNat, Nat.reduceAdd, g0, ht', g1, hx]
  refine eff_callF rfl ((cwnum_any (i : Int) 2 (.inl rfl) (by omega) H3).mono ?_)
  rintro v4 h4 ⟨H4, K4⟩
  rw [hPi, thenE_zero] at H4
  simp only at H4
  obtain ⟨_, _, hl4, vb4, blk4, own4⟩ := id H4
  obtain ⟨_, a4, c4, rfl, _⟩ := own4.slN
  have d0 : cellAt h4 ⟨g, 0, none⟩ = some (.slice a4 (b ++ bigS i 2).length c4) := by rw [cellAt_of blk4]; rfl
  simp (disch := first | omega | assumption) only [C.cw_attribute_gos, T.tv, ↓reduceIte, Nat.reduceEqDiff, reduceCtorEq, Nat.reduceLeDiff, Nat.reducePow, Int.reducePow, Int.reduceToNat, Nat.reduceAdd, d0]
  refine eff_call_of ?_
  simp (disch := first | omega | assumption) only [C.cw_attribute_gos, T.tv, ↓reduceIte, Nat.reduceEqDiff, reduceCtorEq, Nat.reduceLeDiff, Nat.reducePow, Int.reducePow, Int.reduceToNat, Nat.reduceAdd]
  have hP0 : numP ((0 : Nat) : Int) 4 = (bigS 0 4, 0) := by decide
  refine (cwnum_any ((0 : Nat) : Int) 4 (.inr rfl) (by rw [List.length_append, bigS_len]; omega) H4).mono ?_
  rintro v5 h5 ⟨H5, K5⟩
  rw [hP0, thenE_zero] at H5
  simp only at H5
  clear d0 own4 blk4
  simp (disch := first | omega | assumption) only [C.cw_attribute_gos, T.tv, ↓reduceIte, Nat.reduceEqDiff, reduceCtorEq, Nat.reduceLeDiff, Nat.reducePow, Int.reducePow, Int.reduceToNat, Nat.reduceAdd]
  refine eff_call_of ?_
  simp (disch := first | omega | assumption) only [C.cw_attribute_gos, T.tv, ↓reduceIte, Nat.reduceEqDiff, reduceCtorEq, Nat.reduceLeDiff, Nat.reducePow, Int.reducePow, Int.reduceToNat, Nat.reduceAdd]
  refine ⟨hcal, ?_⟩
  rw [Array.toArray_toList]
  have hB5 : (b ++ bigS i 2 ++ bigS 0 4).length = b.length + 6 := by simp only [List.length_append, bigS_len]
  have K35 := (K3.trans K4).trans K5
  refine (hF h5 _ _ H5 K35 (by omega)).mono ?_
  rintro v6 h6 ⟨H6, K6⟩
  obtain ⟨hg, x0, hl, vb, blk6, own6⟩ := H6
  have hB6 : (b ++ bigS i 2 ++ bigS 0 4 ++ Q.1).length = b.length + 6 + Q.1.length := by rw [List.length_append, hB5]
  obtain ⟨at', hat⟩ : ∃ n, n = (b ++ bigS i 2).length := ⟨_, rfl⟩
  have hat2 : at' = b.length + 2 := by rw [hat, List.length_append, bigS_len]
  rw [← hat]
  have hpat := pat_take (b ++ bigS i 2) (bigS 0 4) (bigS Q.1.length 4) Q.1 bigS_len bigS_len
  rw [← hat] at hpat
  generalize b ++ bigS i 2 ++ bigS 0 4 ++ Q.1 = B at *
  obtain ⟨N, hN⟩ : ∃ N, N = B.length := ⟨_, rfl⟩
  rw [← hN] at own6 hB6
  have own6' := own6
  rcases own6'.2 with ⟨_, h0'⟩ | ⟨gb, cap6, cur, fz, hv, hbg, hgb, _, hnc, _⟩
  · omega
  subst hv
  have c0 : cellAt h6 ⟨g, 0, none⟩ = some (.slice (some ⟨gb, 0, none⟩) N cap6) := by rw [cellAt_of blk6]; rfl
  have hat' : (at' : Int) ≤ (N : Int) := by omega
  have hdf : (N : Int) - (at' : Int) - 4 = ((Q.1.length : Nat) : Int) := by omega
  have hwq : IntKind.u64.wrap ((Q.1.length : Nat) : Int) = ((Q.1.length : Nat) : Int) := wrap_u64 (by omega) (by omega)
  simp (disch := first | omega | assumption) only [C.cw_attribute_gos, T.tv, ↓reduceIte, Nat.reduceEqDiff, reduceCtorEq, Nat.reduceLeDiff, Nat.reducePow, Int.reducePow, Int.reduceToNat, Nat.reduceAdd, c0, hat', hdf, hwq, Int.toNat_natCast]
  refine eff_callF rfl ((big_any Q.1.length 4 h6 (by omega) (by omega)).mono ?_)
  rintro v7 h7 ⟨x7, rfl⟩
  have own7 := own6.ext x7
  have blk7 := Fr_blk x7 blk6 id
  have c07 : cellAt h7 ⟨g, 0, none⟩ = some (.slice (some ⟨gb, 0, none⟩) N cap6) := by rw [cellAt_of blk7]; rfl
  simp (disch := first | omega | assumption) only [C.cw_attribute_gos, T.tv, ↓reduceIte, Nat.reduceEqDiff, reduceCtorEq, Nat.reduceLeDiff, Nat.reducePow, Int.reducePow, Int.reduceToNat, Nat.reduceAdd, c07, hat', Int.toNat_natCast]
  refine eff_copy_str (l := bigS Q.1.length 4) (n := N) (at' := at') T.slT_69 rfl rfl own7 (by rw [bigS_len]; omega) (by rw [bigS_len]; omega) ?_
  intro h8 f8 own8
  rw [bigS_len, hpat] at own8
  simp (disch := first | omega | assumption) only [C.cw_attribute_gos, T.tv, ↓reduceIte, Nat.reduceEqDiff, reduceCtorEq, Nat.reduceLeDiff, Nat.reducePow, Int.reducePow, Int.reduceToNat, Nat.reduceAdd]
  have hne : gb ≠ g := by
    intro hh
    subst hh
    rw [hgb] at blk6
    simp only [Option.some.injEq, Obj.cells.injEq] at blk6
    exact absurd blk6.2.1 (by decide)
  refine ⟨⟨hg, Fr.trans (x0.trans x7) f8 (fun _ _ h => h) (fun k hk hs => by omega), hl, _, Fr_blk f8 blk7 (fun hh => hne hh.symm), Own_cast own8 ?_ (by rw [List.append_assoc])⟩, ?_⟩
  · simp only [List.length_append, bigS_len]; omega
  · refine ((K35.trans K6).trans (KeepB.ext x7)).trans ⟨f8.size, fun c cs t fz' h1' h2' h3' => Fr_blk f8 h3' (fun hh => ?_)⟩
    subst hh
    have h7b := Fr_blk x7 hgb id
    rw [h3'] at h7b
    simp only [Option.some.injEq, Obj.cells.injEq] at h7b
    exact h2' h7b.2.1
end
end Go.Proofs.Ytohkbpnblkkdgaa
namespace Go.Proofs.Ytohkbpnblkkdgaa
open Go.Vc
set_option maxRecDepth 100000
set_option linter.unusedSimpArgs false
set_option linter.unusedVariables false

section
variable {h0 h : Heap} {g : Nat} {cc : List Value} {b : List UInt8} {e : Nat}
theorem CW.seq {P Q : Pce} (H : CW h0 h g cc (b ++ P.1 ++ Q.1) (thenE (thenE e P.2) Q.2)) : CW h0 h g cc (b ++ (seqP P Q).1) (thenE e (seqP P Q).2) := by
  simpa [seqP, thenE_assoc] using H
theorem CW.seq0 {P : Pce} {x : List UInt8} (H : CW h0 h g cc (b ++ P.1 ++ x) (thenE e P.2)) : CW h0 h g cc (b ++ (seqP P (x, 0)).1) (thenE e (seqP P (x, 0)).2) := by
  simpa [seqP, thenE_zero] using H
theorem numP_len {n : Nat} (hn : n < 4294967296) : numP (n : Int) 4 = (bigS n 4, 0) := by
  unfold numP
  rw [atU_nat (by omega), if_neg (by have : (256 : Nat) ^ 4 = 4294967296 := by decide
                                     omega)]
theorem numP_one (x : Int) (n : Nat) : (numP x n).1.length = n := bigS_len
/-- A list of indexes that was just written out. -/
theorem lit_keep (l : List Nat) (hg : g < h.size) : ∀ h', KeepB (h.push (.cells (natV l).toArray 38)) h' g → SlN h' 1 (.slice (some ⟨h.size, 0, none⟩) l.length l.length) l.length (natV l) := by
  intro h' K
  have hb : (h.push (.cells (natV l).toArray 38))[h.size]? = some (.cells (natV l).toArray 38 (0, 0)) := by simp
  have hb' := K.blk hb (by omega) (by decide)
  exact ⟨by simp [natV], _, _, rfl, .inr ⟨_, _, rfl, Rd_block hb'⟩⟩
set_option maxHeartbeats 1000000 in
theorem cwcode1_any (c : Cde) (vH : Value) (wb cb : Nat) (hw : h[wb]? = some (.cells #[.pointer (some ⟨g, 0, none⟩)] 82 (0, 0))) (hc : h[cb]? = some (.cells (CdeV c vH).toArray 79 (0, 0)))
    (hb : b.length + c.map.length ≤ 1000000000) (H : CW h0 h g cc b e) :
    HCalls Try.prog 74 #[.pointer (some ⟨wb, 0, none⟩), .pointer (some ⟨cb, 0, none⟩)] h fun _ h' => CW h0 h' g cc (b ++ c.map) e ∧ KeepB h h' g := by
  refine C.cw_code_1_calls (args := [.pointer (some ⟨wb, 0, none⟩), .pointer (some ⟨cb, 0, none⟩)]) rfl ?_
  have w0 : cellAt h ⟨wb, 0, none⟩ = some (.pointer (some ⟨g, 0, none⟩)) := by rw [cellAt_of hw]; rfl
  have k4 : cellAt h ⟨cb, 4, none⟩ = some (str c.map) := by rw [cellAt_of hc]; rfl
  have hwg := H.ty hw (by decide)
  obtain ⟨hg, x0, hl, vb, hblk, own⟩ := H
  have c0 : cellAt h ⟨g, 0, none⟩ = some vb := by rw [cellAt_of hblk]; rfl
  simp (disch := first | omega | assumption) only [C.cw_code_1_gos, T.tv, ↓reduceIte, Nat.reduceEqDiff, reduceCtorEq, Nat.reduceLeDiff, Nat.reducePow, Int.reducePow, Int.reduceToNat, Nat.reduceAdd, w0, k4, c0]
  refine eff_append_str (l := c.map) T.slT_69 Try.underlying9 rfl rfl own (by omega) (by omega) x0.size ?_
  intro v2 h2 own2 fr2
  obtain ⟨c02, z02, W2, K2⟩ := CW.app hg x0 hl hblk own own2 fr2
  have w2 := Fr_blk fr2 hw (Own_ne own hw (by decide))
  have w02 : cellAt h2 ⟨wb, 0, none⟩ = some (.pointer (some ⟨g, 0, none⟩)) := by rw [cellAt_of w2]; rfl
  obtain ⟨a2, c2, rfl, _⟩ := own2.slN.2
  simp (disch := first | omega | assumption) only [C.cw_code_1_gos, T.tv, ↓reduceIte, Nat.reduceEqDiff, reduceCtorEq, Nat.reduceLeDiff, Nat.reducePow, Int.reducePow, Int.reduceToNat, Nat.reduceAdd, w02]
  refine eff_store1_z T.zr_69 rfl rfl rfl rfl rfl c02 z02 ?_
  simp (disch := first | omega | assumption) only [C.cw_code_1_gos, T.tv, ↓reduceIte, Nat.reduceEqDiff, reduceCtorEq, Nat.reduceLeDiff, Nat.reducePow, Int.reducePow, Int.reduceToNat, Nat.reduceAdd]
  exact ⟨W2, K2⟩
/-- While parts of a class are written: the writer, its variable, the variable of what is written. -/
structure CSt (h0 h hc : Heap) (g wb : Nat) (cc : List Value) (b : List UInt8) (e : Nat) (cb : Nat) (cs : List Value) (t : TypeId) (P : Pce) : Prop where
  w : CW h0 hc g cc (b ++ P.1) (thenE e P.2)
  k : KeepB h hc g
  wb : hc[wb]? = some (.cells #[.pointer (some ⟨g, 0, none⟩)] 82 (0, 0))
  cb : hc[cb]? = some (.cells cs.toArray t (0, 0))
  t1 : t ≠ 5
  t2 : t ≠ 84
section
variable {hc h' : Heap} {wb cb : Nat} {cs : List Value} {t : TypeId} {P Q : Pce}
theorem CSt.w0 (D : CSt h0 h hc g wb cc b e cb cs t P) : cellAt hc ⟨wb, 0, none⟩ = some (.pointer (some ⟨g, 0, none⟩)) := by rw [cellAt_of D.wb]; rfl
theorem CSt.step (D : CSt h0 h hc g wb cc b e cb cs t P) (W : CW h0 h' g cc (b ++ P.1 ++ Q.1) (thenE (thenE e P.2) Q.2)) (K : KeepB hc h' g) : CSt h0 h h' g wb cc b e cb cs t (seqP P Q) :=
  ⟨W.seq, D.k.trans K, K.blk D.wb (D.w.ty D.wb (by decide)) (by decide), K.blk D.cb (D.w.ty D.cb D.t2) D.t1, D.t1, D.t2⟩
theorem CSt.ext (D : CSt h0 h hc g wb cc b e cb cs t P) (x : Ext hc h') : CSt h0 h h' g wb cc b e cb cs t P :=
  ⟨D.w.ext x, D.k.trans (KeepB.ext x), Fr_blk x D.wb id, Fr_blk x D.cb id, D.t1, D.t2⟩
theorem CSt.num (D : CSt h0 h hc g wb cc b e cb cs t P) (x : Int) (n : Nat) (hn : n = 2 ∨ n = 4) (hb : b.length + P.1.length ≤ 1000000000) :
    HCalls Try.prog 37 #[.pointer (some ⟨g, 0, none⟩), .int .i64 x, .int .i64 n] hc fun _ h' => CSt h0 h h' g wb cc b e cb cs t (seqP P (numP x n)) :=
  (cwnum_any x n hn (by rw [List.length_append]; omega) D.w).mono fun _ _ hp => D.step hp.1 hp.2
theorem CSt.fail (D : CSt h0 h hc g wb cc b e cb cs t P) (q : Nat) :
    HCalls Try.prog 39 #[.pointer (some ⟨g, 0, none⟩), .int .i64 q] hc fun _ h' => CSt h0 h h' g wb cc b e cb cs t (seqP P ([], q)) :=
  (cwfail_any q D.w).mono fun _ _ hp => D.step (by rw [List.append_nil]; exact hp.1) hp.2
theorem allP_idx_eq (l : List Nat) : allP idxP l = ((allP idxP l).1, 0) := by
  have := (allP_idx l).1
  exact Prod.ext rfl this
theorem CSt.index (D : CSt h0 h hc g wb cc b e cb cs t P) (l : List Nat) (vi : Value) (hl : ∀ x ∈ l, x < 65536) (hlen : l.length ≤ 1073741824) (hb : b.length + P.1.length ≤ 1000000000) (hS : ∀ h', KeepB hc h' g → Ext h0 h' → SlN h' 1 vi l.length (natV l)) :
    HCalls Try.prog 38 #[.pointer (some ⟨g, 0, none⟩), vi] hc fun _ h' => CSt h0 h h' g wb cc b e cb cs t (seqP P (allP idxP l)) :=
  (cwindex_any l vi hl hlen (by rw [List.length_append]; omega) hS D.w).mono fun _ _ hp => D.step (by rw [allP_idx_eq l, thenE_zero]; exact hp.1) hp.2
/-- The indexes of a list that is written out. -/
theorem CSt.lits (D : CSt h0 h hc g wb cc b e cb cs t P) (l : List Nat) (hl : ∀ x ∈ l, x < 65536) (hlen : l.length ≤ 1073741824) (hb : b.length + P.1.length ≤ 1000000000) :
    HCalls Try.prog 38 #[.pointer (some ⟨g, 0, none⟩), .slice (some ⟨hc.size, 0, none⟩) l.length l.length] (hc.push (.cells (natV l).toArray 38)) fun _ h' => CSt h0 h h' g wb cc b e cb cs t (seqP P (allP idxP l)) :=
  (D.ext (Ext.push _ _)).index l _ hl hlen hb fun h' K _ => lit_keep l D.w.lt h' K
end
set_option maxHeartbeats 8000000 in
theorem cwcode_any (p : List Cst) (vp : Value) (c : Cde) (vH : Value) (hp : SlN h0 5 vp p.length (flatS p)) (hcc : cc[5]? = some vp) (hpf : ∀ c ∈ p, c.Fit) (hpl : p.length ≤ 65536) (hcf : c.Fit) (hH : SlN h0 4 vH c.hs.length (flatH c.hs))
    (hhl : c.hs.length ≤ 1048576) (hbl : c.bytes.length ≤ 1048576) (hml : c.map.length ≤ 1048576) (hb : b.length ≤ 900000000) (H : CW h0 h g cc b e) :
    HCalls Try.prog 44 #[.pointer (some ⟨g, 0, none⟩), .agg (CdeV c vH).toArray] h fun _ h' => CW h0 h' g cc (b ++ (cdeP (nameK p) c).1) (thenE e (cdeP (nameK p) c).2) ∧ KeepB h h' g := by
  refine C.cw_code_calls (args := [.pointer (some ⟨g, 0, none⟩), .agg (CdeV c vH).toArray]) rfl ?_
  have hH' := hH
  obtain ⟨_, aH, cH, rfl, _⟩ := hH'
  have hgs := H.lt
  simp only [CdeV]
  simp (disch := first | omega | assumption) only [C.cw_code_gos, T.tv, ↓reduceIte, Nat.reduceEqDiff, reduceCtorEq, Nat.reduceLeDiff, Nat.reducePow, Int.reducePow, Int.reduceToNat, Nat.reduceAdd]
  refine eff_box ?_
  simp (disch := first | omega | assumption) only [C.cw_code_gos, T.tv, ↓reduceIte, Nat.reduceEqDiff, reduceCtorEq, Nat.reduceLeDiff, Nat.reducePow, Int.reducePow, Int.reduceToNat, Nat.reduceAdd]
  have e1 : Ext h (h.push (.cells #[.pointer (some ⟨g, 0, none⟩)] 82)) := Ext.push _ _
  have wb0 : (h.push (.cells #[.pointer (some ⟨g, 0, none⟩)] 82))[h.size]? = some (.cells #[.pointer (some ⟨g, 0, none⟩)] 82 (0, 0)) := by simp
  generalize h.push (.cells #[.pointer (some ⟨g, 0, none⟩)] 82) = h1 at *
  generalize h.size = wb at *
  refine eff_box ?_
  have e2 : Ext h1 (h1.push (.cells (CdeV c (.slice aH c.hs.length cH)).toArray 79)) := Ext.push _ _
  have cb0 : (h1.push (.cells (CdeV c (.slice aH c.hs.length cH)).toArray 79))[h1.size]? = some (.cells (CdeV c (.slice aH c.hs.length cH)).toArray 79 (0, 0)) := by simp
  have D0 : CSt h0 h (h1.push (.cells (CdeV c (.slice aH c.hs.length cH)).toArray 79)) g wb cc b e h1.size (CdeV c (.slice aH c.hs.length cH)) 79 ([], 0) :=
    ⟨by simpa [thenE_zero] using H.ext (e1.trans e2), KeepB.ext (e1.trans e2), Fr_blk e2 wb0 id, cb0, by decide, by decide⟩
  simp (disch := first | omega | assumption) only [C.cw_code_gos, T.tv, ↓reduceIte, Nat.reduceEqDiff, reduceCtorEq, Nat.reduceLeDiff, Nat.reducePow, Int.reducePow, Int.reduceToNat, Nat.reduceAdd]
  clear e1 e2 wb0 cb0
  simp only [CdeV] at D0
  change CSt h0 h (h1.push (.cells #[.int .i64 c.maxS, .int .i64 c.maxL, str c.bytes, .slice aH c.hs.length cH, str c.map] 79)) g wb cc b e h1.size _ _ _ at D0
  generalize h1.push (.cells #[.int .i64 c.maxS, .int .i64 c.maxL, str c.bytes, .slice aH c.hs.length cH, str c.map] 79) = h2 at *
  generalize h1.size = cb at *
  have w0 := D0.w0
  have kx : cellAt h2 ⟨cb, 0, none⟩ = some (.int .i64 c.maxS) := by rw [cellAt_of D0.cb]; rfl
  simp (disch := first | omega | assumption) only [C.cw_code_gos, T.tv, ↓reduceIte, Nat.reduceEqDiff, reduceCtorEq, Nat.reduceLeDiff, Nat.reducePow, Int.reducePow, Int.reduceToNat, Nat.reduceAdd, w0, kx]
  refine eff_callF rfl ((D0.num (c.maxS) 2 (by omega) (by simp only [seqP, numP, List.length_append, bigS_len, List.length_nil]; omega)).mono ?_)
  intro _ h3 D1
  clear w0 kx
  have w0 := D1.w0
  have kx : cellAt h3 ⟨cb, 1, none⟩ = some (.int .i64 c.maxL) := by rw [cellAt_of D1.cb]; rfl
  simp (disch := first | omega | assumption) only [C.cw_code_gos, T.tv, ↓reduceIte, Nat.reduceEqDiff, reduceCtorEq, Nat.reduceLeDiff, Nat.reducePow, Int.reducePow, Int.reduceToNat, Nat.reduceAdd, w0, kx]
  refine eff_callF rfl ((D1.num (c.maxL) 2 (by omega) (by simp only [seqP, numP, List.length_append, bigS_len, List.length_nil]; omega)).mono ?_)
  intro _ h4 D2
  clear w0 kx
  have w0 := D2.w0
  have kx : cellAt h4 ⟨cb, 2, none⟩ = some (str c.bytes) := by rw [cellAt_of D2.cb]; rfl
  simp (disch := first | omega | assumption) only [C.cw_code_gos, T.tv, ↓reduceIte, Nat.reduceEqDiff, reduceCtorEq, Nat.reduceLeDiff, Nat.reducePow, Int.reducePow, Int.reduceToNat, Nat.reduceAdd, w0, kx]
  refine eff_callF rfl ((D2.num ((c.bytes.length : Int)) 4 (by omega) (by simp only [seqP, numP, List.length_append, bigS_len, List.length_nil]; omega)).mono ?_)
  intro _ h5 D3
  clear w0 kx
  rw [numP_len (by omega)] at D3
  have w0 := D3.w0
  have kx : cellAt h5 ⟨cb, 2, none⟩ = some (str c.bytes) := by rw [cellAt_of D3.cb]; rfl
  obtain ⟨hg, x0, hl, vb, hblk, own⟩ := id D3.w
  have c0 : cellAt h5 ⟨g, 0, none⟩ = some vb := by rw [cellAt_of hblk]; rfl
  simp (disch := first | omega | assumption) only [C.cw_code_gos, T.tv, ↓reduceIte, Nat.reduceEqDiff, reduceCtorEq, Nat.reduceLeDiff, Nat.reducePow, Int.reducePow, Int.reduceToNat, Nat.reduceAdd, w0, kx, c0]
  refine eff_append_str (l := c.bytes) T.slT_69 Try.underlying9 rfl rfl own (by simp only [seqP, numP, List.length_append, bigS_len, List.length_nil]; omega) (by simp only [seqP, numP, List.length_append, bigS_len, List.length_nil]; omega) x0.size ?_
  intro v6 h6 own6 fr6
  obtain ⟨c06, z06, W6, K6⟩ := CW.app hg x0 hl hblk own own6 fr6
  have w6 := Fr_blk fr6 D3.wb (Own_ne own D3.wb (by decide))
  have w06 : cellAt h6 ⟨wb, 0, none⟩ = some (.pointer (some ⟨g, 0, none⟩)) := by rw [cellAt_of w6]; rfl
  obtain ⟨a6, c6, rfl, _⟩ := own6.slN.2
  simp (disch := first | omega | assumption) only [C.cw_code_gos, T.tv, ↓reduceIte, Nat.reduceEqDiff, reduceCtorEq, Nat.reduceLeDiff, Nat.reducePow, Int.reducePow, Int.reduceToNat, Nat.reduceAdd, w06]
  refine eff_store1_z T.zr_69 rfl rfl rfl rfl rfl c06 z06 ?_
  have D4 := D3.step (Q := (c.bytes, 0)) (by rw [thenE_zero]; exact W6) K6
  generalize setAt h6 ⟨g, 0, none⟩ _ = h7 at *
  clear W6 K6 own6 fr6 w6 w06 c06 z06 own hblk c0 kx w0 D3 D2 D1 D0
  have w0 := D4.w0
  have kx : cellAt h7 ⟨cb, 3, none⟩ = some (.slice aH c.hs.length cH) := by rw [cellAt_of D4.cb]; rfl
  simp (disch := first | omega | assumption) only [C.cw_code_gos, T.tv, ↓reduceIte, Nat.reduceEqDiff, reduceCtorEq, Nat.reduceLeDiff, Nat.reducePow, Int.reducePow, Int.reduceToNat, Nat.reduceAdd, w0, kx]
  refine eff_callF rfl ((D4.num ((c.hs.length : Int)) 2 (by omega) (by simp only [seqP, numP, List.length_append, bigS_len, List.length_nil]; omega)).mono ?_)
  intro _ h8 D5
  clear w0 kx
  obtain ⟨P5, hP5⟩ : ∃ P5, P5 = seqP (seqP (seqP (seqP (seqP ([], 0) (numP c.maxS 2)) (numP c.maxL 2)) (bigS c.bytes.length 4, 0)) (c.bytes, 0)) (numP (c.hs.length : Int) 2) := ⟨_, rfl⟩
  have hP5l : P5.1.length ≤ 1048600 := by rw [hP5]; simp only [seqP, numP, List.length_append, bigS_len, List.length_nil]; omega
  rw [← hP5] at D5
  have kx : cellAt h8 ⟨cb, 3, none⟩ = some (.slice aH c.hs.length cH) := by rw [cellAt_of D5.cb]; rfl
  simp (disch := first | omega | assumption) only [C.cw_code_gos, T.tv, ↓reduceIte, Nat.reduceEqDiff, reduceCtorEq, Nat.reduceLeDiff, Nat.reducePow, Int.reducePow, Int.reduceToNat, Nat.reduceAdd, kx]
  clear D4 kx
  refine loop_intro [0, 1, 2, 3, 35, 36, 37] (fun m ρ hc => ∃ i : Nat, m = c.hs.length - i ∧ i ≤ c.hs.length ∧ ρ = [(0, .pointer (some ⟨g, 0, none⟩)), (1, .agg #[.int .i64 c.maxS, .int .i64 c.maxL, str c.bytes, .slice aH c.hs.length cH, str c.map]), (2, .pointer (some ⟨wb, 0, none⟩)), (3, .pointer (some ⟨cb, 0, none⟩)), (35, .slice aH c.hs.length cH), (36, .int .i64 c.hs.length), (37, .int .i64 i)] ∧
      CSt h0 h hc g wb cc b e cb [.int .i64 c.maxS, .int .i64 c.maxL, str c.bytes, .slice aH c.hs.length cH, str c.map] 79 (seqP P5 (allP hndP (c.hs.take i)))) ?_ ?_
  · simp (disch := first | omega | assumption) only [C.cw_code_gos, T.tv, ↓reduceIte, Nat.reduceEqDiff, reduceCtorEq, Nat.reduceLeDiff, Nat.reducePow, Int.reducePow, Int.reduceToNat, Nat.reduceAdd]
    exact ⟨_, 0, rfl, Nat.zero_le _, rfl, by simpa [allP, seqP_nil] using D5⟩
  clear D5
  rintro m ρ hc ⟨i, rfl, hi, rfl, D⟩
  rcases Nat.lt_or_ge i c.hs.length with hlt | hge
  case inr =>
    have hlt' : ¬ (i : Int) < c.hs.length := by omega
    rw [List.take_of_length_le hge] at D
    have hPl : (seqP P5 (allP hndP c.hs)).1.length ≤ 10000000 := by simp only [seqP, List.length_append, allP_hnd_len]; omega
    have hcde : cdeP (nameK p) c = seqP (seqP P5 (allP hndP c.hs)) (if c.map = [] then (bigS 0 2, 0) else seqP (bigS 1 2, 0) (attrP (nameK p) smN (c.map, 0))) := by
      have hbb : ((bigS c.bytes.length 4 ++ c.bytes, 0) : Pce) = seqP (bigS c.bytes.length 4, 0) (c.bytes, 0) := by simp [seqP, thenE_zero]
      rw [hP5]
      unfold cdeP
      rw [hbb]
      simp only [seqP_assoc, nilP_seq]
    rw [hcde]
    generalize seqP P5 (allP hndP c.hs) = P6 at *
    have kx : cellAt hc ⟨cb, 4, none⟩ = some (str c.map) := by rw [cellAt_of D.cb]; rfl
    have w0 := D.w0
    have hN0 : numP ((0 : Nat) : Int) 2 = (bigS 0 2, 0) := by decide
    have hN1 : numP ((1 : Nat) : Int) 2 = (bigS 1 2, 0) := by decide
    by_cases hm : c.map = []
    · rw [if_pos hm]
      simp (disch := first | omega | assumption) only [C.cw_code_gos, T.tv, ↓reduceIte, Nat.reduceEqDiff, reduceCtorEq, Nat.reduceLeDiff, Nat.reducePow, Int.reducePow, Int.reduceToNat, Nat.reduceAdd, hlt', kx, eq_true hm, w0]
      refine eff_callF rfl ((D.num ((0 : Nat) : Int) 2 (by omega) (by omega)).mono ?_)
      intro _ h9 D9
      rw [hN0] at D9
      simp (disch := first | omega | assumption) only [C.cw_code_gos, T.tv, ↓reduceIte, Nat.reduceEqDiff, reduceCtorEq, Nat.reduceLeDiff, Nat.reducePow, Int.reducePow, Int.reduceToNat, Nat.reduceAdd]
      exact ⟨D9.w, D9.k⟩
    · rw [if_neg hm]
      simp (disch := first | omega | assumption) only [C.cw_code_gos, T.tv, ↓reduceIte, Nat.reduceEqDiff, reduceCtorEq, Nat.reduceLeDiff, Nat.reducePow, Int.reducePow, Int.reduceToNat, Nat.reduceAdd, hlt', kx, eq_false hm, w0]
      refine eff_callF rfl ((D.num ((1 : Nat) : Int) 2 (by omega) (by omega)).mono ?_)
      intro _ h9 D9
      rw [hN1] at D9
      have w09 := D9.w0
      simp (disch := first | omega | assumption) only [C.cw_code_gos, T.tv, ↓reduceIte, Nat.reduceEqDiff, reduceCtorEq, Nat.reduceLeDiff, Nat.reducePow, Int.reducePow, Int.reduceToNat, Nat.reduceAdd, w09]
      refine eff_callF rfl ((cwattr_any p _ smN 74 #[.pointer (some ⟨wb, 0, none⟩), .pointer (some ⟨cb, 0, none⟩)] (c.map, 0) (by decide +kernel) hp hcc hpf hpl (by simp only [seqP, List.length_append, bigS_len]; omega) ?_ D9.w).mono ?_)
      · intro h10 b1 e1 H1 K1 hb1
        refine (cwcode1_any c (.slice aH c.hs.length cH) wb cb (K1.blk D9.wb (D9.w.ty D9.wb (by decide)) (by decide)) (K1.blk D9.cb (D9.w.ty D9.cb (by decide)) (by decide)) (by simp only [seqP, List.length_append, bigS_len] at hb1; omega) H1).mono ?_
        intro _ h11 hp11
        simp only [thenE_zero]
        exact hp11
      · intro _ h10 hp10
        simp (disch := first | omega | assumption) only [C.cw_code_gos, T.tv, ↓reduceIte, Nat.reduceEqDiff, reduceCtorEq, Nat.reduceLeDiff, Nat.reducePow, Int.reducePow, Int.reduceToNat, Nat.reduceAdd]
        have D10 := D9.step hp10.1 hp10.2
        rw [seqP_assoc] at D10
        exact ⟨D10.w, D10.k⟩
  have hlt' : (i : Int) < c.hs.length := by omega
  obtain ⟨bb, o, c', heq, hrd, _⟩ := (hH.ext (by decide) D.w.2.1).at hlt
  cases heq
  rw [flatH_at hlt] at hrd
  have hst := take_snocD Hnd.zero hlt
  have hfit := hcf.hs (c.hs.getD i Hnd.zero) (by simp [hlt])
  have hPl : (seqP P5 (allP hndP (c.hs.take i))).1.length ≤ 10000000 := by
    have : (c.hs.take i).length ≤ c.hs.length := by simp; omega
    simp only [seqP, List.length_append, allP_hnd_len]; omega
  have hnext : seqP P5 (allP hndP (c.hs.take (i + 1))) = seqP (seqP P5 (allP hndP (c.hs.take i))) (hndP (c.hs.getD i Hnd.zero)) := by rw [hst, allP_snoc, seqP_assoc]
  generalize c.hs.getD i Hnd.zero = x at *
  obtain ⟨f1, f2, f3, ty⟩ := x
  simp only [Hnd.cells] at hrd
  have hld := ld_agg T.ag_132 hrd rfl
  generalize seqP P5 (allP hndP (c.hs.take i)) = P6 at *
  simp (disch := first | omega | assumption) only [C.cw_code_gos, T.tv, ↓reduceIte, Nat.reduceEqDiff, reduceCtorEq, Nat.reduceLeDiff, Nat.reducePow, Int.reducePow, Int.reduceToNat, Nat.reduceAdd, hlt', hld]
  refine eff_alloc_z T.zr_132 ?_
  simp (disch := first | omega | assumption) only [C.cw_code_gos, T.tv, ↓reduceIte, Nat.reduceEqDiff, reduceCtorEq, Nat.reduceLeDiff, Nat.reducePow, Int.reducePow, Int.reduceToNat, Nat.reduceAdd]
  refine eff_store_new_z T.zr_132 rfl rfl rfl (by simp [Value.cells, oneCell]) rfl ?_
  intro h9 x9 hlt9 hrd9 b9
  change h9[hc.size]? = some (.cells (Hnd.cells ⟨f1, f2, f3, ty⟩).toArray 132 (0, 0)) at b9
  have Da := D.ext x9
  clear hld hrd9 hrd D hlt9 x9
  generalize hc.size = q at *
  have w0 := Da.w0
  have kx : cellAt h9 ⟨q, 0, none⟩ = some (.int .i64 f1) := by rw [cellAt_of b9]; rfl
  simp (disch := first | omega | assumption) only [C.cw_code_gos, T.tv, ↓reduceIte, Nat.reduceEqDiff, reduceCtorEq, Nat.reduceLeDiff, Nat.reducePow, Int.reducePow, Int.reduceToNat, Nat.reduceAdd, w0, kx]
  refine eff_callF rfl ((cwnum_any f1 2 (.inl rfl) (by simp only [seqP, numP, List.length_append, bigS_len]; omega) Da.w).mono ?_)
  intro _ ha hp
  have ba := hp.2.blk b9 (Da.w.ty b9 (by decide)) (by decide)
  have Db := Da.step hp.1 hp.2
  clear w0 kx hp
  have w0 := Db.w0
  have kx : cellAt ha ⟨q, 1, none⟩ = some (.int .i64 f2) := by rw [cellAt_of ba]; rfl
  simp (disch := first | omega | assumption) only [C.cw_code_gos, T.tv, ↓reduceIte, Nat.reduceEqDiff, reduceCtorEq, Nat.reduceLeDiff, Nat.reducePow, Int.reducePow, Int.reduceToNat, Nat.reduceAdd, w0, kx]
  refine eff_callF rfl ((cwnum_any f2 2 (.inl rfl) (by simp only [seqP, numP, List.length_append, bigS_len]; omega) Db.w).mono ?_)
  intro _ hb' hp
  have bb' := hp.2.blk ba (Db.w.ty ba (by decide)) (by decide)
  have Dc := Db.step hp.1 hp.2
  clear w0 kx hp
  have w0 := Dc.w0
  have kx : cellAt hb' ⟨q, 2, none⟩ = some (.int .i64 f3) := by rw [cellAt_of bb']; rfl
  simp (disch := first | omega | assumption) only [C.cw_code_gos, T.tv, ↓reduceIte, Nat.reduceEqDiff, reduceCtorEq, Nat.reduceLeDiff, Nat.reducePow, Int.reducePow, Int.reduceToNat, Nat.reduceAdd, w0, kx]
  refine eff_callF rfl ((cwnum_any f3 2 (.inl rfl) (by simp only [seqP, numP, List.length_append, bigS_len]; omega) Dc.w).mono ?_)
  intro _ hd hp
  have bd := hp.2.blk bb' (Dc.w.ty bb' (by decide)) (by decide)
  have Dd := Dc.step hp.1 hp.2
  clear w0 kx hp
  have w0 := Dd.w0
  have kx : cellAt hd ⟨q, 3, none⟩ = some (.int .u16 (ty : Int)) := by rw [cellAt_of bd]; rfl
  simp (disch := first | omega | assumption) only [C.cw_code_gos, T.tv, ↓reduceIte, Nat.reduceEqDiff, reduceCtorEq, Nat.reduceLeDiff, Nat.reducePow, Int.reducePow, Int.reduceToNat, Nat.reduceAdd, w0, kx]
  refine eff_lits T.slT_39 rfl rfl (by decide) ?_
  simp (disch := first | omega | assumption) only [C.cw_code_gos, T.tv, ↓reduceIte, Nat.reduceEqDiff, reduceCtorEq, Nat.reduceLeDiff, Nat.reducePow, Int.reducePow, Int.reduceToNat, Nat.reduceAdd]
  refine eff_callF rfl ((Dd.lits [ty] (by simpa using hfit.type) (by simp) (by simp only [seqP, numP, List.length_append, bigS_len]; omega)).mono ?_)
  intro _ he De
  have hq : seqP (seqP (seqP (seqP P6 (numP f1 2)) (numP f2 2)) (numP f3 2)) (allP idxP [ty]) = seqP P6 (hndP ⟨f1, f2, f3, ty⟩) := by
    simp only [seqP_assoc, hndP, allP, seqP_nil]
  rw [hq, ← hnext] at De
  simp (disch := first | omega | assumption) only [C.cw_code_gos, T.tv, ↓reduceIte, Nat.reduceEqDiff, reduceCtorEq, Nat.reduceLeDiff, Nat.reducePow, Int.reducePow, Int.reduceToNat, Nat.reduceAdd]
  exact ⟨_, by omega, i + 1, rfl, by omega, by simp, De⟩
end
end Go.Proofs.Ytohkbpnblkkdgaa
