/- The writer of classes: numbers. -/
import Derived.Test.YtohkbpnblkkdgaaLP
import Derived.Test.YtohkbpnblkkdgaaCi
import Derived.Test.YtohkbpnblkkdgaaCa
namespace Go.Proofs.Ytohkbpnblkkdgaa
open Go.Vc
set_option maxRecDepth 100000
set_option linter.unusedSimpArgs false
set_option linter.unusedVariables false

def wrV (vb : Value) (cc : List Value) (e : Nat) : List Value := vb :: (cc ++ [.int .i64 (e : Int)])
def CW (h0 h : Heap) (g : Nat) (cc : List Value) (b : List UInt8) (e : Nat) : Prop :=
  h0.size ≤ g ∧ Ext h0 h ∧ cc.length = 9 ∧ ∃ vb, h[g]? = some (.cells (wrV vb cc e).toArray 84 (0, 0)) ∧ Own h h0.size 5 1 vb b.length (bytesV b)
section
variable {h0 h : Heap} {g : Nat} {cc : List Value} {b : List UInt8} {e : Nat}
theorem CW.ext {h' : Heap} (H : CW h0 h g cc b e) (hx : Ext h h') : CW h0 h' g cc b e := by
  obtain ⟨h1, h2, h5, vb, h3, h4⟩ := H
  exact ⟨h1, h2.trans hx, h5, vb, Fr_blk hx h3 id, h4.ext hx⟩
theorem CW.lt (H : CW h0 h g cc b e) : g < h.size := by
  obtain ⟨_, _, _, vb, h3, _⟩ := H
  exact (Array.getElem?_eq_some_iff.1 h3).1
theorem wrV_err {vb : Value} {cc : List Value} {e : Nat} (hl : cc.length = 9) : (wrV vb cc e).toArray[10]? = some (.int .i64 (e : Int)) := by
  simp [wrV, List.getElem?_cons, List.getElem?_append, hl]
theorem wrV_set0 {vb v : Value} {cc : List Value} {e : Nat} : (wrV vb cc e).toArray.setIfInBounds 0 v = (wrV v cc e).toArray := by
  simp [wrV]
theorem wrV_set10 {vb : Value} {cc : List Value} {e q : Nat} (hl : cc.length = 9) : (wrV vb cc e).toArray.setIfInBounds 10 (.int .i64 (q : Int)) = (wrV vb cc q).toArray := by
  simp [wrV, List.set_append, hl]
theorem CW.ty (H : CW h0 h g cc b e) {k : Nat} {cs : Array Value} {t : TypeId} {fz : Nat × Nat} (hb : h[k]? = some (.cells cs t fz)) (ht : t ≠ 84) : k ≠ g := by
  intro hk
  obtain ⟨_, _, _, vb, h3, _⟩ := H
  rw [hk, h3] at hb
  simp only [Option.some.injEq, Obj.cells.injEq] at hb
  exact ht hb.2.1.symm
theorem cwfail_any (q : Nat) (H : CW h0 h g cc b e) :
    HCalls Try.prog 39 #[.pointer (some ⟨g, 0, none⟩), .int .i64 q] h fun _ h' => CW h0 h' g cc b (thenE e q) ∧ KeepB h h' g := by
  refine C.cw_fail_calls (args := [.pointer (some ⟨g, 0, none⟩), .int .i64 q]) rfl ?_
  obtain ⟨hg, x0, hl, vb, hblk, own⟩ := H
  have c2 : cellAt h ⟨g, 10, none⟩ = some (.int .i64 (e : Int)) := by rw [cellAt_of hblk]; exact wrV_err hl
  by_cases he : e = 0
  · have he' : (e : Int) = 0 := by omega
    have ht : thenE e q = q := by unfold thenE; rw [if_pos he]
    rw [ht]
    simp (disch := first | omega | assumption) only [C.cw_fail_gos, vs, Go.Vc.vk, T.ts, ↓reduceIte, Nat.reduceEqDiff, reduceCtorEq, Nat.reduceLeDiff, Nat.reducePow, Int.reducePow, Int.reduceToNat, Nat.reduceAdd, c2, eq_true he']
    refine eff_store1_z T.zr_27 rfl rfl rfl rfl rfl c2 (by simp [frozenAt, hblk]) ?_
    have b1 := setAt_get (o := 10) hblk (.int .i64 (q : Int))
    rw [wrV_set10 hl] at b1
    have f1 : Fr (fun k => k = g) h (setAt h ⟨g, 10, none⟩ (.int .i64 (q : Int))) := Fr.set (S := fun k => k = g) _ _ _ fun _ => rfl
    simp (disch := first | omega | assumption) only [C.cw_fail_gos, vs, Go.Vc.vk, T.ts, ↓reduceIte, Nat.reduceEqDiff, reduceCtorEq, Nat.reduceLeDiff, Nat.reducePow, Int.reducePow, Int.reduceToNat, Nat.reduceAdd]
    refine ⟨⟨hg, Fr.trans x0 f1 (fun _ _ h => h) (fun k hk hS => by omega), hl, vb, b1, own.fr f1 (fun k hk hS => ?_)⟩, f1.size, fun c cs t fz h1 h2 h3 => Fr_blk f1 h3 h1⟩
    subst hS
    exact Own_ne own hblk (by decide) hk
  · have he' : ¬ (e : Int) = 0 := by omega
    have ht : thenE e q = e := by unfold thenE; rw [if_neg he]
    rw [ht]
    simp (disch := first | omega | assumption) only [C.cw_fail_gos, vs, Go.Vc.vk, T.ts, ↓reduceIte, Nat.reduceEqDiff, reduceCtorEq, Nat.reduceLeDiff, Nat.reducePow, Int.reducePow, Int.reduceToNat, Nat.reduceAdd, c2, eq_false he']
    exact ⟨⟨hg, x0, hl, vb, hblk, own⟩, KeepB.refl _ _⟩
/-- What is left of append and store. -/
theorem CW.app (hg : h0.size ≤ g) {h1 h2 : Heap} {vb v2 : Value} {x : List UInt8} (hx : Ext h0 h1) (hl : cc.length = 9) (blk1 : h1[g]? = some (.cells (wrV vb cc e).toArray 84 (0, 0))) (own1 : Own h1 h0.size 5 1 vb b.length (bytesV b))
    (own2 : Own h2 h0.size 5 1 v2 (b.length + x.length) (bytesV b ++ bytesV x)) (fr2 : Fr (fun k => vb.ownBlock = some k) h1 h2) :
    cellAt h2 ⟨g, 0, none⟩ = some vb ∧ frozenAt h2 ⟨g, 0, none⟩ = false ∧ CW h0 (setAt h2 ⟨g, 0, none⟩ v2) g cc (b ++ x) e ∧ KeepB h1 (setAt h2 ⟨g, 0, none⟩ v2) g := by
  have ext2 : Ext h0 h2 := Ext.app hx fr2 (fun k hk => (own1.lt k hk).1)
  have blk2 := Fr_blk fr2 blk1 (Own_ne own1 blk1 (by decide))
  have b3 := setAt_get (o := 0) blk2 v2
  rw [wrV_set0] at b3
  have f3 : Fr (fun k => k = g) h2 (setAt h2 ⟨g, 0, none⟩ v2) := Fr.set (S := fun k => k = g) _ _ _ fun _ => rfl
  refine ⟨by rw [cellAt_of blk2]; rfl, by simp [frozenAt, blk2], ⟨hg, Fr.trans ext2 f3 (fun _ _ h => h) (fun k hk hS => by omega), hl, _, b3, ?_⟩, ?_⟩
  · refine Own_cast (own2.fr f3 (fun k hk hS => ?_)) (by simp) (by simp [bytesV])
    subst hS
    exact Own_ne own2 blk2 (by decide) hk
  · exact KeepB.trans (b := h2) ⟨fr2.size, fun c cs t fz h1' h2' h3' => Fr_blk fr2 h3' (Own_ne own1 h3' (Ne.symm h2'))⟩ ⟨f3.size, fun c cs t fz h1' h2' h3' => Fr_blk f3 h3' h1'⟩
theorem cwnum_any (x : Int) (n : Nat) (hn : n = 2 ∨ n = 4) (hb : b.length ≤ 1099511627776) (H : CW h0 h g cc b e) :
    HCalls Try.prog 37 #[.pointer (some ⟨g, 0, none⟩), .int .i64 x, .int .i64 n] h fun _ h' => CW h0 h' g cc (b ++ (numP x n).1) (thenE e (numP x n).2) ∧ KeepB h h' g := by
  refine C.cw_num_calls (args := [.pointer (some ⟨g, 0, none⟩), .int .i64 x, .int .i64 n]) rfl ?_
  obtain ⟨hw, hlt⟩ := atU_wrap x
  rcases hn with rfl | rfl
  · have hn : (((2 : Nat)) : Int) = 2 := rfl
    have hP : numP x 2 = (bigS (atU x) 2, if x < 0 ∨ 65536 ≤ x then 12 else 0) := rfl
    rw [hP]
    simp only
    by_cases hok : x < 0 ∨ 65536 ≤ x
    case pos =>
      rw [if_pos hok]
      by_cases hneg : x < 0
      case' pos =>
        simp (disch := first | omega | assumption) only [C.cw_num_gos, vs, Go.Vc.vk, T.ts, ↓reduceIte, Nat.reduceEqDiff, reduceCtorEq, Nat.reduceLeDiff, Nat.reducePow, Int.reducePow, Int.reduceToNat, Nat.reduceAdd, hneg, hn]
      case' neg =>
        have hbig : ¬ x / 65536 = 0 := by omega
        simp (disch := first | omega | assumption) only [C.cw_num_gos, vs, Go.Vc.vk, T.ts, ↓reduceIte, Nat.reduceEqDiff, reduceCtorEq, Nat.reduceLeDiff, Nat.reducePow, Int.reducePow, Int.reduceToNat, Nat.reduceAdd, hneg, hn, Int.reduceMul, hbig]
      all_goals
        refine eff_call_of ?_
        simp (disch := first | omega | assumption) only [C.cw_num_gos, vs, Go.Vc.vk, T.ts, ↓reduceIte, Nat.reduceEqDiff, reduceCtorEq, Nat.reduceLeDiff, Nat.reducePow, Int.reducePow, Int.reduceToNat, Nat.reduceAdd]
        refine (cwfail_any 12 H).mono ?_
        rintro v9 h9 ⟨H9, K9⟩
        obtain ⟨hg, x0, hl, vb, hblk, own⟩ := H9
        have c0 : cellAt h9 ⟨g, 0, none⟩ = some vb := by rw [cellAt_of hblk]; rfl
        simp (disch := first | omega | assumption) only [C.cw_num_gos, vs, Go.Vc.vk, T.ts, ↓reduceIte, Nat.reduceEqDiff, reduceCtorEq, Nat.reduceLeDiff, Nat.reducePow, Int.reducePow, Int.reduceToNat, Nat.reduceAdd, c0, hw]
        refine eff_call_of ?_
        simp (disch := first | omega | assumption) only [C.cw_num_gos, vs, Go.Vc.vk, T.ts, ↓reduceIte, Nat.reduceEqDiff, reduceCtorEq, Nat.reduceLeDiff, Nat.reducePow, Int.reducePow, Int.reduceToNat, Nat.reduceAdd]
        refine (big_any (atU x) 2 h9 hlt (by omega)).mono ?_
        rintro v1 h1 ⟨x1, rfl⟩
        have own1 := own.ext x1
        have blk1 := Fr_blk x1 hblk id
        have c01 : cellAt h1 ⟨g, 0, none⟩ = some vb := by rw [cellAt_of blk1]; rfl
        simp (disch := first | omega | assumption) only [C.cw_num_gos, vs, Go.Vc.vk, T.ts, ↓reduceIte, Nat.reduceEqDiff, reduceCtorEq, Nat.reduceLeDiff, Nat.reducePow, Int.reducePow, Int.reduceToNat, Nat.reduceAdd, c01]
        refine eff_append_str (l := bigS (atU x) 2) T.slT_69 Try.underlying9 rfl rfl own1 (by rw [bigS_len]; omega) (by rw [bigS_len]; omega) (x0.trans x1).size ?_
        intro v2 h2 own2 fr2
        obtain ⟨c02, z02, W2, K2⟩ := CW.app hg (x0.trans x1) hl blk1 own1 own2 fr2
        obtain ⟨a2, c2, rfl, _⟩ := own2.slN.2
        simp (disch := first | omega | assumption) only [C.cw_num_gos, vs, Go.Vc.vk, T.ts, ↓reduceIte, Nat.reduceEqDiff, reduceCtorEq, Nat.reduceLeDiff, Nat.reducePow, Int.reducePow, Int.reduceToNat, Nat.reduceAdd]
        refine eff_store1_z T.zr_69 rfl rfl rfl rfl rfl c02 z02 ?_
        simp (disch := first | omega | assumption) only [C.cw_num_gos, vs, Go.Vc.vk, T.ts, ↓reduceIte, Nat.reduceEqDiff, reduceCtorEq, Nat.reduceLeDiff, Nat.reducePow, Int.reducePow, Int.reduceToNat, Nat.reduceAdd]
        exact ⟨W2, K9.trans ((KeepB.ext x1).trans K2)⟩
    case neg =>
      rw [if_neg hok, thenE_zero]
      have hneg : ¬ x < 0 := by omega
      have hbig : x / 65536 = 0 := by omega
      obtain ⟨h9, hh9⟩ : ∃ h9, h9 = h := ⟨_, rfl⟩
      have H9 := H
      have K9 := KeepB.refl h g
      simp (disch := first | omega | assumption) only [C.cw_num_gos, vs, Go.Vc.vk, T.ts, ↓reduceIte, Nat.reduceEqDiff, reduceCtorEq, Nat.reduceLeDiff, Nat.reducePow, Int.reducePow, Int.reduceToNat, Nat.reduceAdd, hneg, hn, Int.reduceMul, hbig]
      rw [← hh9] at H9 ⊢
      rw [← hh9] at K9
      obtain ⟨hg, x0, hl, vb, hblk, own⟩ := H9
      have c0 : cellAt h9 ⟨g, 0, none⟩ = some vb := by rw [cellAt_of hblk]; rfl
      simp (disch := first | omega | assumption) only [C.cw_num_gos, vs, Go.Vc.vk, T.ts, ↓reduceIte, Nat.reduceEqDiff, reduceCtorEq, Nat.reduceLeDiff, Nat.reducePow, Int.reducePow, Int.reduceToNat, Nat.reduceAdd, c0, hw]
      refine eff_call_of ?_
      simp (disch := first | omega | assumption) only [C.cw_num_gos, vs, Go.Vc.vk, T.ts, ↓reduceIte, Nat.reduceEqDiff, reduceCtorEq, Nat.reduceLeDiff, Nat.reducePow, Int.reducePow, Int.reduceToNat, Nat.reduceAdd]
      refine (big_any (atU x) 2 h9 hlt (by omega)).mono ?_
      rintro v1 h1 ⟨x1, rfl⟩
      have own1 := own.ext x1
      have blk1 := Fr_blk x1 hblk id
      have c01 : cellAt h1 ⟨g, 0, none⟩ = some vb := by rw [cellAt_of blk1]; rfl
      simp (disch := first | omega | assumption) only [C.cw_num_gos, vs, Go.Vc.vk, T.ts, ↓reduceIte, Nat.reduceEqDiff, reduceCtorEq, Nat.reduceLeDiff, Nat.reducePow, Int.reducePow, Int.reduceToNat, Nat.reduceAdd, c01]
      refine eff_append_str (l := bigS (atU x) 2) T.slT_69 Try.underlying9 rfl rfl own1 (by rw [bigS_len]; omega) (by rw [bigS_len]; omega) (x0.trans x1).size ?_
      intro v2 h2 own2 fr2
      obtain ⟨c02, z02, W2, K2⟩ := CW.app hg (x0.trans x1) hl blk1 own1 own2 fr2
      obtain ⟨a2, c2, rfl, _⟩ := own2.slN.2
      simp (disch := first | omega | assumption) only [C.cw_num_gos, vs, Go.Vc.vk, T.ts, ↓reduceIte, Nat.reduceEqDiff, reduceCtorEq, Nat.reduceLeDiff, Nat.reducePow, Int.reducePow, Int.reduceToNat, Nat.reduceAdd]
      refine eff_store1_z T.zr_69 rfl rfl rfl rfl rfl c02 z02 ?_
      simp (disch := first | omega | assumption) only [C.cw_num_gos, vs, Go.Vc.vk, T.ts, ↓reduceIte, Nat.reduceEqDiff, reduceCtorEq, Nat.reduceLeDiff, Nat.reducePow, Int.reducePow, Int.reduceToNat, Nat.reduceAdd]
      exact ⟨W2, K9.trans ((KeepB.ext x1).trans K2)⟩
  · have hn : (((4 : Nat)) : Int) = 4 := rfl
    have hP : numP x 4 = (bigS (atU x) 4, if x < 0 ∨ 4294967296 ≤ x then 12 else 0) := rfl
    rw [hP]
    simp only
    by_cases hok : x < 0 ∨ 4294967296 ≤ x
    case pos =>
      rw [if_pos hok]
      by_cases hneg : x < 0
      case' pos =>
        simp (disch := first | omega | assumption) only [C.cw_num_gos, vs, Go.Vc.vk, T.ts, ↓reduceIte, Nat.reduceEqDiff, reduceCtorEq, Nat.reduceLeDiff, Nat.reducePow, Int.reducePow, Int.reduceToNat, Nat.reduceAdd, hneg, hn]
      case' neg =>
        have hbig : ¬ x / 4294967296 = 0 := by omega
        simp (disch := first | omega | assumption) only [C.cw_num_gos, vs, Go.Vc.vk, T.ts, ↓reduceIte, Nat.reduceEqDiff, reduceCtorEq, Nat.reduceLeDiff, Nat.reducePow, Int.reducePow, Int.reduceToNat, Nat.reduceAdd, hneg, hn, Int.reduceMul, hbig]
      all_goals
        refine eff_call_of ?_
        simp (disch := first | omega | assumption) only [C.cw_num_gos, vs, Go.Vc.vk, T.ts, ↓reduceIte, Nat.reduceEqDiff, reduceCtorEq, Nat.reduceLeDiff, Nat.reducePow, Int.reducePow, Int.reduceToNat, Nat.reduceAdd]
        refine (cwfail_any 12 H).mono ?_
        rintro v9 h9 ⟨H9, K9⟩
        obtain ⟨hg, x0, hl, vb, hblk, own⟩ := H9
        have c0 : cellAt h9 ⟨g, 0, none⟩ = some vb := by rw [cellAt_of hblk]; rfl
        simp (disch := first | omega | assumption) only [C.cw_num_gos, vs, Go.Vc.vk, T.ts, ↓reduceIte, Nat.reduceEqDiff, reduceCtorEq, Nat.reduceLeDiff, Nat.reducePow, Int.reducePow, Int.reduceToNat, Nat.reduceAdd, c0, hw]
        refine eff_call_of ?_
        simp (disch := first | omega | assumption) only [C.cw_num_gos, vs, Go.Vc.vk, T.ts, ↓reduceIte, Nat.reduceEqDiff, reduceCtorEq, Nat.reduceLeDiff, Nat.reducePow, Int.reducePow, Int.reduceToNat, Nat.reduceAdd]
        refine (big_any (atU x) 4 h9 hlt (by omega)).mono ?_
        rintro v1 h1 ⟨x1, rfl⟩
        have own1 := own.ext x1
        have blk1 := Fr_blk x1 hblk id
        have c01 : cellAt h1 ⟨g, 0, none⟩ = some vb := by rw [cellAt_of blk1]; rfl
        simp (disch := first | omega | assumption) only [C.cw_num_gos, vs, Go.Vc.vk, T.ts, ↓reduceIte, Nat.reduceEqDiff, reduceCtorEq, Nat.reduceLeDiff, Nat.reducePow, Int.reducePow, Int.reduceToNat, Nat.reduceAdd, c01]
        refine eff_append_str (l := bigS (atU x) 4) T.slT_69 Try.underlying9 rfl rfl own1 (by rw [bigS_len]; omega) (by rw [bigS_len]; omega) (x0.trans x1).size ?_
        intro v2 h2 own2 fr2
        obtain ⟨c02, z02, W2, K2⟩ := CW.app hg (x0.trans x1) hl blk1 own1 own2 fr2
        obtain ⟨a2, c2, rfl, _⟩ := own2.slN.2
        simp (disch := first | omega | assumption) only [C.cw_num_gos, vs, Go.Vc.vk, T.ts, ↓reduceIte, Nat.reduceEqDiff, reduceCtorEq, Nat.reduceLeDiff, Nat.reducePow, Int.reducePow, Int.reduceToNat, Nat.reduceAdd]
        refine eff_store1_z T.zr_69 rfl rfl rfl rfl rfl c02 z02 ?_
        simp (disch := first | omega | assumption) only [C.cw_num_gos, vs, Go.Vc.vk, T.ts, ↓reduceIte, Nat.reduceEqDiff, reduceCtorEq, Nat.reduceLeDiff, Nat.reducePow, Int.reducePow, Int.reduceToNat, Nat.reduceAdd]
        exact ⟨W2, K9.trans ((KeepB.ext x1).trans K2)⟩
    case neg =>
      rw [if_neg hok, thenE_zero]
      have hneg : ¬ x < 0 := by omega
      have hbig : x / 4294967296 = 0 := by omega
      obtain ⟨h9, hh9⟩ : ∃ h9, h9 = h := ⟨_, rfl⟩
      have H9 := H
      have K9 := KeepB.refl h g
      simp (disch := first | omega | assumption) only [C.cw_num_gos, vs, Go.Vc.vk, T.ts, ↓reduceIte, Nat.reduceEqDiff, reduceCtorEq, Nat.reduceLeDiff, Nat.reducePow, Int.reducePow, Int.reduceToNat, Nat.reduceAdd, hneg, hn, Int.reduceMul, hbig]
      rw [← hh9] at H9 ⊢
      rw [← hh9] at K9
      obtain ⟨hg, x0, hl, vb, hblk, own⟩ := H9
      have c0 : cellAt h9 ⟨g, 0, none⟩ = some vb := by rw [cellAt_of hblk]; rfl
      simp (disch := first | omega | assumption) only [C.cw_num_gos, vs, Go.Vc.vk, T.ts, ↓reduceIte, Nat.reduceEqDiff, reduceCtorEq, Nat.reduceLeDiff, Nat.reducePow, Int.reducePow, Int.reduceToNat, Nat.reduceAdd, c0, hw]
      refine eff_call_of ?_
      simp (disch := first | omega | assumption) only [C.cw_num_gos, vs, Go.Vc.vk, T.ts, ↓reduceIte, Nat.reduceEqDiff, reduceCtorEq, Nat.reduceLeDiff, Nat.reducePow, Int.reducePow, Int.reduceToNat, Nat.reduceAdd]
      refine (big_any (atU x) 4 h9 hlt (by omega)).mono ?_
      rintro v1 h1 ⟨x1, rfl⟩
      have own1 := own.ext x1
      have blk1 := Fr_blk x1 hblk id
      have c01 : cellAt h1 ⟨g, 0, none⟩ = some vb := by rw [cellAt_of blk1]; rfl
      simp (disch := first | omega | assumption) only [C.cw_num_gos, vs, Go.Vc.vk, T.ts, ↓reduceIte, Nat.reduceEqDiff, reduceCtorEq, Nat.reduceLeDiff, Nat.reducePow, Int.reducePow, Int.reduceToNat, Nat.reduceAdd, c01]
      refine eff_append_str (l := bigS (atU x) 4) T.slT_69 Try.underlying9 rfl rfl own1 (by rw [bigS_len]; omega) (by rw [bigS_len]; omega) (x0.trans x1).size ?_
      intro v2 h2 own2 fr2
      obtain ⟨c02, z02, W2, K2⟩ := CW.app hg (x0.trans x1) hl blk1 own1 own2 fr2
      obtain ⟨a2, c2, rfl, _⟩ := own2.slN.2
      simp (disch := first | omega | assumption) only [C.cw_num_gos, vs, Go.Vc.vk, T.ts, ↓reduceIte, Nat.reduceEqDiff, reduceCtorEq, Nat.reduceLeDiff, Nat.reducePow, Int.reducePow, Int.reduceToNat, Nat.reduceAdd]
      refine eff_store1_z T.zr_69 rfl rfl rfl rfl rfl c02 z02 ?_
      simp (disch := first | omega | assumption) only [C.cw_num_gos, vs, Go.Vc.vk, T.ts, ↓reduceIte, Nat.reduceEqDiff, reduceCtorEq, Nat.reduceLeDiff, Nat.reducePow, Int.reducePow, Int.reduceToNat, Nat.reduceAdd]
      exact ⟨W2, K9.trans ((KeepB.ext x1).trans K2)⟩
end
end Go.Proofs.Ytohkbpnblkkdgaa
