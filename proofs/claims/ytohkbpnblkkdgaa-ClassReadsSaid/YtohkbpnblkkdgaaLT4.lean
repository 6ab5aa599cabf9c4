/- The reference's reading of classes: methods. -/
import Derived.Test.YtohkbpnblkkdgaaLT3
namespace Go.Proofs.Ytohkbpnblkkdgaa
open Go.Vc
set_option maxRecDepth 100000
set_option linter.unusedSimpArgs false
set_option linter.unusedVariables false

section
variable {h : Heap} {g gc : Nat} {l : List UInt8} {p : List Cst} {vp : Value} {s : RS}
set_option maxHeartbeats 8000000 in
theorem rmethod_any (hl : l.length ≤ 1073741824) (D : RG h g gc l p vp s) :
    HCalls Try.prog 62 #[.pointer (some ⟨g, 0, none⟩)] h fun r h' => FrR gc h h' ∧ Cutr h' gc l (methodR p l s).2 ∧ ∃ vH, r = .agg (MthV (methodR p l s).1 vH).toArray ∧ Own h' h.size 132 4 vH (methodR p l s).1.code.hs.length (flatH (methodR p l s).1.code.hs) := by
  refine C.rr_method_calls (args := [.pointer (some ⟨g, 0, none⟩)]) rfl ?_
  have hgc := D.r.lt
  have hg : g < h.size := (Array.getElem?_eq_some_iff.1 D.q).1
  simp (disch := first | omega | assumption) only [C.rr_method_gos, vs, Go.Vc.vk, T.ts, ↓reduceIte, Nat.reduceEqDiff, reduceCtorEq, Nat.reduceLeDiff, Nat.reducePow, Int.reducePow, Int.reduceToNat, Nat.reduceAdd]
  refine eff_alloc_z T.zr_81 ?_
  have e1 : Ext h (h.push (.cells #[.int .u16 0, .int .u16 0, .int .u16 0, .bool false, .int .i64 0, .int .i64 0, str [], .slice none 0 0, str []] 81)) := Ext.push _ _
  have b1 : (h.push (.cells #[.int .u16 0, .int .u16 0, .int .u16 0, .bool false, .int .i64 0, .int .i64 0, str [], .slice none 0 0, str []] 81))[h.size]? = some (.cells #[.int .u16 0, .int .u16 0, .int .u16 0, .bool false, .int .i64 0, .int .i64 0, str [], .slice none 0 0, str []] 81 (0, 0)) := by simp
  have s1 : (h.push (.cells #[.int .u16 0, .int .u16 0, .int .u16 0, .bool false, .int .i64 0, .int .i64 0, str [], .slice none 0 0, str []] 81)).size = h.size + 1 := by simp
  simp (disch := first | omega | assumption) only [C.rr_method_gos, vs, Go.Vc.vk, T.ts, ↓reduceIte, Nat.reduceEqDiff, reduceCtorEq, Nat.reduceLeDiff, Nat.reducePow, Int.reducePow, Int.reduceToNat, Nat.reduceAdd]
  generalize h.push (.cells #[.int .u16 0, .int .u16 0, .int .u16 0, .bool false, .int .i64 0, .int .i64 0, str [], .slice none 0 0, str []] 81) = h1 at *
  obtain ⟨rb, hrb⟩ : ∃ x, x = h.size := ⟨_, rfl⟩
  rw [← hrb] at b1 ⊢
  refine eff_alloc_z T.zr_81 ?_
  simp (disch := first | omega | assumption) only [C.rr_method_gos, vs, Go.Vc.vk, T.ts, ↓reduceIte, Nat.reduceEqDiff, reduceCtorEq, Nat.reduceLeDiff, Nat.reducePow, Int.reducePow, Int.reduceToNat, Nat.reduceAdd]
  refine eff_store_new_z T.zr_81 rfl rfl rfl (by simp [Value.cells, oneCell, str]) rfl ?_
  intro h2 x2 hlt2 hrd2 b2
  obtain ⟨fb, hfb⟩ : ∃ x, x = h1.size := ⟨_, rfl⟩
  rw [← hfb] at b2 ⊢
  have D2 : GX h g gc rb fb l p vp 81 #[.int .u16 0, .int .u16 0, .int .u16 0, .bool false, .int .i64 0, .int .i64 0, str [], .slice none 0 0, str []] [.int .u16 0, .int .u16 0, .int .u16 0, .bool false, .int .i64 0, .int .i64 0, str [], .slice none 0 0, str []] s h2 :=
    ⟨D.frR (FrR.ext (e1.trans x2)) (D.r.fr (e1.trans x2) id), b2, Fr_blk x2 b1 id, FrR.ext (e1.trans x2), by omega, by omega, by omega, ⟨hg, hgc⟩, D.p⟩
  clear e1 b1 s1 x2 hrd2 b2
  simp (disch := first | omega | assumption) only [C.rr_method_gos, vs, Go.Vc.vk, T.ts, ↓reduceIte, Nat.reduceEqDiff, reduceCtorEq, Nat.reduceLeDiff, Nat.reducePow, Int.reducePow, Int.reduceToNat, Nat.reduceAdd]
  refine eff_call_of ?_
  simp (disch := first | omega | assumption) only [C.rr_method_gos, vs, Go.Vc.vk, T.ts, ↓reduceIte, Nat.reduceEqDiff, reduceCtorEq, Nat.reduceLeDiff, Nat.reducePow, Int.reducePow, Int.reduceToNat, Nat.reduceAdd]
  refine (rindex_any hl D2.rg).mono ?_
  rintro _ y3 ⟨f3, r3, rfl⟩
  have E3 := D2.frR f3 r3
  have kc : cellAt y3 ⟨fb, 0, none⟩ = some (.int .u16 0) := by rw [E3.cell]; rfl
  simp (disch := first | omega | assumption) only [C.rr_method_gos, vs, Go.Vc.vk, T.ts, ↓reduceIte, Nat.reduceEqDiff, reduceCtorEq, Nat.reduceLeDiff, Nat.reducePow, Int.reducePow, Int.reduceToNat, Nat.reduceAdd]
  refine eff_store1_z T.zr_38 rfl rfl rfl rfl rfl kc (E3.frozen _) ?_
  have D3 := E3.set 0 ((.int .u16 ((numS l 2 s).1 : Int)))
  clear E3 kc f3 r3 D2
  generalize setAt y3 ⟨fb, 0, none⟩ _ = h3 at *
  simp (disch := first | omega | assumption) only [C.rr_method_gos, vs, Go.Vc.vk, T.ts, ↓reduceIte, Nat.reduceEqDiff, reduceCtorEq, Nat.reduceLeDiff, Nat.reducePow, Int.reducePow, Int.reduceToNat, Nat.reduceAdd]
  refine eff_call_of ?_
  simp (disch := first | omega | assumption) only [C.rr_method_gos, vs, Go.Vc.vk, T.ts, ↓reduceIte, Nat.reduceEqDiff, reduceCtorEq, Nat.reduceLeDiff, Nat.reducePow, Int.reducePow, Int.reduceToNat, Nat.reduceAdd]
  refine (rindex_any hl D3.rg).mono ?_
  rintro _ y4 ⟨f4, r4, rfl⟩
  have E4 := D3.frR f4 r4
  have kc : cellAt y4 ⟨fb, 1, none⟩ = some (.int .u16 0) := by rw [E4.cell]; rfl
  simp (disch := first | omega | assumption) only [C.rr_method_gos, vs, Go.Vc.vk, T.ts, ↓reduceIte, Nat.reduceEqDiff, reduceCtorEq, Nat.reduceLeDiff, Nat.reducePow, Int.reducePow, Int.reduceToNat, Nat.reduceAdd]
  refine eff_store1_z T.zr_38 rfl rfl rfl rfl rfl kc (E4.frozen _) ?_
  have D4 := E4.set 1 ((.int .u16 ((numS l 2 (numS l 2 s).2).1 : Int)))
  clear E4 kc f4 r4 D3
  generalize setAt y4 ⟨fb, 1, none⟩ _ = h4 at *
  simp (disch := first | omega | assumption) only [C.rr_method_gos, vs, Go.Vc.vk, T.ts, ↓reduceIte, Nat.reduceEqDiff, reduceCtorEq, Nat.reduceLeDiff, Nat.reducePow, Int.reducePow, Int.reduceToNat, Nat.reduceAdd]
  refine eff_call_of ?_
  simp (disch := first | omega | assumption) only [C.rr_method_gos, vs, Go.Vc.vk, T.ts, ↓reduceIte, Nat.reduceEqDiff, reduceCtorEq, Nat.reduceLeDiff, Nat.reducePow, Int.reducePow, Int.reduceToNat, Nat.reduceAdd]
  refine (rindex_any hl D4.rg).mono ?_
  rintro _ y5 ⟨f5, r5, rfl⟩
  have E5 := D4.frR f5 r5
  have kc : cellAt y5 ⟨fb, 2, none⟩ = some (.int .u16 0) := by rw [E5.cell]; rfl
  simp (disch := first | omega | assumption) only [C.rr_method_gos, vs, Go.Vc.vk, T.ts, ↓reduceIte, Nat.reduceEqDiff, reduceCtorEq, Nat.reduceLeDiff, Nat.reducePow, Int.reducePow, Int.reduceToNat, Nat.reduceAdd]
  refine eff_store1_z T.zr_38 rfl rfl rfl rfl rfl kc (E5.frozen _) ?_
  have D5 := E5.set 2 ((.int .u16 ((numS l 2 (numS l 2 (numS l 2 s).2).2).1 : Int)))
  clear E5 kc f5 r5 D4
  generalize setAt y5 ⟨fb, 2, none⟩ _ = h5 at *
  obtain ⟨f1, hf1⟩ : ∃ x, x = (numS l 2 s).1 := ⟨_, rfl⟩
  obtain ⟨f2, hf2⟩ : ∃ x, x = (numS l 2 (numS l 2 s).2).1 := ⟨_, rfl⟩
  obtain ⟨f3, hf3⟩ : ∃ x, x = (numS l 2 (numS l 2 (numS l 2 s).2).2).1 := ⟨_, rfl⟩
  obtain ⟨s3, hs3⟩ : ∃ x, x = (numS l 2 (numS l 2 (numS l 2 s).2).2).2 := ⟨_, rfl⟩
  rw [← hf1, ← hf2, ← hf3, ← hs3] at D5
  have D6 : GH h g gc rb fb l p vp 81 #[.int .u16 0, .int .u16 0, .int .u16 0, .bool false, .int .i64 0, .int .i64 0, str [], .slice none 0 0, str []] (MthV ⟨f1, f2, f3, false, cde0⟩ (.slice none 0 0)) (.slice none 0 0) cde0.hs s3 h5 := ⟨D5, Own.nil⟩
  clear D5
  have k0 := D6.rg.k0
  simp (disch := first | omega | assumption) only [C.rr_method_gos, vs, Go.Vc.vk, T.ts, ↓reduceIte, Nat.reduceEqDiff, reduceCtorEq, Nat.reduceLeDiff, Nat.reducePow, Int.reducePow, Int.reduceToNat, Nat.reduceAdd, k0]
  refine eff_call_of ?_
  simp (disch := first | omega | assumption) only [C.rr_method_gos, vs, Go.Vc.vk, T.ts, ↓reduceIte, Nat.reduceEqDiff, reduceCtorEq, Nat.reduceLeDiff, Nat.reducePow, Int.reducePow, Int.reduceToNat, Nat.reduceAdd]
  refine (cnum_any 2 hl (by omega) D6.rg.r).mono ?_
  rintro _ w1 ⟨g1, q1, rfl⟩
  have hk := @numS_lt l 2 s3
  simp only [Nat.reducePow] at hk
  have Dw := D6.frR g1 q1
  obtain ⟨K, hK⟩ : ∃ K, K = numS l 2 s3 := ⟨_, rfl⟩
  rw [← hK] at hk Dw ⊢
  obtain ⟨R, hR⟩ : ∃ R, R = attrsR p l (cdT p l) K.1 (false, cde0) K.2 := ⟨_, rfl⟩
  clear k0 g1 q1 D6
  simp (disch := first | omega | assumption) only [C.rr_method_gos, vs, Go.Vc.vk, T.ts, ↓reduceIte, Nat.reduceEqDiff, reduceCtorEq, Nat.reduceLeDiff, Nat.reducePow, Int.reducePow, Int.reduceToNat, Nat.reduceAdd]
  refine loop_intro [0, 2, 3, 4] (fun m ρ hc => ∃ (k : Nat) (x : Bool × Cde) (u : RS) (w : Value), m = k ∧ k < 65536 ∧ ρ = [(0, .pointer (some ⟨g, 0, none⟩)), (2, .pointer (some ⟨rb, 0, none⟩)), (3, .pointer (some ⟨fb, 0, none⟩)), (4, .int .i64 k)] ∧ GH h g gc rb fb l p vp 81 #[.int .u16 0, .int .u16 0, .int .u16 0, .bool false, .int .i64 0, .int .i64 0, str [], .slice none 0 0, str []] (MthV ⟨f1, f2, f3, x.1, x.2⟩ w) w x.2.hs u hc ∧ attrsR p l (cdT p l) k x u = R) ?_ ?_
  · simp (disch := first | omega | assumption) only [C.rr_method_gos, vs, Go.Vc.vk, T.ts, ↓reduceIte, Nat.reduceEqDiff, reduceCtorEq, Nat.reduceLeDiff, Nat.reducePow, Int.reducePow, Int.reduceToNat, Nat.reduceAdd]
    exact ⟨_, K.1, (false, cde0), K.2, _, rfl, by simpa using hk, rfl, Dw, hR.symm⟩
  clear Dw
  rintro m ρ hc ⟨k, x, u, w, rfl, hkk, rfl, Dx, hL⟩
  have k0 := Dx.rg.k0
  have c2 := Dx.rg.r.c2
  refine Or.elim (Classical.em (0 < m ∧ u.e = 0)) (fun hgo => ?caG) (fun hgo => ?cbG)
  case caG =>
    obtain ⟨hpos, he⟩ := hgo
    obtain ⟨j, rfl⟩ : ∃ j, m = j + 1 := ⟨m - 1, by omega⟩
    have hpos' : (0 : Int) < ((j + 1 : Nat) : Int) := by omega
    have he' : (u.e : Int) = 0 := by omega
    rw [attrsR_step he] at hL
    have hw : IntKind.i64.wrap (((j + 1 : Nat) : Int) - 1) = (j : Int) := by rw [wrap_i64 (by omega) (by omega)]; omega
    simp (disch := first | omega | assumption) only [C.rr_method_gos, vs, Go.Vc.vk, T.ts, ↓reduceIte, Nat.reduceEqDiff, reduceCtorEq, Nat.reduceLeDiff, Nat.reducePow, Int.reducePow, Int.reduceToNat, Nat.reduceAdd, hpos', k0, c2, eq_true he']
    refine eff_call_of ?_
    simp (disch := first | omega | assumption) only [C.rr_method_gos, vs, Go.Vc.vk, T.ts, ↓reduceIte, Nat.reduceEqDiff, reduceCtorEq, Nat.reduceLeDiff, Nat.reducePow, Int.reducePow, Int.reduceToNat, Nat.reduceAdd]
    refine (rattribute_any hl Dx.rg).mono ?_
    rintro _ h4 ⟨f4, r4, nm, en, rfl, hA⟩
    have D4 := Dx.frR f4 r4
    have hup := Dx.rg.r.2
    clear Dx f4 r4 k0 c2
    have hb1 := hA.lt
    have hbp := D4.rg.r.2
    have hAb := hA.bad
    have hAo := hA.ok
    clear hA
    generalize attB p l u = b at *
    by_cases hbe : b.2.e = 0
    case neg =>
      obtain ⟨rfl, rfl⟩ := hAb hbe
      rw [if_pos hbe] at hL
      simp (disch := first | omega | assumption) only [C.rr_method_gos, vs, Go.Vc.vk, T.ts, ↓reduceIte, Nat.reduceEqDiff, reduceCtorEq, Nat.reduceLeDiff, Nat.reducePow, Int.reducePow, Int.reduceToNat, Nat.reduceAdd]
      refine eff_call_of ?_
      simp (disch := first | omega | assumption) only [C.rr_method_gos, vs, Go.Vc.vk, T.ts, ↓reduceIte, Nat.reduceEqDiff, reduceCtorEq, Nat.reduceLeDiff, Nat.reducePow, Int.reducePow, Int.reduceToNat, Nat.reduceAdd]
      refine (rover_any hl D4.rg false u.p (-1) (by omega) (by omega) (fun _ hh => absurd hh hbe)).mono ?_
      rintro _ h5 ⟨f5, r5⟩
      rw [overS_bad hbe] at r5
      have D5 := D4.frR f5 r5
      simp (disch := first | omega | assumption) only [C.rr_method_gos, vs, Go.Vc.vk, T.ts, ↓reduceIte, Nat.reduceEqDiff, reduceCtorEq, Nat.reduceLeDiff, Nat.reducePow, Int.reducePow, Int.reduceToNat, Nat.reduceAdd, hw]
      exact ⟨_, by omega, j, x, b.2, _, rfl, by omega, rfl, D5, (attrsR_bad hbe).trans hL⟩
    case pos =>
      obtain ⟨rfl, rfl⟩ := hAo hbe
      rw [if_neg (by simp [hbe])] at hL
      by_cases hnm : strS p (numS l 2 u).1 = cdN
      case neg =>
        have hT : (cdT p l) (strS p (numS l 2 u).1) u.p b.1 x b.2 = none := by unfold cdT; rw [if_neg hnm]
        rw [hT] at hL
        have hn' : ¬ strS p (numS l 2 u).1 = [67, 111, 100, 101] := hnm
        simp (disch := first | omega | assumption) only [C.rr_method_gos, vs, Go.Vc.vk, T.ts, ↓reduceIte, Nat.reduceEqDiff, reduceCtorEq, Nat.reduceLeDiff, Nat.reducePow, Int.reducePow, Int.reduceToNat, Nat.reduceAdd, eq_false hn']
        refine eff_call_of ?_
        simp (disch := first | omega | assumption) only [C.rr_method_gos, vs, Go.Vc.vk, T.ts, ↓reduceIte, Nat.reduceEqDiff, reduceCtorEq, Nat.reduceLeDiff, Nat.reducePow, Int.reducePow, Int.reduceToNat, Nat.reduceAdd]
        refine (rover_any hl D4.rg false u.p _ (by omega) (by omega) (fun _ _ => by omega)).mono ?_
        rintro _ h5 ⟨f5, r5⟩
        rw [overS_no hbe rfl] at r5
        have D5 := D4.frR f5 r5
        simp (disch := first | omega | assumption) only [C.rr_method_gos, vs, Go.Vc.vk, T.ts, ↓reduceIte, Nat.reduceEqDiff, reduceCtorEq, Nat.reduceLeDiff, Nat.reducePow, Int.reducePow, Int.reduceToNat, Nat.reduceAdd, hw]
        exact ⟨_, by omega, j, x, _, _, rfl, by omega, rfl, D5, hL⟩
      case pos =>
        obtain ⟨sn, sv⟩ := x
        obtain ⟨y0, hy0⟩ : ∃ y0, y0 = onceR sn u.p b.2 := ⟨_, rfl⟩
        have hT : (cdT p l) (strS p (numS l 2 u).1) u.p b.1 (sn, sv) b.2 = some ((true, (codeR p l y0).1), (codeR p l y0).2) := by unfold cdT; rw [if_pos hnm, hy0]
        rw [hT] at hL
        have hn' : strS p (numS l 2 u).1 = [67, 111, 100, 101] := hnm
        have hyp0 : y0.p = b.2.p := by rw [hy0]; unfold onceR failS; (repeat' split) <;> rfl <;> rfl
        clear hT hnm
        have k0 := D4.rg.k0
        have kc : cellAt h4 ⟨fb, 3, none⟩ = some (.bool sn) := by rw [D4.cell]; rfl
        refine Or.elim (show sn = true ∨ sn = false by cases sn <;> simp) (fun hs => ?caS) (fun hs => ?cbS)
        case' caS =>
          subst hs
          simp (disch := first | omega | assumption) only [C.rr_method_gos, vs, Go.Vc.vk, T.ts, ↓reduceIte, Nat.reduceEqDiff, reduceCtorEq, Nat.reduceLeDiff, Nat.reducePow, Int.reducePow, Int.reduceToNat, Nat.reduceAdd, eq_true hn', k0, kc]
          refine eff_call_of ?_
          simp (disch := first | omega | assumption) only [C.rr_method_gos, vs, Go.Vc.vk, T.ts, ↓reduceIte, Nat.reduceEqDiff, reduceCtorEq, Nat.reduceLeDiff, Nat.reducePow, Int.reducePow, Int.reduceToNat, Nat.reduceAdd]
          refine (cfail_any 11 u.p D4.rg.r).mono ?_
          rintro _ h5 ⟨f5, r5⟩
          have D5 := D4.frR f5 (show Cutr h5 gc l y0 by rw [hy0]; exact r5)
          clear f5 r5
          simp (disch := first | omega | assumption) only [C.rr_method_gos, vs, Go.Vc.vk, T.ts, ↓reduceIte, Nat.reduceEqDiff, reduceCtorEq, Nat.reduceLeDiff, Nat.reducePow, Int.reducePow, Int.reduceToNat, Nat.reduceAdd]
        case' cbS =>
          subst hs
          have hb5 : y0 = b.2 := by rw [hy0]; rfl
          simp (disch := first | omega | assumption) only [C.rr_method_gos, vs, Go.Vc.vk, T.ts, ↓reduceIte, Nat.reduceEqDiff, reduceCtorEq, Nat.reduceLeDiff, Nat.reducePow, Int.reducePow, Int.reduceToNat, Nat.reduceAdd, eq_true hn', kc]
          obtain ⟨h5, hh5⟩ : ∃ h5, h5 = h4 := ⟨_, rfl⟩
          rw [← hh5]
          have D5 := D4.frR (FrR.ext (Ext.refl _)) (show Cutr h4 gc l y0 by rw [hb5]; exact D4.rg.r)
          rw [← hh5] at D5
          clear hh5 hb5
        all_goals
          clear k0 D4 kc
          obtain ⟨z5, kc⟩ : ∃ z, cellAt h5 ⟨fb, 3, none⟩ = some (.bool z) := ⟨_, by rw [D5.cell]; rfl⟩
          refine eff_store1_z T.zr_4 rfl rfl rfl rfl rfl kc (D5.frozen _) ?_
          have D6 := D5.set (by decide) 3 (.bool true)
          clear D5 kc
          generalize setAt h5 ⟨fb, 3, none⟩ _ = h6 at *
          simp (disch := first | omega | assumption) only [C.rr_method_gos, vs, Go.Vc.vk, T.ts, ↓reduceIte, Nat.reduceEqDiff, reduceCtorEq, Nat.reduceLeDiff, Nat.reducePow, Int.reducePow, Int.reduceToNat, Nat.reduceAdd]
          refine eff_call_of ?_
          simp (disch := first | omega | assumption) only [C.rr_method_gos, vs, Go.Vc.vk, T.ts, ↓reduceIte, Nat.reduceEqDiff, reduceCtorEq, Nat.reduceLeDiff, Nat.reducePow, Int.reducePow, Int.reduceToNat, Nat.reduceAdd]
          refine (rcode_any hl D6.rg).mono ?_
          rintro _ h7 ⟨f7, r7, vH, rfl, own7⟩
          have D7 := D6.frR f7 r7
          have ownh := own7.mono D6.x.fr.size
          generalize codeR p l y0 = v at *
          obtain ⟨aH, cH, rfl, _⟩ := own7.slN.2
          simp only [CdeV]
          simp (disch := first | omega | assumption) only [C.rr_method_gos, vs, Go.Vc.vk, T.ts, ↓reduceIte, Nat.reduceEqDiff, reduceCtorEq, Nat.reduceLeDiff, Nat.reducePow, Int.reducePow, Int.reduceToNat, Nat.reduceAdd]
          refine eff_storeN_zz T.zr_79 rfl rfl rfl (by simp [Value.cells, oneCell, str]) D7.x.bf (by simp [MthV, CdeV]) (fun j _ _ => by simp) ?_
          intro h8 f8 b8
          have D8 : GH h g gc rb fb l p vp 81 #[.int .u16 0, .int .u16 0, .int .u16 0, .bool false, .int .i64 0, .int .i64 0, str [], .slice none 0 0, str []] (MthV ⟨f1, f2, f3, true, v.1⟩ (.slice aH v.1.hs.length cH)) (.slice aH v.1.hs.length cH) v.1.hs v.2 h8 :=
            ⟨D7.x.put f8 (by rw [b8]; simp [MthV, CdeV, Value.cells]), own_keep ownh f8 (e := 81) (fun k _ hk => ⟨_, _, hk ▸ D7.x.bf⟩) (by decide)⟩
          clear D7 D6 f7 r7 own7 ownh f8 b8
          simp (disch := first | omega | assumption) only [C.rr_method_gos, vs, Go.Vc.vk, T.ts, ↓reduceIte, Nat.reduceEqDiff, reduceCtorEq, Nat.reduceLeDiff, Nat.reducePow, Int.reducePow, Int.reduceToNat, Nat.reduceAdd]
          refine eff_call_of ?_
          simp (disch := first | omega | assumption) only [C.rr_method_gos, vs, Go.Vc.vk, T.ts, ↓reduceIte, Nat.reduceEqDiff, reduceCtorEq, Nat.reduceLeDiff, Nat.reducePow, Int.reducePow, Int.reduceToNat, Nat.reduceAdd]
          refine (rover_any hl D8.rg true u.p _ (by omega) (by omega) (fun hh => by cases hh)).mono ?_
          rintro _ h9 ⟨f9, r9⟩
          rw [overS_yes rfl] at r9
          have D9 := D8.frR f9 r9
          simp (disch := first | omega | assumption) only [C.rr_method_gos, vs, Go.Vc.vk, T.ts, ↓reduceIte, Nat.reduceEqDiff, reduceCtorEq, Nat.reduceLeDiff, Nat.reducePow, Int.reducePow, Int.reduceToNat, Nat.reduceAdd, hw]
          exact ⟨_, by omega, j, (true, v.1), _, _, rfl, by omega, rfl, D9, hL⟩
  have hR2 : R = (x, u) := by
    rw [← hL]
    rcases Nat.eq_zero_or_pos m with h0 | h0
    · subst h0; rfl
    · exact attrsR_bad (fun he => hgo ⟨h0, he⟩)
  refine Or.elim (Classical.em (m = 0)) (fun h0 => ?ccG) (fun h0 => ?cdG)
  case' ccG =>
    have hz : ¬ (0 : Int) < (m : Int) := by omega
    simp (disch := first | omega | assumption) only [C.rr_method_gos, vs, Go.Vc.vk, T.ts, ↓reduceIte, Nat.reduceEqDiff, reduceCtorEq, Nat.reduceLeDiff, Nat.reducePow, Int.reducePow, Int.reduceToNat, Nat.reduceAdd, hz]
  case' cdG =>
    have hz : (0 : Int) < (m : Int) := by omega
    have he' : ¬ (u.e : Int) = 0 := fun he => hgo ⟨by omega, by omega⟩
    simp (disch := first | omega | assumption) only [C.rr_method_gos, vs, Go.Vc.vk, T.ts, ↓reduceIte, Nat.reduceEqDiff, reduceCtorEq, Nat.reduceLeDiff, Nat.reducePow, Int.reducePow, Int.reduceToNat, Nat.reduceAdd, hz, k0, c2, eq_false he']
  all_goals
    clear hz h0 hgo k0 c2 hL
    have hfin : methodR p l s = ((⟨f1, f2, f3, x.1, x.2⟩ : Mth), u) := by
      unfold methodR
      simp only [← hf1, ← hf2, ← hf3, ← hs3, ← hK, ← hR, hR2]
    rw [hfin]
    obtain ⟨aH, cH, rfl, _⟩ := Dx.o.slN.2
    have hld := ld_agg T.ag_81 (Rd_block Dx.x.bf) rfl
    simp only [MthV, CdeV, List.cons_append, List.nil_append] at hld
    simp (disch := first | omega | assumption) only [C.rr_method_gos, vs, Go.Vc.vk, T.ts, ↓reduceIte, Nat.reduceEqDiff, reduceCtorEq, Nat.reduceLeDiff, Nat.reducePow, Int.reducePow, Int.reduceToNat, Nat.reduceAdd, hld]
    refine eff_storeN_zz T.zr_81 rfl rfl rfl (by simp [Value.cells, oneCell, str]) Dx.x.bz (by decide) (fun j _ _ => by simp) ?_
    intro h6 f6 b6
    have hrd : Rd h6 rb 0 (MthV ⟨f1, f2, f3, x.1, x.2⟩ (.slice aH x.2.hs.length cH)) := Rd_block (by simpa [Value.cells, MthV, CdeV] using b6)
    have hld6 := ld_agg T.ag_81 hrd rfl
    simp only [MthV, CdeV, List.cons_append, List.nil_append] at hld6
    have o1 := Dx.x.o1
    have o4 := Dx.x.o4
    simp (disch := first | omega | assumption) only [C.rr_method_gos, vs, Go.Vc.vk, T.ts, ↓reduceIte, Nat.reduceEqDiff, reduceCtorEq, Nat.reduceLeDiff, Nat.reducePow, Int.reducePow, Int.reduceToNat, Nat.reduceAdd, hld6]
    refine ⟨Dx.x.fr.new f6 o1, Dx.rg.r.fr f6 (by omega), .slice aH x.2.hs.length cH, rfl, ?_⟩
    rw [hrb]
    exact own_keep Dx.o f6 (e := 81) (fun k _ hk => ⟨_, _, hk ▸ Dx.x.bz⟩) (by decide)
end
end Go.Proofs.Ytohkbpnblkkdgaa
