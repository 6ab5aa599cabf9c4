/- The reference's units. -/
import Derived.Test.YtohkbpnblkkdgaaA1
namespace Go.Proofs.Ytohkbpnblkkdgaa
open Go.Vc
set_option maxRecDepth 100000
set_option linter.unusedSimpArgs false
set_option linter.unusedVariables false

set_option maxHeartbeats 1000000 in
theorem runits_any (l : List UInt8) (h : Heap) (hl : l.length ≤ 1073741824) :
    HCalls Try.prog 77 #[str l] h fun v h' => Ext h h' ∧ URes .i64 3 h.size (unitsS l) v h' := by
  refine C.ref1_Units_calls (args := [str l]) rfl ?_
  simp (disch := first | omega | assumption) only [C.ref1_Units_gos, T.tv, ↓reduceIte, Nat.reduceEqDiff, reduceCtorEq, Nat.reduceLeDiff, Nat.reducePow, Int.reducePow, Int.reduceToNat, Nat.reduceAdd]
  refine loop_intro [0, 4] (fun m ρ hc => ∃ (i : Nat) (us : List Nat) (out : Value), m = l.length - i ∧ i ≤ l.length ∧ us.length ≤ i ∧
      ρ = [(0, str (l.drop i)), (4, out)] ∧ Own hc h.size 3 1 out us.length (us.map fun u : Nat => .int .i64 (u : Int)) ∧ Ext h hc ∧
      unitsS l = (unitsAt l (l.length - i) i).map fun r => us ++ r) ?_ ?_
  · simp (disch := first | omega | assumption) only [C.ref1_Units_gos, T.tv, ↓reduceIte, Nat.reduceEqDiff, reduceCtorEq, Nat.reduceLeDiff, Nat.reducePow, Int.reducePow, Int.reduceToNat, Nat.reduceAdd]
    exact ⟨_, 0, [], _, rfl, Nat.zero_le _, Nat.le_refl _, by rw [List.drop_zero], Own.nil, Ext.refl _, by simp [unitsS]⟩
  · rintro m ρ hc ⟨i, us, out, rfl, hi, hul, rfl, hown, hext, hS⟩
    have hdl : (l.drop i).length = l.length - i := by simp
    by_cases hlt : i < l.length
    · have hne : ¬ l.drop i = [] := by intro e; rw [e] at hdl; simp at hdl; omega
      have hc8 := UInt8.toNat_lt (l.getD i 0)
      have hb8 := UInt8.toNat_lt (l.getD (i + 1) 0)
      have hd8 := UInt8.toNat_lt (l.getD (i + 2) 0)
      simp only [Nat.reducePow] at hc8 hb8 hd8
      by_cases a3 : 224 ≤ (l.getD i 0).toNat ∧ 3 ≤ l.length - i
      · have hr : refU l i = ((l.getD i 0).toNat % 16 * 4096 + (l.getD (i + 1) 0).toNat % 64 * 64 + (l.getD (i + 2) 0).toNat % 64, 3) := by unfold refU; simp only []; rw [if_pos a3]
        have eu : (((l.getD i 0).toNat : Int) % 16 * 4096 + ((l.getD (i + 1) 0).toNat : Int) % 64 * 64 + ((l.getD (i + 2) 0).toNat : Int) % 64) = (((l.getD i 0).toNat % 16 * 4096 + (l.getD (i + 1) 0).toNat % 64 * 64 + (l.getD (i + 2) 0).toNat % 64 : Nat) : Int) := by omega
        have c1 : (224 : Int) ≤ ((l.getD i 0).toNat : Int) := by omega
        have c2 : (3 : Int) ≤ ((l.length - i : Nat) : Int) := by omega
        simp (disch := first | omega | assumption) only [C.ref1_Units_gos, T.tv, ↓reduceIte, Nat.reduceEqDiff, reduceCtorEq, Nat.reduceLeDiff, Nat.reducePow, Int.reducePow, Int.reduceToNat, Nat.reduceAdd, hne, getD_drop, List.length_drop, c1, c2, eu]
        have hd := dec1_ref hlt
        rw [hr] at hd
        simp only [] at hd
        refine eff_callF rfl ((unit_any ((l.getD i 0).toNat % 16 * 4096 + (l.getD (i + 1) 0).toNat % 64 * 64 + (l.getD (i + 2) 0).toNat % 64) hc (by omega)).mono ?_)
        rintro v' h' ⟨hx, rfl⟩
        by_cases he : enc ((l.getD i 0).toNat % 16 * 4096 + (l.getD (i + 1) 0).toNat % 64 * 64 + (l.getD (i + 2) 0).toNat % 64) = (l.drop i).take 3
        · rw [if_pos he] at hd
          simp (disch := first | omega | assumption) only [C.ref1_Units_gos, T.tv, ↓reduceIte, Nat.reduceEqDiff, reduceCtorEq, Nat.reduceLeDiff, Nat.reducePow, Int.reducePow, Int.reduceToNat, Nat.reduceAdd, eq_true he]
          refine eff_lits T.slT_134 rfl rfl (by decide) ?_
          simp (disch := first | omega | assumption) only [C.ref1_Units_gos, T.tv, ↓reduceIte, Nat.reduceEqDiff, reduceCtorEq, Nat.reduceLeDiff, Nat.reducePow, Int.reducePow, Int.reduceToNat, Nat.reduceAdd]
          refine eff_append_own T.slT_134 rfl rfl ((hown.ext hx).push _) rfl (Rd_new (vs := [.int .i64 (((l.getD i 0).toNat % 16 * 4096 + (l.getD (i + 1) 0).toNat % 64 * 64 + (l.getD (i + 2) 0).toNat % 64 : Nat) : Int)])) (by simp [oneCell]) (by omega) (by omega) (by have := hext.size; have := hx.size; simp; omega) ?_
          intro v' h2 hown' hfr _
          simp (disch := first | omega | assumption) only [C.ref1_Units_gos, T.tv, ↓reduceIte, Nat.reduceEqDiff, reduceCtorEq, Nat.reduceLeDiff, Nat.reducePow, Int.reducePow, Int.reduceToNat, Nat.reduceAdd, List.drop_drop, hdl]
          exact ⟨l.length - (i + 3), by omega, i + 3, us ++ [(l.getD i 0).toNat % 16 * 4096 + (l.getD (i + 1) 0).toNat % 64 * 64 + (l.getD (i + 2) 0).toNat % 64], v', rfl, by omega, by simp; omega, by rfl, by simpa using hown',
            Ext.app ((hext.trans hx).trans (Ext.push _ _)) hfr (fun k hk => (hown.lt k hk).1), units_step hS hlt hd⟩
        · rw [if_neg he] at hd
          simp (disch := first | omega | assumption) only [C.ref1_Units_gos, T.tv, ↓reduceIte, Nat.reduceEqDiff, reduceCtorEq, Nat.reduceLeDiff, Nat.reducePow, Int.reducePow, Int.reduceToNat, Nat.reduceAdd, eq_false he]
          rw [units_fail hS hlt hd]
          exact ⟨hext.trans hx, rfl⟩
      · by_cases a2 : 192 ≤ (l.getD i 0).toNat ∧ 2 ≤ l.length - i
        · have hr : refU l i = ((l.getD i 0).toNat % 32 * 64 + (l.getD (i + 1) 0).toNat % 64, 2) := by unfold refU; simp only []; rw [if_neg a3, if_pos a2]
          have eu : (((l.getD i 0).toNat : Int) % 32 * 64 + ((l.getD (i + 1) 0).toNat : Int) % 64) = (((l.getD i 0).toNat % 32 * 64 + (l.getD (i + 1) 0).toNat % 64 : Nat) : Int) := by omega
          have c3 : (192 : Int) ≤ ((l.getD i 0).toNat : Int) := by omega
          have c4 : (2 : Int) ≤ ((l.length - i : Nat) : Int) := by omega
          by_cases c1 : (224 : Int) ≤ ((l.getD i 0).toNat : Int)
          · have c2 : ¬ (3 : Int) ≤ ((l.length - i : Nat) : Int) := by omega
            simp (disch := first | omega | assumption) only [C.ref1_Units_gos, T.tv, ↓reduceIte, Nat.reduceEqDiff, reduceCtorEq, Nat.reduceLeDiff, Nat.reducePow, Int.reducePow, Int.reduceToNat, Nat.reduceAdd, hne, getD_drop, List.length_drop, c1, c2, c3, c4, eu]
            have hd := dec1_ref hlt
            rw [hr] at hd
            simp only [] at hd
            refine eff_callF rfl ((unit_any ((l.getD i 0).toNat % 32 * 64 + (l.getD (i + 1) 0).toNat % 64) hc (by omega)).mono ?_)
            rintro v' h' ⟨hx, rfl⟩
            by_cases he : enc ((l.getD i 0).toNat % 32 * 64 + (l.getD (i + 1) 0).toNat % 64) = (l.drop i).take 2
            · rw [if_pos he] at hd
              simp (disch := first | omega | assumption) only [C.ref1_Units_gos, T.tv, ↓reduceIte, Nat.reduceEqDiff, reduceCtorEq, Nat.reduceLeDiff, Nat.reducePow, Int.reducePow, Int.reduceToNat, Nat.reduceAdd, eq_true he]
              refine eff_lits T.slT_134 rfl rfl (by decide) ?_
              simp (disch := first | omega | assumption) only [C.ref1_Units_gos, T.tv, ↓reduceIte, Nat.reduceEqDiff, reduceCtorEq, Nat.reduceLeDiff, Nat.reducePow, Int.reducePow, Int.reduceToNat, Nat.reduceAdd]
              refine eff_append_own T.slT_134 rfl rfl ((hown.ext hx).push _) rfl (Rd_new (vs := [.int .i64 (((l.getD i 0).toNat % 32 * 64 + (l.getD (i + 1) 0).toNat % 64 : Nat) : Int)])) (by simp [oneCell]) (by omega) (by omega) (by have := hext.size; have := hx.size; simp; omega) ?_
              intro v' h2 hown' hfr _
              simp (disch := first | omega | assumption) only [C.ref1_Units_gos, T.tv, ↓reduceIte, Nat.reduceEqDiff, reduceCtorEq, Nat.reduceLeDiff, Nat.reducePow, Int.reducePow, Int.reduceToNat, Nat.reduceAdd, List.drop_drop, hdl]
              exact ⟨l.length - (i + 2), by omega, i + 2, us ++ [(l.getD i 0).toNat % 32 * 64 + (l.getD (i + 1) 0).toNat % 64], v', rfl, by omega, by simp; omega, by rfl, by simpa using hown',
                Ext.app ((hext.trans hx).trans (Ext.push _ _)) hfr (fun k hk => (hown.lt k hk).1), units_step hS hlt hd⟩
            · rw [if_neg he] at hd
              simp (disch := first | omega | assumption) only [C.ref1_Units_gos, T.tv, ↓reduceIte, Nat.reduceEqDiff, reduceCtorEq, Nat.reduceLeDiff, Nat.reducePow, Int.reducePow, Int.reduceToNat, Nat.reduceAdd, eq_false he]
              rw [units_fail hS hlt hd]
              exact ⟨hext.trans hx, rfl⟩
          · simp (disch := first | omega | assumption) only [C.ref1_Units_gos, T.tv, ↓reduceIte, Nat.reduceEqDiff, reduceCtorEq, Nat.reduceLeDiff, Nat.reducePow, Int.reducePow, Int.reduceToNat, Nat.reduceAdd, hne, getD_drop, List.length_drop, c1, c3, c4, eu]
            have hd := dec1_ref hlt
            rw [hr] at hd
            simp only [] at hd
            refine eff_callF rfl ((unit_any ((l.getD i 0).toNat % 32 * 64 + (l.getD (i + 1) 0).toNat % 64) hc (by omega)).mono ?_)
            rintro v' h' ⟨hx, rfl⟩
            by_cases he : enc ((l.getD i 0).toNat % 32 * 64 + (l.getD (i + 1) 0).toNat % 64) = (l.drop i).take 2
            · rw [if_pos he] at hd
              simp (disch := first | omega | assumption) only [C.ref1_Units_gos, T.tv, ↓reduceIte, Nat.reduceEqDiff, reduceCtorEq, Nat.reduceLeDiff, Nat.reducePow, Int.reducePow, Int.reduceToNat, Nat.reduceAdd, eq_true he]
              refine eff_lits T.slT_134 rfl rfl (by decide) ?_
              simp (disch := first | omega | assumption) only [C.ref1_Units_gos, T.tv, ↓reduceIte, Nat.reduceEqDiff, reduceCtorEq, Nat.reduceLeDiff, Nat.reducePow, Int.reducePow, Int.reduceToNat, Nat.reduceAdd]
              refine eff_append_own T.slT_134 rfl rfl ((hown.ext hx).push _) rfl (Rd_new (vs := [.int .i64 (((l.getD i 0).toNat % 32 * 64 + (l.getD (i + 1) 0).toNat % 64 : Nat) : Int)])) (by simp [oneCell]) (by omega) (by omega) (by have := hext.size; have := hx.size; simp; omega) ?_
              intro v' h2 hown' hfr _
              simp (disch := first | omega | assumption) only [C.ref1_Units_gos, T.tv, ↓reduceIte, Nat.reduceEqDiff, reduceCtorEq, Nat.reduceLeDiff, Nat.reducePow, Int.reducePow, Int.reduceToNat, Nat.reduceAdd, List.drop_drop, hdl]
              exact ⟨l.length - (i + 2), by omega, i + 2, us ++ [(l.getD i 0).toNat % 32 * 64 + (l.getD (i + 1) 0).toNat % 64], v', rfl, by omega, by simp; omega, by rfl, by simpa using hown',
                Ext.app ((hext.trans hx).trans (Ext.push _ _)) hfr (fun k hk => (hown.lt k hk).1), units_step hS hlt hd⟩
            · rw [if_neg he] at hd
              simp (disch := first | omega | assumption) only [C.ref1_Units_gos, T.tv, ↓reduceIte, Nat.reduceEqDiff, reduceCtorEq, Nat.reduceLeDiff, Nat.reducePow, Int.reducePow, Int.reduceToNat, Nat.reduceAdd, eq_false he]
              rw [units_fail hS hlt hd]
              exact ⟨hext.trans hx, rfl⟩
        · have hr : refU l i = ((l.getD i 0).toNat, 1) := by unfold refU; simp only []; rw [if_neg a3, if_neg a2]
          by_cases c3 : (192 : Int) ≤ ((l.getD i 0).toNat : Int)
          · have c4 : ¬ (2 : Int) ≤ ((l.length - i : Nat) : Int) := by omega
            by_cases c1 : (224 : Int) ≤ ((l.getD i 0).toNat : Int)
            · have c2 : ¬ (3 : Int) ≤ ((l.length - i : Nat) : Int) := by omega
              simp (disch := first | omega | assumption) only [C.ref1_Units_gos, T.tv, ↓reduceIte, Nat.reduceEqDiff, reduceCtorEq, Nat.reduceLeDiff, Nat.reducePow, Int.reducePow, Int.reduceToNat, Nat.reduceAdd, hne, getD_drop, List.length_drop, c1, c2, c3, c4]
              have hd := dec1_ref hlt
              rw [hr] at hd
              simp only [] at hd
              refine eff_callF rfl ((unit_any ((l.getD i 0).toNat) hc (by omega)).mono ?_)
              rintro v' h' ⟨hx, rfl⟩
              by_cases he : enc ((l.getD i 0).toNat) = (l.drop i).take 1
              · rw [if_pos he] at hd
                simp (disch := first | omega | assumption) only [C.ref1_Units_gos, T.tv, ↓reduceIte, Nat.reduceEqDiff, reduceCtorEq, Nat.reduceLeDiff, Nat.reducePow, Int.reducePow, Int.reduceToNat, Nat.reduceAdd, eq_true he]
                refine eff_lits T.slT_134 rfl rfl (by decide) ?_
                simp (disch := first | omega | assumption) only [C.ref1_Units_gos, T.tv, ↓reduceIte, Nat.reduceEqDiff, reduceCtorEq, Nat.reduceLeDiff, Nat.reducePow, Int.reducePow, Int.reduceToNat, Nat.reduceAdd]
                refine eff_append_own T.slT_134 rfl rfl ((hown.ext hx).push _) rfl (Rd_new (vs := [.int .i64 (((l.getD i 0).toNat : Nat) : Int)])) (by simp [oneCell]) (by omega) (by omega) (by have := hext.size; have := hx.size; simp; omega) ?_
                intro v' h2 hown' hfr _
                simp (disch := first | omega | assumption) only [C.ref1_Units_gos, T.tv, ↓reduceIte, Nat.reduceEqDiff, reduceCtorEq, Nat.reduceLeDiff, Nat.reducePow, Int.reducePow, Int.reduceToNat, Nat.reduceAdd, List.drop_drop, hdl]
                exact ⟨l.length - (i + 1), by omega, i + 1, us ++ [(l.getD i 0).toNat], v', rfl, by omega, by simp; omega, by rfl, by simpa using hown',
                  Ext.app ((hext.trans hx).trans (Ext.push _ _)) hfr (fun k hk => (hown.lt k hk).1), units_step hS hlt hd⟩
              · rw [if_neg he] at hd
                simp (disch := first | omega | assumption) only [C.ref1_Units_gos, T.tv, ↓reduceIte, Nat.reduceEqDiff, reduceCtorEq, Nat.reduceLeDiff, Nat.reducePow, Int.reducePow, Int.reduceToNat, Nat.reduceAdd, eq_false he]
                rw [units_fail hS hlt hd]
                exact ⟨hext.trans hx, rfl⟩
            · simp (disch := first | omega | assumption) only [C.ref1_Units_gos, T.tv, ↓reduceIte, Nat.reduceEqDiff, reduceCtorEq, Nat.reduceLeDiff, Nat.reducePow, Int.reducePow, Int.reduceToNat, Nat.reduceAdd, hne, getD_drop, List.length_drop, c1, c3, c4]
              have hd := dec1_ref hlt
              rw [hr] at hd
              simp only [] at hd
              refine eff_callF rfl ((unit_any ((l.getD i 0).toNat) hc (by omega)).mono ?_)
              rintro v' h' ⟨hx, rfl⟩
              by_cases he : enc ((l.getD i 0).toNat) = (l.drop i).take 1
              · rw [if_pos he] at hd
                simp (disch := first | omega | assumption) only [C.ref1_Units_gos, T.tv, ↓reduceIte, Nat.reduceEqDiff, reduceCtorEq, Nat.reduceLeDiff, Nat.reducePow, Int.reducePow, Int.reduceToNat, Nat.reduceAdd, eq_true he]
                refine eff_lits T.slT_134 rfl rfl (by decide) ?_
                simp (disch := first | omega | assumption) only [C.ref1_Units_gos, T.tv, ↓reduceIte, Nat.reduceEqDiff, reduceCtorEq, Nat.reduceLeDiff, Nat.reducePow, Int.reducePow, Int.reduceToNat, Nat.reduceAdd]
                refine eff_append_own T.slT_134 rfl rfl ((hown.ext hx).push _) rfl (Rd_new (vs := [.int .i64 (((l.getD i 0).toNat : Nat) : Int)])) (by simp [oneCell]) (by omega) (by omega) (by have := hext.size; have := hx.size; simp; omega) ?_
                intro v' h2 hown' hfr _
                simp (disch := first | omega | assumption) only [C.ref1_Units_gos, T.tv, ↓reduceIte, Nat.reduceEqDiff, reduceCtorEq, Nat.reduceLeDiff, Nat.reducePow, Int.reducePow, Int.reduceToNat, Nat.reduceAdd, List.drop_drop, hdl]
                exact ⟨l.length - (i + 1), by omega, i + 1, us ++ [(l.getD i 0).toNat], v', rfl, by omega, by simp; omega, by rfl, by simpa using hown',
                  Ext.app ((hext.trans hx).trans (Ext.push _ _)) hfr (fun k hk => (hown.lt k hk).1), units_step hS hlt hd⟩
              · rw [if_neg he] at hd
                simp (disch := first | omega | assumption) only [C.ref1_Units_gos, T.tv, ↓reduceIte, Nat.reduceEqDiff, reduceCtorEq, Nat.reduceLeDiff, Nat.reducePow, Int.reducePow, Int.reduceToNat, Nat.reduceAdd, eq_false he]
                rw [units_fail hS hlt hd]
                exact ⟨hext.trans hx, rfl⟩
          · have c1 : ¬ (224 : Int) ≤ ((l.getD i 0).toNat : Int) := by omega
            simp (disch := first | omega | assumption) only [C.ref1_Units_gos, T.tv, ↓reduceIte, Nat.reduceEqDiff, reduceCtorEq, Nat.reduceLeDiff, Nat.reducePow, Int.reducePow, Int.reduceToNat, Nat.reduceAdd, hne, getD_drop, List.length_drop, c1, c3]
            have hd := dec1_ref hlt
            rw [hr] at hd
            simp only [] at hd
            refine eff_callF rfl ((unit_any ((l.getD i 0).toNat) hc (by omega)).mono ?_)
            rintro v' h' ⟨hx, rfl⟩
            by_cases he : enc ((l.getD i 0).toNat) = (l.drop i).take 1
            · rw [if_pos he] at hd
              simp (disch := first | omega | assumption) only [C.ref1_Units_gos, T.tv, ↓reduceIte, Nat.reduceEqDiff, reduceCtorEq, Nat.reduceLeDiff, Nat.reducePow, Int.reducePow, Int.reduceToNat, Nat.reduceAdd, eq_true he]
              refine eff_lits T.slT_134 rfl rfl (by decide) ?_
              simp (disch := first | omega | assumption) only [C.ref1_Units_gos, T.tv, ↓reduceIte, Nat.reduceEqDiff, reduceCtorEq, Nat.reduceLeDiff, Nat.reducePow, Int.reducePow, Int.reduceToNat, Nat.reduceAdd]
              refine eff_append_own T.slT_134 rfl rfl ((hown.ext hx).push _) rfl (Rd_new (vs := [.int .i64 (((l.getD i 0).toNat : Nat) : Int)])) (by simp [oneCell]) (by omega) (by omega) (by have := hext.size; have := hx.size; simp; omega) ?_
              intro v' h2 hown' hfr _
              simp (disch := first | omega | assumption) only [C.ref1_Units_gos, T.tv, ↓reduceIte, Nat.reduceEqDiff, reduceCtorEq, Nat.reduceLeDiff, Nat.reducePow, Int.reducePow, Int.reduceToNat, Nat.reduceAdd, List.drop_drop, hdl]
              exact ⟨l.length - (i + 1), by omega, i + 1, us ++ [(l.getD i 0).toNat], v', rfl, by omega, by simp; omega, by rfl, by simpa using hown',
                Ext.app ((hext.trans hx).trans (Ext.push _ _)) hfr (fun k hk => (hown.lt k hk).1), units_step hS hlt hd⟩
            · rw [if_neg he] at hd
              simp (disch := first | omega | assumption) only [C.ref1_Units_gos, T.tv, ↓reduceIte, Nat.reduceEqDiff, reduceCtorEq, Nat.reduceLeDiff, Nat.reducePow, Int.reducePow, Int.reduceToNat, Nat.reduceAdd, eq_false he]
              rw [units_fail hS hlt hd]
              exact ⟨hext.trans hx, rfl⟩
    · have hne : l.drop i = [] := List.drop_of_length_le (by omega)
      simp (disch := first | omega | assumption) only [C.ref1_Units_gos, T.tv, ↓reduceIte, Nat.reduceEqDiff, reduceCtorEq, Nat.reduceLeDiff, Nat.reducePow, Int.reducePow, Int.reduceToNat, Nat.reduceAdd, hne]
      rw [units_done hS hlt]
      exact ⟨hext, _, rfl, hown⟩
end Go.Proofs.Ytohkbpnblkkdgaa
