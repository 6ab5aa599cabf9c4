/- The program's package desc. No condition. -/
import Derived.Test.YtgdmoimclelfhaaDoorDC
import Derived.Test.YtgdmoimclelfhaaDoorCb
namespace Go.Proofs.YtgdmoimclelfhaaDoor
open Go.Vc
set_option maxRecDepth 100000
set_option linter.unusedSimpArgs false
set_option linter.unusedVariables false

theorem part_any {h : Heap} (l : List UInt8) (hl : l.length ≤ 4294967296) : HCalls Tryd.prog 35 #[str l] h fun v h' => Ext h h' ∧ v = .bool (without A4 l) := by
  refine C.desc_part_calls (args := [str l]) rfl ?_
  by_cases he : l = []
  · subst he
    simp (disch := first | omega | assumption) only [C.desc_part_gos, T.tv, ↓reduceIte, Nat.reduceEqDiff, reduceCtorEq, Nat.reduceLeDiff, Nat.reducePow, Int.reducePow, Int.reduceToNat, Nat.reduceAdd, decide_true, decide_false]
    exact ⟨Ext.refl _, rfl⟩
  · simp (disch := first | omega | assumption) only [C.desc_part_gos, T.tv, ↓reduceIte, Nat.reduceEqDiff, reduceCtorEq, Nat.reduceLeDiff, Nat.reducePow, Int.reducePow, Int.reduceToNat, Nat.reduceAdd, he, decide_true, decide_false]
    refine eff_callF rfl ((containsAny_any A4 l (by decide) (by decide) (by decide) (by omega)).mono ?_)
    rintro v1 h1 ⟨hx, rfl⟩
    have hw : without A4 l = !hasAny A4 l := by simp [without, he]
    rw [hw]
    cases hasAny A4 l
    all_goals
      simp (disch := first | omega | assumption) only [C.desc_part_gos, T.tv, ↓reduceIte, Nat.reduceEqDiff, reduceCtorEq, Nat.reduceLeDiff, Nat.reducePow, Int.reducePow, Int.reduceToNat, Nat.reduceAdd]
      exact hx

theorem member_any {h : Heap} (l : List UInt8) (m : Bool) (hl : l.length ≤ 4294967296) : HCalls Tryd.prog 28 #[str l, .bool m] h fun v h' => Ext h h' ∧ v = .int .i64 (memP l m : Nat) := by
  refine C.desc_Member_calls (args := [str l, .bool m]) rfl ?_
  cases m with
  | false =>
    simp (disch := first | omega | assumption) only [C.desc_Member_gos, T.tv, ↓reduceIte, Nat.reduceEqDiff, reduceCtorEq, Nat.reduceLeDiff, Nat.reducePow, Int.reducePow, Int.reduceToNat, Nat.reduceAdd]
    refine eff_callF rfl ((part_any l hl).mono ?_)
    rintro v1 h1 ⟨hx, rfl⟩
    unfold memP
    cases without A4 l
    all_goals
      simp (disch := first | omega | assumption) only [C.desc_Member_gos, T.tv, ↓reduceIte, Nat.reduceEqDiff, reduceCtorEq, Nat.reduceLeDiff, Nat.reducePow, Int.reducePow, Int.reduceToNat, Nat.reduceAdd]
      exact ⟨hx, rfl⟩
  | true =>
    by_cases e1 : l = [60, 105, 110, 105, 116, 62]
    · simp (disch := first | omega | assumption) only [C.desc_Member_gos, T.tv, ↓reduceIte, Nat.reduceEqDiff, reduceCtorEq, Nat.reduceLeDiff, Nat.reducePow, Int.reducePow, Int.reduceToNat, Nat.reduceAdd, eq_true e1, decide_true]
      exact ⟨Ext.refl _, by simp [memP, e1]⟩
    by_cases e2 : l = [60, 99, 108, 105, 110, 105, 116, 62]
    · simp (disch := first | omega | assumption) only [C.desc_Member_gos, T.tv, ↓reduceIte, Nat.reduceEqDiff, reduceCtorEq, Nat.reduceLeDiff, Nat.reducePow, Int.reducePow, Int.reduceToNat, Nat.reduceAdd, eq_false e1, eq_true e2, decide_true, decide_false]
      exact ⟨Ext.refl _, by simp [memP, e2]⟩
    have hm : memP l true = if without A4 l = false ∨ without [60, 62] l = false then 0 else 1 := by simp [memP, e1, e2]
    rw [hm]
    simp (disch := first | omega | assumption) only [C.desc_Member_gos, T.tv, ↓reduceIte, Nat.reduceEqDiff, reduceCtorEq, Nat.reduceLeDiff, Nat.reducePow, Int.reducePow, Int.reduceToNat, Nat.reduceAdd, eq_false e1, eq_false e2, decide_false]
    refine eff_callF rfl ((part_any l hl).mono ?_)
    rintro v1 h1 ⟨hx, rfl⟩
    cases hw : without A4 l with
    | false =>
      simp (disch := first | omega | assumption) only [C.desc_Member_gos, T.tv, ↓reduceIte, Nat.reduceEqDiff, reduceCtorEq, Nat.reduceLeDiff, Nat.reducePow, Int.reducePow, Int.reduceToNat, Nat.reduceAdd]
      exact ⟨hx, rfl⟩
    | true =>
      have hne : l ≠ [] := by intro e; subst e; cases hw
      have hw2 : without [60, 62] l = !hasAny [60, 62] l := by simp [without, hne]
      rw [hw2]
      simp (disch := first | omega | assumption) only [C.desc_Member_gos, T.tv, ↓reduceIte, Nat.reduceEqDiff, reduceCtorEq, Nat.reduceLeDiff, Nat.reducePow, Int.reducePow, Int.reduceToNat, Nat.reduceAdd]
      refine eff_callF rfl ((containsAny_any [60, 62] l (by decide) (by decide) (by decide) (by omega)).mono ?_)
      rintro v2 h2 ⟨hx2, rfl⟩
      cases hasAny [60, 62] l
      all_goals
        simp (disch := first | omega | assumption) only [C.desc_Member_gos, T.tv, ↓reduceIte, Nat.reduceEqDiff, reduceCtorEq, Nat.reduceLeDiff, Nat.reducePow, Int.reducePow, Int.reduceToNat, Nat.reduceAdd]
        exact ⟨hx.trans hx2, rfl⟩

theorem path_any {h : Heap} (l : List UInt8) (hl : l.length ≤ 4294967296) : HCalls Tryd.prog 45 #[str l] h fun v h' => Ext h h' ∧ v = .bool (pathP l) := by
  refine C.desc_path_calls (args := [str l]) rfl ?_
  simp (disch := first | omega | assumption) only [C.desc_path_gos, T.tv, ↓reduceIte, Nat.reduceEqDiff, reduceCtorEq, Nat.reduceLeDiff, Nat.reducePow, Int.reducePow, Int.reduceToNat, Nat.reduceAdd]
  refine eff_callF rfl ((split_any l hl).mono ?_)
  rintro v1 h1 ⟨hx, hs⟩
  rw [pathP_4]
  have hpl : ∀ p ∈ pieces [] l, p.length ≤ 4294967296 := by
    have H : ∀ (l acc : List UInt8), ∀ p ∈ pieces acc l, p.length ≤ acc.length + l.length := by
      intro l
      induction l with
      | nil => intro acc p hp; simp only [pieces, List.mem_singleton] at hp; subst hp; simp
      | cons b r ih =>
        intro acc p hp
        rw [pieces] at hp
        split at hp
        · rcases List.mem_cons.1 hp with rfl | hp
          · simp
          · have := ih [] p hp; simp at this ⊢; omega
        · have := ih _ p hp; simp at this ⊢; omega
    intro p hp
    have := H l [] p hp
    simp at this; omega
  have hlen : (pieces [] l).length ≤ 4294967297 := by rw [pieces_len]; have : l.count 47 ≤ l.length := List.count_le_length; omega
  generalize pieces [] l = ps at *
  have hs' := hs
  obtain ⟨a, c, rfl, _⟩ := hs'
  rw [List.length_map]
  simp (disch := first | omega | assumption) only [C.desc_path_gos, T.tv, ↓reduceIte, Nat.reduceEqDiff, reduceCtorEq, Nat.reduceLeDiff, Nat.reducePow, Int.reducePow, Int.reduceToNat, Nat.reduceAdd]
  refine loop_intro [6, 7, 8] (fun m ρ hc => ∃ i : Nat, m = ps.length - i ∧ i ≤ ps.length ∧ ρ = [(6, .slice a ps.length c), (7, .int .i64 (ps.length : Int)), (8, .int .i64 (i : Int))] ∧ Ext h hc ∧ Ext h1 hc ∧ (ps.take i).all (without A4) = true) ?_ ?_
  · simp (disch := first | omega | assumption) only [C.desc_path_gos, T.tv, ↓reduceIte, Nat.reduceEqDiff, reduceCtorEq, Nat.reduceLeDiff, Nat.reducePow, Int.reducePow, Int.reduceToNat, Nat.reduceAdd]
    exact ⟨_, 0, rfl, Nat.zero_le _, rfl, hx, Ext.refl _, by simp⟩
  rintro m ρ hc ⟨i, rfl, hi, rfl, hxc, hx1, hok⟩
  by_cases hlt : i < ps.length
  · have hlt' : (i : Int) < (ps.length : Int) := by omega
    obtain ⟨b, o, c', heq, _, hcell⟩ := (hs.ext hx1).at (i := i) (by simpa using hlt)
    rw [List.length_map] at heq
    cases heq
    have hcell' : cellAt hc ⟨b, o + i, none⟩ = some (str (ps.getD i [])) := by rw [hcell]; simp [hlt]
    have hmem : ps.getD i [] ∈ ps := by simp [hlt]
    have hst : ps.take (i + 1) = ps.take i ++ [ps.getD i []] := by rw [List.take_add_one]; simp [hlt]
    generalize ps.getD i [] = p at *
    simp (disch := first | omega | assumption) only [C.desc_path_gos, T.tv, ↓reduceIte, Nat.reduceEqDiff, reduceCtorEq, Nat.reduceLeDiff, Nat.reducePow, Int.reducePow, Int.reduceToNat, Nat.reduceAdd, hlt', hcell', decide_true]
    refine eff_callF rfl ((part_any p (hpl p hmem)).mono ?_)
    rintro v2 h2 ⟨hx2, rfl⟩
    cases hw : without A4 p with
    | false =>
      simp (disch := first | omega | assumption) only [C.desc_path_gos, T.tv, ↓reduceIte, Nat.reduceEqDiff, reduceCtorEq, Nat.reduceLeDiff, Nat.reducePow, Int.reducePow, Int.reduceToNat, Nat.reduceAdd]
      refine ⟨hxc.trans hx2, ?_⟩
      have : ps.all (without A4) = false := by
        rw [List.all_eq_false]
        exact ⟨p, hmem, by simp [hw]⟩
      rw [this]
    | true =>
      simp (disch := first | omega | assumption) only [C.desc_path_gos, T.tv, ↓reduceIte, Nat.reduceEqDiff, reduceCtorEq, Nat.reduceLeDiff, Nat.reducePow, Int.reducePow, Int.reduceToNat, Nat.reduceAdd]
      refine ⟨ps.length - (i + 1), by omega, i + 1, rfl, by omega, rfl, hxc.trans hx2, hx1.trans hx2, ?_⟩
      rw [hst, List.all_append, hok]
      simp [hw]
  · have hlt' : ¬ (i : Int) < (ps.length : Int) := by omega
    rw [List.take_of_length_le (by omega)] at hok
    simp (disch := first | omega | assumption) only [C.desc_path_gos, T.tv, ↓reduceIte, Nat.reduceEqDiff, reduceCtorEq, Nat.reduceLeDiff, Nat.reducePow, Int.reducePow, Int.reduceToNat, Nat.reduceAdd, hlt', decide_false]
    exact ⟨hxc, by rw [hok]⟩
end Go.Proofs.YtgdmoimclelfhaaDoor
