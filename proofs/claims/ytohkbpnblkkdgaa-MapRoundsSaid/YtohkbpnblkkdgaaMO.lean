/- Lists of types copied: slices.Clone, and the reference's list. -/
import Derived.Test.YtohkbpnblkkdgaaMV
import Derived.Test.YtohkbpnblkkdgaaVcR
import Derived.Test.YtohkbpnblkkdgaaCg
import Derived.Test.YtohkbpnblkkdgaaCh
namespace Go.Proofs.Ytohkbpnblkkdgaa
open Go.Vc
set_option maxRecDepth 100000
set_option linter.unusedSimpArgs false
set_option linter.unusedVariables false

theorem clone_any (loc : List VT) (v : Value) (h : Heap) (hs : SlN h 3 v loc.length (flatV loc)) (hlen : loc.length ≤ 1073741824) :
    HCalls Try.prog 24 #[v] h fun r h' => Ext h h' ∧ Own h' h.size 25 3 r loc.length (flatV loc) := by
  refine C.slices_Clone_calls (args := [v]) rfl ?_
  have hs' := hs
  obtain ⟨_, a, c, rfl, hn⟩ := hs'
  have hq := fun x y => bin_snil_eql (P := Try.prog) (t := 23) (x := x) (y := y) (h := h) (a := a) (n := loc.length) (c := c) Try.underlying23
  cases a with
  | none =>
    have h0 : loc = [] := by
      rcases hn with hn | ⟨b, o, hb, _⟩
      · exact List.length_eq_zero_iff.1 hn
      · cases hb
    subst h0
    simp (disch := first | omega | assumption) only [C.slices_Clone_gos, vs, Go.Vc.vk, T.ts, ↓reduceIte, Nat.reduceEqDiff, reduceCtorEq, Nat.reduceLeDiff, Nat.reducePow, Int.reducePow, Int.reduceToNat, Nat.reduceAdd, hq, Option.isNone_none]
    exact ⟨Ext.refl _, Own.nil⟩
  | some a =>
    simp (disch := first | omega | assumption) only [C.slices_Clone_gos, vs, Go.Vc.vk, T.ts, ↓reduceIte, Nat.reduceEqDiff, reduceCtorEq, Nat.reduceLeDiff, Nat.reducePow, Int.reducePow, Int.reduceToNat, Nat.reduceAdd, hq, Option.isNone_some]
    refine eff_lits T.slT_23 rfl rfl (by decide) ?_
    have own0 : Own (h.push (.cells ([] : List Value).toArray 25 (0, 0))) h.size 25 3 (.slice (some ⟨h.size, 0, none⟩) 0 0) 0 (flatV []) := Own.new rfl (Nat.zero_le _) (Nat.le_refl _)
    have ext0 : Ext h (h.push (.cells ([] : List Value).toArray 25)) := Ext.push _ _
    simp (disch := first | omega | assumption) only [C.slices_Clone_gos, vs, Go.Vc.vk, T.ts, ↓reduceIte, Nat.reduceEqDiff, reduceCtorEq, Nat.reduceLeDiff, Nat.reducePow, Int.reducePow, Int.reduceToNat, Nat.reduceAdd]
    refine eff_append_slN T.slT_23 rfl rfl own0 (hs.ext (by decide) ext0) (flatV_one _) (by omega) (by omega) (by simp) ?_
    intro v2 h2 own2 fr2
    simp (disch := first | omega | assumption) only [C.slices_Clone_gos, vs, Go.Vc.vk, T.ts, ↓reduceIte, Nat.reduceEqDiff, reduceCtorEq, Nat.reduceLeDiff, Nat.reducePow, Int.reducePow, Int.reduceToNat, Nat.reduceAdd]
    exact ⟨Ext.app ext0 fr2 (fun k hk => (own0.lt k hk).1), Own_cast own2 (by omega) rfl⟩
theorem list_any (loc : List VT) (v : Value) (h : Heap) (hs : SlN h 3 v loc.length (flatV loc)) (hlen : loc.length ≤ 1073741824) :
    HCalls Try.prog 32 #[v] h fun r h' => Ext h h' ∧ Own h' h.size 25 3 r loc.length (flatV loc) := by
  refine C.ref3_list_calls (args := [v]) rfl ?_
  have hs' := hs
  obtain ⟨_, a, c, rfl, hn⟩ := hs'
  simp (disch := first | omega | assumption) only [C.ref3_list_gos, vs, Go.Vc.vk, T.ts, ↓reduceIte, Nat.reduceEqDiff, reduceCtorEq, Nat.reduceLeDiff, Nat.reducePow, Int.reducePow, Int.reduceToNat, Nat.reduceAdd]
  refine eff_append_slN (xs := []) T.slT_23 rfl rfl (Own.nil (base := h.size)) hs (flatV_one _) (by omega) (by omega) (Nat.le_refl _) ?_
  intro v2 h2 own2 fr2
  simp (disch := first | omega | assumption) only [C.ref3_list_gos, vs, Go.Vc.vk, T.ts, ↓reduceIte, Nat.reduceEqDiff, reduceCtorEq, Nat.reduceLeDiff, Nat.reducePow, Int.reducePow, Int.reduceToNat, Nat.reduceAdd]
  exact ⟨Ext.app (Ext.refl h) fr2 (fun k hk => by simp [Value.ownBlock] at hk), Own_cast own2 (by omega) rfl⟩
end Go.Proofs.Ytohkbpnblkkdgaa
