/- The reference's steps that look into things, by the program. No condition. -/
import Derived.Test.YtidkokdkldfglaaWC
namespace Go.Proofs.Ytidkokdkldfglaa
open Go.Vc
set_option maxRecDepth 100000
set_option linter.unusedSimpArgs false
set_option linter.unusedVariables false

section
variable {base : Nat} {h : Heap} {p : Pm} {m : Ms} {a : AS}
theorem mWord_any (G : GdM base h p m a) {k i : Int} : HCalls Try.prog 26 #[ptr p.M 0, .int .i64 k, .int .i64 i] h fun v h' => h' = h ∧ v = .tuple #[wordV (aWord a k i).1, .int .i64 (aWord a k i).2] := by
  refine C.m_Word_calls (args := [ptr p.M 0, .int .i64 k, .int .i64 i]) rfl ?_
  have A := mWords_any G (k := k)
  by_cases c1 : i < 0
  · have e : aWord a k i = (0, 7) := by unfold aWord; rw [if_neg (fun h => by have := h.2.1; omega)]
    rw [e]
    simp (disch := first | omega | assumption) only [C.m_Word_gos, T.tv, ↓reduceIte, Nat.reduceEqDiff, reduceCtorEq, Nat.reduceLeDiff, Nat.reducePow, Int.reducePow, Int.reduceToNat, Nat.reduceAdd, c1, wordV]
    first | done | rfl
  by_cases c0 : plc a k
  · rw [if_pos c0] at A
    by_cases c2 : ((thN a k).2.length : Int) ≤ i
    · have e : aWord a k i = (0, 7) := by unfold aWord; rw [if_neg (fun h => by have := h.2.2; omega)]
      rw [e]
      simp (disch := first | omega | assumption) only [C.m_Word_gos, T.tv, ↓reduceIte, Nat.reduceEqDiff, reduceCtorEq, Nat.reduceLeDiff, Nat.reducePow, Int.reducePow, Int.reduceToNat, Nat.reduceAdd, c1]
      refine eff_callF rfl (A.mono ?_)
      rintro v1 h1 ⟨rfl, rfl⟩
      simp (disch := first | omega | assumption) only [C.m_Word_gos, T.tv, ↓reduceIte, Nat.reduceEqDiff, reduceCtorEq, Nat.reduceLeDiff, Nat.reducePow, Int.reducePow, Int.reduceToNat, Nat.reduceAdd, c2, wordV]
      first | done | rfl
    · obtain ⟨n, c, g, g', rfl, n16, x1, x2, x3, x4, x5, x6, x7, x8, x9, x10, x11⟩ := G.thing c0
      obtain ⟨j, rfl⟩ : ∃ j : Nat, i = j := ⟨i.toNat, by omega⟩
      have hj : (thN a (n : Int)).2[j]? = some ((thN a (n : Int)).2[j]'(by omega)) := by simp
      generalize hy : (thN a (n : Int)).2[j]'(by omega) = y at hj
      have e : aWord a (n : Int) (j : Int) = (y, 0) := by
        unfold aWord
        rw [if_pos ⟨c0, by omega, by omega⟩, List.getD_eq_getElem?_getD, Int.toNat_natCast, hj]; rfl
      rw [e]
      have b1 : (0 : Int) ≤ (n : Int) := by omega
      have b2 : (n : Int) < ((16 : Nat) : Int) := by omega
      have d1 : (0 : Int) ≤ ((rtN a (n : Int) : Nat) : Int) := by omega
      have d2 : ((rtN a (n : Int) : Nat) : Int) < ((m.L.length : Nat) : Int) := by omega
      have f1 : (0 : Int) ≤ (j : Int) := by omega
      have f2 : (j : Int) < (((thN a (n : Int)).2.length : Nat) : Int) := by omega
      have l0 := G.r.m0
      have l1 := G.r.m1
      have l := (G.rk n16).1
      have y := G.a1 x2
      have w := (G.r.wc x7 hj).1
      simp (disch := first | omega | assumption) only [C.m_Word_gos, T.tv, ↓reduceIte, Nat.reduceEqDiff, reduceCtorEq, Nat.reduceLeDiff, Nat.reducePow, Int.reducePow, Int.reduceToNat, Nat.reduceAdd, c1]
      refine eff_callF rfl (A.mono ?_)
      rintro v1 h1 ⟨rfl, rfl⟩
      simp (disch := first | omega | assumption) only [C.m_Word_gos, T.tv, ↓reduceIte, Nat.reduceEqDiff, reduceCtorEq, Nat.reduceLeDiff, Nat.reducePow, Int.reducePow, Int.reduceToNat, Nat.reduceAdd, c2, l0, l1, b1, b2, d1, d2, f1, f2, l, intV, y, sv, x5, x9, w]
  · rw [if_neg c0] at A
    have e : aWord a k i = (0, 7) := by unfold aWord; rw [if_neg (fun h => c0 h.1)]
    rw [e]
    have c2 : (0 : Int) ≤ i := by omega
    simp (disch := first | omega | assumption) only [C.m_Word_gos, T.tv, ↓reduceIte, Nat.reduceEqDiff, reduceCtorEq, Nat.reduceLeDiff, Nat.reducePow, Int.reducePow, Int.reduceToNat, Nat.reduceAdd, c1]
    refine eff_callF rfl (A.mono ?_)
    rintro v1 h1 ⟨rfl, rfl⟩
    simp (disch := first | omega | assumption) only [C.m_Word_gos, T.tv, ↓reduceIte, Nat.reduceEqDiff, reduceCtorEq, Nat.reduceLeDiff, Nat.reducePow, Int.reducePow, Int.reduceToNat, Nat.reduceAdd, c2, wordV]
    first | done | rfl
theorem mSet_any (G : GdM base h p m a) {k i : Int} {x : Nat} : HCalls Try.prog 25 #[ptr p.M 0, .int .i64 k, .int .i64 i, wordV x] h fun v h' => NxM base h h' p m (aSet a k i x).1 ∧ v = .int .i64 (aSet a k i x).2 := by
  refine C.m_Set_calls (args := [ptr p.M 0, .int .i64 k, .int .i64 i, wordV x]) rfl ?_
  have A := mWords_any G (k := k)
  by_cases c1 : i < 0
  · have e : aSet a k i x = (a, 7) := by unfold aSet; rw [if_neg (fun h => by have := h.2.1; omega)]
    rw [e]
    simp (disch := first | omega | assumption) only [C.m_Set_gos, T.tv, ↓reduceIte, Nat.reduceEqDiff, reduceCtorEq, Nat.reduceLeDiff, Nat.reducePow, Int.reducePow, Int.reduceToNat, Nat.reduceAdd, c1]
    first | exact G.stay | exact ⟨G.stay, rfl⟩
  by_cases c0 : plc a k
  · rw [if_pos c0] at A
    by_cases c2 : ((thN a k).2.length : Int) ≤ i
    · have e : aSet a k i x = (a, 7) := by unfold aSet; rw [if_neg (fun h => by have := h.2.2; omega)]
      rw [e]
      simp (disch := first | omega | assumption) only [C.m_Set_gos, T.tv, ↓reduceIte, Nat.reduceEqDiff, reduceCtorEq, Nat.reduceLeDiff, Nat.reducePow, Int.reducePow, Int.reduceToNat, Nat.reduceAdd, c1]
      refine eff_callF rfl (A.mono ?_)
      rintro v1 h1 ⟨rfl, rfl⟩
      simp (disch := first | omega | assumption) only [C.m_Set_gos, T.tv, ↓reduceIte, Nat.reduceEqDiff, reduceCtorEq, Nat.reduceLeDiff, Nat.reducePow, Int.reducePow, Int.reduceToNat, Nat.reduceAdd, c2]
      first | exact G.stay | exact ⟨G.stay, rfl⟩
    · have c0' := c0
      obtain ⟨n, c, g, g', rfl, n16, x1, x2, x3, x4, x5, x6, x7, x8, x9, x10, x11⟩ := G.thing c0
      obtain ⟨j, rfl⟩ : ∃ j : Nat, i = j := ⟨i.toNat, by omega⟩
      have hl : j < (thN a (n : Int)).2.length := by omega
      have hj : (thN a (n : Int)).2[j]? = some ((thN a (n : Int)).2[j]'hl) := by simp
      have e : aSet a (n : Int) (j : Int) x = ({ a with things := a.things.set (rtN a (n : Int)) ((thN a (n : Int)).1, (thN a (n : Int)).2.set j x) }, 0) := by
        unfold aSet
        rw [if_pos ⟨c0, by omega, by omega⟩]; rfl
      rw [e]
      have b1 : (0 : Int) ≤ (n : Int) := by omega
      have b2 : (n : Int) < ((16 : Nat) : Int) := by omega
      have d1 : (0 : Int) ≤ ((rtN a (n : Int) : Nat) : Int) := by omega
      have d2 : ((rtN a (n : Int) : Nat) : Int) < ((m.L.length : Nat) : Int) := by omega
      have f1 : (0 : Int) ≤ (j : Int) := by omega
      have f2 : (j : Int) < (((thN a (n : Int)).2.length : Nat) : Int) := by omega
      have l0 := G.r.m0
      have l1 := G.r.m1
      have l := (G.rk n16).1
      have y := G.a1 x2
      obtain ⟨w, z⟩ := G.r.wc x7 hj
      simp (disch := first | omega | assumption) only [C.m_Set_gos, T.tv, ↓reduceIte, Nat.reduceEqDiff, reduceCtorEq, Nat.reduceLeDiff, Nat.reducePow, Int.reducePow, Int.reduceToNat, Nat.reduceAdd, c1]
      refine eff_callF rfl (A.mono ?_)
      rintro v1 h1 ⟨rfl, rfl⟩
      simp (disch := first | omega | assumption) only [C.m_Set_gos, T.tv, ↓reduceIte, Nat.reduceEqDiff, reduceCtorEq, Nat.reduceLeDiff, Nat.reducePow, Int.reducePow, Int.reduceToNat, Nat.reduceAdd, c2, l0, l1, b1, b2, d1, d2, f1, f2, l, intV, y, sv, x5, x9]
      refine eff_store1_z T.zr_30 rfl rfl rfl rfl rfl w z ?_
      simp (disch := first | omega | assumption) only [C.m_Set_gos, T.tv, ↓reduceIte, Nat.reduceEqDiff, reduceCtorEq, Nat.reduceLeDiff, Nat.reducePow, Int.reducePow, Int.reduceToNat, Nat.reduceAdd]
      have N : NxM base h1 (setAt h1 ⟨g', j, none⟩ (wordV x)) p m { a with things := a.things.set (rtN a (n : Int)) ((thN a (n : Int)).1, (thN a (n : Int)).2.set j x) } :=
        ⟨p, _, G.r.word x7 hl x, rfl, G.i.setWord c0'.2 x2 x3 x10 x5 hl⟩
      first | exact N | exact ⟨N, rfl⟩
  · rw [if_neg c0] at A
    have e : aSet a k i x = (a, 7) := by unfold aSet; rw [if_neg (fun h => c0 h.1)]
    rw [e]
    have c2 : (0 : Int) ≤ i := by omega
    simp (disch := first | omega | assumption) only [C.m_Set_gos, T.tv, ↓reduceIte, Nat.reduceEqDiff, reduceCtorEq, Nat.reduceLeDiff, Nat.reducePow, Int.reducePow, Int.reduceToNat, Nat.reduceAdd, c1]
    refine eff_callF rfl (A.mono ?_)
    rintro v1 h1 ⟨rfl, rfl⟩
    simp (disch := first | omega | assumption) only [C.m_Set_gos, T.tv, ↓reduceIte, Nat.reduceEqDiff, reduceCtorEq, Nat.reduceLeDiff, Nat.reducePow, Int.reducePow, Int.reduceToNat, Nat.reduceAdd, c2]
    first | exact G.stay | exact ⟨G.stay, rfl⟩
theorem mPut_any (G : GdM base h p m a) {k i f : Int} : HCalls Try.prog 22 #[ptr p.M 0, .int .i64 k, .int .i64 i, .int .i64 f] h fun v h' => NxM base h h' p m (aPut a k i f).1 ∧ v = .int .i64 (aPut a k i f).2 := by
  refine C.m_Put_calls (args := [ptr p.M 0, .int .i64 k, .int .i64 i, .int .i64 f]) rfl ?_
  have A := mRefs_any G (k := k)
  have B := mAt_any (h := h) (k := f)
  by_cases c1 : i < 0
  · have e : aPut a k i f = (a, 7) := by unfold aPut; rw [if_neg (fun h => by have := h.2.2.1; omega)]
    rw [e]
    simp (disch := first | omega | assumption) only [C.m_Put_gos, T.tv, ↓reduceIte, Nat.reduceEqDiff, reduceCtorEq, Nat.reduceLeDiff, Nat.reducePow, Int.reducePow, Int.reduceToNat, Nat.reduceAdd, c1]
    first | exact G.stay | exact ⟨G.stay, rfl⟩
  by_cases c0 : plc a k
  · rw [if_pos c0] at A
    by_cases c2 : ((thN a k).1.length : Int) ≤ i
    · have e : aPut a k i f = (a, 7) := by unfold aPut; rw [if_neg (fun h => by have := h.2.2.2; omega)]
      rw [e]
      simp (disch := first | omega | assumption) only [C.m_Put_gos, T.tv, ↓reduceIte, Nat.reduceEqDiff, reduceCtorEq, Nat.reduceLeDiff, Nat.reducePow, Int.reducePow, Int.reduceToNat, Nat.reduceAdd, c1]
      refine eff_callF rfl (A.mono ?_)
      rintro v1 h1 ⟨rfl, rfl⟩
      simp (disch := first | omega | assumption) only [C.m_Put_gos, T.tv, ↓reduceIte, Nat.reduceEqDiff, reduceCtorEq, Nat.reduceLeDiff, Nat.reducePow, Int.reducePow, Int.reduceToNat, Nat.reduceAdd, c2]
      first | exact G.stay | exact ⟨G.stay, rfl⟩
    by_cases c3 : inR f
    · rw [decide_eq_true c3] at B
      have c0' := c0
      obtain ⟨n, c, g, g', rfl, n16, x1, x2, x3, x4, x5, x6, x7, x8, x9, x10, x11⟩ := G.thing c0
      obtain ⟨j, rfl⟩ : ∃ j : Nat, i = j := ⟨i.toNat, by omega⟩
      obtain ⟨q, rfl⟩ : ∃ q : Nat, f = q := ⟨f.toNat, by unfold inR at c3; omega⟩
      have q16 : q < 16 := by unfold inR at c3; omega
      have hl : j < (thN a (n : Int)).1.length := by omega
      have hj : (thN a (n : Int)).1[j]? = some ((thN a (n : Int)).1[j]'hl) := by simp
      have e : aPut a (n : Int) (j : Int) (q : Int) = ({ a with things := a.things.set (rtN a (n : Int)) ((thN a (n : Int)).1.set j (rtN a (q : Int)), (thN a (n : Int)).2) }, 0) := by
        unfold aPut
        rw [if_pos ⟨c0, c3, by omega, by omega⟩]; rfl
      rw [e]
      have b1 : (0 : Int) ≤ (n : Int) := by omega
      have b2 : (n : Int) < ((16 : Nat) : Int) := by omega
      have b3 : (0 : Int) ≤ (q : Int) := by omega
      have b4 : (q : Int) < ((16 : Nat) : Int) := by omega
      have d1 : (0 : Int) ≤ ((rtN a (n : Int) : Nat) : Int) := by omega
      have d2 : ((rtN a (n : Int) : Nat) : Int) < ((m.L.length : Nat) : Int) := by omega
      have f1 : (0 : Int) ≤ (j : Int) := by omega
      have f2 : (j : Int) < (((thN a (n : Int)).1.length : Nat) : Int) := by omega
      have l0 := G.r.m0
      have l1 := G.r.m1
      have l := (G.rk n16).1
      have lq := (G.rk q16).1
      have y := G.a0 x2
      obtain ⟨w, z⟩ := G.r.rc x6 hj
      simp (disch := first | omega | assumption) only [C.m_Put_gos, T.tv, ↓reduceIte, Nat.reduceEqDiff, reduceCtorEq, Nat.reduceLeDiff, Nat.reducePow, Int.reducePow, Int.reduceToNat, Nat.reduceAdd, c1]
      refine eff_callF rfl (A.mono ?_)
      rintro v1 h1 ⟨rfl, rfl⟩
      simp (disch := first | omega | assumption) only [C.m_Put_gos, T.tv, ↓reduceIte, Nat.reduceEqDiff, reduceCtorEq, Nat.reduceLeDiff, Nat.reducePow, Int.reducePow, Int.reduceToNat, Nat.reduceAdd, c2]
      refine eff_callF rfl (B.mono ?_)
      rintro v1 h2 ⟨rfl, rfl⟩
      simp (disch := first | omega | assumption) only [C.m_Put_gos, T.tv, ↓reduceIte, Nat.reduceEqDiff, reduceCtorEq, Nat.reduceLeDiff, Nat.reducePow, Int.reducePow, Int.reduceToNat, Nat.reduceAdd, l0, l1, b1, b2, b3, b4, d1, d2, f1, f2, l, lq, intV, y, sv, x4, x8]
      refine eff_store1_z T.zr_3 rfl rfl rfl rfl rfl w z ?_
      simp (disch := first | omega | assumption) only [C.m_Put_gos, T.tv, ↓reduceIte, Nat.reduceEqDiff, reduceCtorEq, Nat.reduceLeDiff, Nat.reducePow, Int.reducePow, Int.reduceToNat, Nat.reduceAdd]
      have N : NxM base h2 (setAt h2 ⟨g, j, none⟩ (intV (rtN a (q : Int)))) p m { a with things := a.things.set (rtN a (n : Int)) ((thN a (n : Int)).1.set j (rtN a (q : Int)), (thN a (n : Int)).2) } :=
        ⟨p, _, G.r.ref x6 hl _, rfl, G.i.setRef c0'.2 x1 (G.root q16).2.1 x2 x3 x10 x4 hl⟩
      first | exact N | exact ⟨N, rfl⟩
    · rw [decide_eq_false c3] at B
      have e : aPut a k i f = (a, 7) := by unfold aPut; rw [if_neg (fun h => c3 h.2.1)]
      rw [e]
      simp (disch := first | omega | assumption) only [C.m_Put_gos, T.tv, ↓reduceIte, Nat.reduceEqDiff, reduceCtorEq, Nat.reduceLeDiff, Nat.reducePow, Int.reducePow, Int.reduceToNat, Nat.reduceAdd, c1]
      refine eff_callF rfl (A.mono ?_)
      rintro v1 h1 ⟨rfl, rfl⟩
      simp (disch := first | omega | assumption) only [C.m_Put_gos, T.tv, ↓reduceIte, Nat.reduceEqDiff, reduceCtorEq, Nat.reduceLeDiff, Nat.reducePow, Int.reducePow, Int.reduceToNat, Nat.reduceAdd, c2]
      refine eff_callF rfl (B.mono ?_)
      rintro v1 h2 ⟨rfl, rfl⟩
      simp (disch := first | omega | assumption) only [C.m_Put_gos, T.tv, ↓reduceIte, Nat.reduceEqDiff, reduceCtorEq, Nat.reduceLeDiff, Nat.reducePow, Int.reducePow, Int.reduceToNat, Nat.reduceAdd]
      first | exact G.stay | exact ⟨G.stay, rfl⟩
  · rw [if_neg c0] at A
    have e : aPut a k i f = (a, 7) := by unfold aPut; rw [if_neg (fun h => c0 h.1)]
    rw [e]
    have c2 : (0 : Int) ≤ i := by omega
    simp (disch := first | omega | assumption) only [C.m_Put_gos, T.tv, ↓reduceIte, Nat.reduceEqDiff, reduceCtorEq, Nat.reduceLeDiff, Nat.reducePow, Int.reducePow, Int.reduceToNat, Nat.reduceAdd, c1]
    refine eff_callF rfl (A.mono ?_)
    rintro v1 h1 ⟨rfl, rfl⟩
    simp (disch := first | omega | assumption) only [C.m_Put_gos, T.tv, ↓reduceIte, Nat.reduceEqDiff, reduceCtorEq, Nat.reduceLeDiff, Nat.reducePow, Int.reducePow, Int.reduceToNat, Nat.reduceAdd, c2]
    first | exact G.stay | exact ⟨G.stay, rfl⟩
theorem mGet_any (G : GdM base h p m a) {t k i : Int} : HCalls Try.prog 24 #[ptr p.M 0, .int .i64 t, .int .i64 k, .int .i64 i] h fun v h' => NxM base h h' p m (aGet a t k i).1 ∧ v = .int .i64 (aGet a t k i).2 := by
  refine C.m_Get_calls (args := [ptr p.M 0, .int .i64 t, .int .i64 k, .int .i64 i]) rfl ?_
  have A := mRefs_any G (k := k)
  have B := mAt_any (h := h) (k := t)
  by_cases c1 : i < 0
  · have e : aGet a t k i = (a, 7) := by unfold aGet; rw [if_neg (fun h => by have := h.2.2.1; omega)]
    rw [e]
    simp (disch := first | omega | assumption) only [C.m_Get_gos, T.tv, ↓reduceIte, Nat.reduceEqDiff, reduceCtorEq, Nat.reduceLeDiff, Nat.reducePow, Int.reducePow, Int.reduceToNat, Nat.reduceAdd, c1]
    first | exact G.stay | exact ⟨G.stay, rfl⟩
  by_cases c0 : plc a k
  · rw [if_pos c0] at A
    by_cases c2 : ((thN a k).1.length : Int) ≤ i
    · have e : aGet a t k i = (a, 7) := by unfold aGet; rw [if_neg (fun h => by have := h.2.2.2; omega)]
      rw [e]
      simp (disch := first | omega | assumption) only [C.m_Get_gos, T.tv, ↓reduceIte, Nat.reduceEqDiff, reduceCtorEq, Nat.reduceLeDiff, Nat.reducePow, Int.reducePow, Int.reduceToNat, Nat.reduceAdd, c1]
      refine eff_callF rfl (A.mono ?_)
      rintro v1 h1 ⟨rfl, rfl⟩
      simp (disch := first | omega | assumption) only [C.m_Get_gos, T.tv, ↓reduceIte, Nat.reduceEqDiff, reduceCtorEq, Nat.reduceLeDiff, Nat.reducePow, Int.reducePow, Int.reduceToNat, Nat.reduceAdd, c2]
      first | exact G.stay | exact ⟨G.stay, rfl⟩
    by_cases c3 : inR t
    · rw [decide_eq_true c3] at B
      have c0' := c0
      obtain ⟨n, c, g, g', rfl, n16, x1, x2, x3, x4, x5, x6, x7, x8, x9, x10, x11⟩ := G.thing c0
      obtain ⟨j, rfl⟩ : ∃ j : Nat, i = j := ⟨i.toNat, by omega⟩
      obtain ⟨q, rfl⟩ : ∃ q : Nat, t = q := ⟨t.toNat, by unfold inR at c3; omega⟩
      have q16 : q < 16 := by unfold inR at c3; omega
      have hl : j < (thN a (n : Int)).1.length := by omega
      have hj : (thN a (n : Int)).1[j]? = some ((thN a (n : Int)).1[j]'hl) := by simp
      generalize hv : (thN a (n : Int)).1[j]'hl = v at hj
      have e : aGet a (q : Int) (n : Int) (j : Int) = ({ a with roots := a.roots.set q v }, 0) := by
        unfold aGet
        rw [if_pos ⟨c0, c3, by omega, by omega⟩]
        simp only [Int.toNat_natCast, List.getD_eq_getElem?_getD, hj, Option.getD_some]
      rw [e]
      have b1 : (0 : Int) ≤ (n : Int) := by omega
      have b2 : (n : Int) < ((16 : Nat) : Int) := by omega
      have b3 : (0 : Int) ≤ (q : Int) := by omega
      have b4 : (q : Int) < ((16 : Nat) : Int) := by omega
      have d1 : (0 : Int) ≤ ((rtN a (n : Int) : Nat) : Int) := by omega
      have d2 : ((rtN a (n : Int) : Nat) : Int) < ((m.L.length : Nat) : Int) := by omega
      have f1 : (0 : Int) ≤ (j : Int) := by omega
      have f2 : (j : Int) < (((thN a (n : Int)).1.length : Nat) : Int) := by omega
      have l0 := G.r.m0
      have l1 := G.r.m1
      have l := (G.rk n16).1
      obtain ⟨lq, z⟩ := G.rk q16
      have y := G.a0 x2
      have w := (G.r.rc x6 hj).1
      simp (disch := first | omega | assumption) only [C.m_Get_gos, T.tv, ↓reduceIte, Nat.reduceEqDiff, reduceCtorEq, Nat.reduceLeDiff, Nat.reducePow, Int.reducePow, Int.reduceToNat, Nat.reduceAdd, c1]
      refine eff_callF rfl (A.mono ?_)
      rintro v1 h1 ⟨rfl, rfl⟩
      simp (disch := first | omega | assumption) only [C.m_Get_gos, T.tv, ↓reduceIte, Nat.reduceEqDiff, reduceCtorEq, Nat.reduceLeDiff, Nat.reducePow, Int.reducePow, Int.reduceToNat, Nat.reduceAdd, c2]
      refine eff_callF rfl (B.mono ?_)
      rintro v1 h2 ⟨rfl, rfl⟩
      simp (disch := first | omega | assumption) only [C.m_Get_gos, T.tv, ↓reduceIte, Nat.reduceEqDiff, reduceCtorEq, Nat.reduceLeDiff, Nat.reducePow, Int.reducePow, Int.reduceToNat, Nat.reduceAdd, l0, l1, b1, b2, b3, b4, d1, d2, f1, f2, l, intV, y, sv, x4, x8, w]
      refine eff_store1_z T.zr_3 rfl rfl rfl rfl rfl lq z ?_
      simp (disch := first | omega | assumption) only [C.m_Get_gos, T.tv, ↓reduceIte, Nat.reduceEqDiff, reduceCtorEq, Nat.reduceLeDiff, Nat.reducePow, Int.reducePow, Int.reduceToNat, Nat.reduceAdd]
      have N := G.setRoot q16 (t := v) (.inr (.step x1 x10 (List.mem_of_getElem? hj)))
      first | exact N | exact ⟨N, rfl⟩
    · rw [decide_eq_false c3] at B
      have e : aGet a t k i = (a, 7) := by unfold aGet; rw [if_neg (fun h => c3 h.2.1)]
      rw [e]
      simp (disch := first | omega | assumption) only [C.m_Get_gos, T.tv, ↓reduceIte, Nat.reduceEqDiff, reduceCtorEq, Nat.reduceLeDiff, Nat.reducePow, Int.reducePow, Int.reduceToNat, Nat.reduceAdd, c1]
      refine eff_callF rfl (A.mono ?_)
      rintro v1 h1 ⟨rfl, rfl⟩
      simp (disch := first | omega | assumption) only [C.m_Get_gos, T.tv, ↓reduceIte, Nat.reduceEqDiff, reduceCtorEq, Nat.reduceLeDiff, Nat.reducePow, Int.reducePow, Int.reduceToNat, Nat.reduceAdd, c2]
      refine eff_callF rfl (B.mono ?_)
      rintro v1 h2 ⟨rfl, rfl⟩
      simp (disch := first | omega | assumption) only [C.m_Get_gos, T.tv, ↓reduceIte, Nat.reduceEqDiff, reduceCtorEq, Nat.reduceLeDiff, Nat.reducePow, Int.reducePow, Int.reduceToNat, Nat.reduceAdd]
      first | exact G.stay | exact ⟨G.stay, rfl⟩
  · rw [if_neg c0] at A
    have e : aGet a t k i = (a, 7) := by unfold aGet; rw [if_neg (fun h => c0 h.1)]
    rw [e]
    have c2 : (0 : Int) ≤ i := by omega
    simp (disch := first | omega | assumption) only [C.m_Get_gos, T.tv, ↓reduceIte, Nat.reduceEqDiff, reduceCtorEq, Nat.reduceLeDiff, Nat.reducePow, Int.reducePow, Int.reduceToNat, Nat.reduceAdd, c1]
    refine eff_callF rfl (A.mono ?_)
    rintro v1 h1 ⟨rfl, rfl⟩
    simp (disch := first | omega | assumption) only [C.m_Get_gos, T.tv, ↓reduceIte, Nat.reduceEqDiff, reduceCtorEq, Nat.reduceLeDiff, Nat.reducePow, Int.reducePow, Int.reduceToNat, Nat.reduceAdd, c2]
    first | exact G.stay | exact ⟨G.stay, rfl⟩
end
end Go.Proofs.Ytidkokdkldfglaa
