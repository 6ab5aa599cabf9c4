/- The reference's small steps, by the program. No condition. -/
import Derived.Test.YtidkokdkldfglaaWB
namespace Go.Proofs.Ytidkokdkldfglaa
open Go.Vc
set_option maxRecDepth 100000
set_option linter.unusedSimpArgs false
set_option linter.unusedVariables false

structure GdM (base : Nat) (h : Heap) (p : Pm) (m : Ms) (a : AS) : Prop where
  r : RepM base h p m
  i : RI m a
  b : base ≤ h.size
def NxM (base : Nat) (h h' : Heap) (p : Pm) (m : Ms) (a' : AS) : Prop := ∃ p' m', StM base h h' p p' m m' ∧ p'.M = p.M ∧ RI m' a'
theorem GdM.stay {base : Nat} {h : Heap} {p : Pm} {m : Ms} {a : AS} (G : GdM base h p m a) : NxM base h h p m a := ⟨p, m, StM.refl G.r, rfl, G.i⟩
theorem mAt_any {h : Heap} {k : Int} : HCalls Try.prog 41 #[.int .i64 k] h fun v h' => h' = h ∧ v = .bool (decide (inR k)) := by
  refine C.m_at_calls (args := [.int .i64 k]) rfl ?_
  by_cases c1 : 0 ≤ k
  · by_cases c2 : k < 16
    · rw [decide_eq_true (show inR k from ⟨c1, c2⟩)]
      simp (disch := first | omega | assumption) only [C.m_at_gos, T.tv, ↓reduceIte, Nat.reduceEqDiff, reduceCtorEq, Nat.reduceLeDiff, Nat.reducePow, Int.reducePow, Int.reduceToNat, Nat.reduceAdd, c1, c2]
    · rw [decide_eq_false (show ¬ inR k from fun h => c2 h.2)]
      simp (disch := first | omega | assumption) only [C.m_at_gos, T.tv, ↓reduceIte, Nat.reduceEqDiff, reduceCtorEq, Nat.reduceLeDiff, Nat.reducePow, Int.reducePow, Int.reduceToNat, Nat.reduceAdd, c1, c2]
  · rw [decide_eq_false (show ¬ inR k from fun h => c1 h.1)]
    simp (disch := first | omega | assumption) only [C.m_at_gos, T.tv, ↓reduceIte, Nat.reduceEqDiff, reduceCtorEq, Nat.reduceLeDiff, Nat.reducePow, Int.reducePow, Int.reduceToNat, Nat.reduceAdd, c1]
section
variable {base : Nat} {h : Heap} {p : Pm} {m : Ms} {a : AS}
theorem GdM.root (G : GdM base h p m a) {k : Nat} (hk : k < 16) : m.roots[k]? = some (rtN a (k : Int)) ∧ (rtN a (k : Int) = 0 ∨ AR a (rtN a (k : Int))) ∧ rtN a (k : Int) < m.L.length := by
  obtain ⟨h1, h2, h3⟩ := rt_root G.i.ai hk
  exact ⟨by rw [G.i.ro]; exact h1, .inr h2, by rw [G.i.len]; exact h3⟩
theorem GdM.rk (G : GdM base h p m a) {k : Nat} (hk : k < 16) : cellAt h ⟨p.Rb, k, none⟩ = some (intV (rtN a (k : Int))) ∧ frozenAt h ⟨p.Rb, k, none⟩ = false := G.r.rk (G.root hk).1
/-- What is at a place with a thing in it. -/
theorem GdM.thing (G : GdM base h p m a) {k : Int} (hp : plc a k) : ∃ (n : Nat) (c : TP) (g g' : Nat), k = n ∧ n < 16 ∧ AR a (rtN a k) ∧ m.L[rtN a k]? = some c ∧ c.gone = false ∧ c.rg = some g ∧ c.wg = some g' ∧ m.RS g = some (thN a k).1 ∧ m.WS g' = some (thN a k).2 ∧
    c.rn = (thN a k).1.length ∧ c.wn = (thN a k).2.length ∧ a.things[rtN a k]? = some (thN a k) ∧ rtN a k < m.L.length := by
  obtain ⟨⟨p1, p2⟩, p3⟩ := hp
  obtain ⟨n, rfl⟩ : ∃ n : Nat, k = n := ⟨k.toNat, by omega⟩
  obtain ⟨_, h2, h3⟩ := rt_root G.i.ai (k := n) (by omega)
  obtain ⟨c, g, g', h4, h5, h6, h7, h8, h9, h10, h11, h12⟩ := G.i.live p3 h2
  exact ⟨n, c, g, g', rfl, by omega, h2, h4, h5, h7, h10, h8, h11, h9, h12, h6, by rw [G.i.len]; exact h3⟩
theorem GdM.a0 (G : GdM base h p m a) {k : Nat} {c : TP} (hc : m.L[k]? = some c) : cellAt h ⟨p.Lb, k * 3, none⟩ = some (sv c.rg c.rn) := G.r.at hc 0 _ rfl
theorem GdM.a1 (G : GdM base h p m a) {k : Nat} {c : TP} (hc : m.L[k]? = some c) : cellAt h ⟨p.Lb, k * 3 + 1, none⟩ = some (sv c.wg c.wn) := G.r.at hc 1 _ rfl
theorem mRefs_any (G : GdM base h p m a) {k : Int} : HCalls Try.prog 42 #[ptr p.M 0, .int .i64 k] h fun v h' => h' = h ∧ v = .int .i64 (if plc a k then ((thN a k).1.length : Int) else 0) := by
  refine C.m_refs_calls (args := [ptr p.M 0, .int .i64 k]) rfl ?_
  have A := mAt_any (h := h) (k := k)
  by_cases c0 : inR k
  · rw [decide_eq_true c0] at A
    obtain ⟨n, rfl⟩ : ∃ n : Nat, k = n := ⟨k.toNat, by unfold inR at c0; omega⟩
    have n16 : n < 16 := by unfold inR at c0; omega
    have b1 : (0 : Int) ≤ (n : Int) := by omega
    have b2 : (n : Int) < ((16 : Nat) : Int) := by omega
    have l1 := G.r.m1
    have l0 := G.r.m0
    have l := (G.rk n16).1
    simp (disch := first | omega | assumption) only [C.m_refs_gos, T.tv, ↓reduceIte, Nat.reduceEqDiff, reduceCtorEq, Nat.reduceLeDiff, Nat.reducePow, Int.reducePow, Int.reduceToNat, Nat.reduceAdd]
    refine eff_callF rfl (A.mono ?_)
    rintro v1 h1 ⟨rfl, rfl⟩
    by_cases c3 : rtN a (n : Int) = 0
    · rw [if_neg (fun h => h.2 c3)]
      have c3' : ((rtN a (n : Int) : Nat) : Int) = 0 := by omega
      simp (disch := first | omega | assumption) only [C.m_refs_gos, T.tv, ↓reduceIte, Nat.reduceEqDiff, reduceCtorEq, Nat.reduceLeDiff, Nat.reducePow, Int.reducePow, Int.reduceToNat, Nat.reduceAdd, l1, b1, b2, l, intV, c3']
    · have hp : plc a (n : Int) := ⟨c0, c3⟩
      rw [if_pos hp]
      have c3' : ¬ ((rtN a (n : Int) : Nat) : Int) = 0 := by omega
      obtain ⟨_, c, g, g', _, _, x1, x2, x3, x4, x5, x6, x7, x8, x9, x10, x11⟩ := G.thing hp
      have d1 : (0 : Int) ≤ ((rtN a (n : Int) : Nat) : Int) := by omega
      have d2 : ((rtN a (n : Int) : Nat) : Int) < ((m.L.length : Nat) : Int) := by omega
      have y := G.a0 x2
      simp (disch := first | omega | assumption) only [C.m_refs_gos, T.tv, ↓reduceIte, Nat.reduceEqDiff, reduceCtorEq, Nat.reduceLeDiff, Nat.reducePow, Int.reducePow, Int.reduceToNat, Nat.reduceAdd, l0, l1, b1, b2, l, intV, c3', d1, d2, y, sv, x8]
  · rw [decide_eq_false c0] at A
    rw [if_neg (fun h => c0 h.1)]
    simp (disch := first | omega | assumption) only [C.m_refs_gos, T.tv, ↓reduceIte, Nat.reduceEqDiff, reduceCtorEq, Nat.reduceLeDiff, Nat.reducePow, Int.reducePow, Int.reduceToNat, Nat.reduceAdd]
    refine eff_callF rfl (A.mono ?_)
    rintro v1 h1 ⟨rfl, rfl⟩
    simp (disch := first | omega | assumption) only [C.m_refs_gos, T.tv, ↓reduceIte, Nat.reduceEqDiff, reduceCtorEq, Nat.reduceLeDiff, Nat.reducePow, Int.reducePow, Int.reduceToNat, Nat.reduceAdd]
theorem mWords_any (G : GdM base h p m a) {k : Int} : HCalls Try.prog 44 #[ptr p.M 0, .int .i64 k] h fun v h' => h' = h ∧ v = .int .i64 (if plc a k then ((thN a k).2.length : Int) else 0) := by
  refine C.m_words_calls (args := [ptr p.M 0, .int .i64 k]) rfl ?_
  have A := mAt_any (h := h) (k := k)
  by_cases c0 : inR k
  · rw [decide_eq_true c0] at A
    obtain ⟨n, rfl⟩ : ∃ n : Nat, k = n := ⟨k.toNat, by unfold inR at c0; omega⟩
    have n16 : n < 16 := by unfold inR at c0; omega
    have b1 : (0 : Int) ≤ (n : Int) := by omega
    have b2 : (n : Int) < ((16 : Nat) : Int) := by omega
    have l1 := G.r.m1
    have l0 := G.r.m0
    have l := (G.rk n16).1
    simp (disch := first | omega | assumption) only [C.m_words_gos, T.tv, ↓reduceIte, Nat.reduceEqDiff, reduceCtorEq, Nat.reduceLeDiff, Nat.reducePow, Int.reducePow, Int.reduceToNat, Nat.reduceAdd]
    refine eff_callF rfl (A.mono ?_)
    rintro v1 h1 ⟨rfl, rfl⟩
    by_cases c3 : rtN a (n : Int) = 0
    · rw [if_neg (fun h => h.2 c3)]
      have c3' : ((rtN a (n : Int) : Nat) : Int) = 0 := by omega
      simp (disch := first | omega | assumption) only [C.m_words_gos, T.tv, ↓reduceIte, Nat.reduceEqDiff, reduceCtorEq, Nat.reduceLeDiff, Nat.reducePow, Int.reducePow, Int.reduceToNat, Nat.reduceAdd, l1, b1, b2, l, intV, c3']
    · have hp : plc a (n : Int) := ⟨c0, c3⟩
      rw [if_pos hp]
      have c3' : ¬ ((rtN a (n : Int) : Nat) : Int) = 0 := by omega
      obtain ⟨_, c, g, g', _, _, x1, x2, x3, x4, x5, x6, x7, x8, x9, x10, x11⟩ := G.thing hp
      have d1 : (0 : Int) ≤ ((rtN a (n : Int) : Nat) : Int) := by omega
      have d2 : ((rtN a (n : Int) : Nat) : Int) < ((m.L.length : Nat) : Int) := by omega
      have y := G.a1 x2
      simp (disch := first | omega | assumption) only [C.m_words_gos, T.tv, ↓reduceIte, Nat.reduceEqDiff, reduceCtorEq, Nat.reduceLeDiff, Nat.reducePow, Int.reducePow, Int.reduceToNat, Nat.reduceAdd, l0, l1, b1, b2, l, intV, c3', d1, d2, y, sv, x9]
  · rw [decide_eq_false c0] at A
    rw [if_neg (fun h => c0 h.1)]
    simp (disch := first | omega | assumption) only [C.m_words_gos, T.tv, ↓reduceIte, Nat.reduceEqDiff, reduceCtorEq, Nat.reduceLeDiff, Nat.reducePow, Int.reducePow, Int.reduceToNat, Nat.reduceAdd]
    refine eff_callF rfl (A.mono ?_)
    rintro v1 h1 ⟨rfl, rfl⟩
    simp (disch := first | omega | assumption) only [C.m_words_gos, T.tv, ↓reduceIte, Nat.reduceEqDiff, reduceCtorEq, Nat.reduceLeDiff, Nat.reducePow, Int.reducePow, Int.reduceToNat, Nat.reduceAdd]
theorem GdM.setRoot (G : GdM base h p m a) {k t : Nat} (hk : k < 16) (ht : t = 0 ∨ AR a t) : NxM base h (setAt h ⟨p.Rb, k, none⟩ (intV t)) p m { a with roots := a.roots.set k t } :=
  ⟨p, _, G.r.root (by rw [G.i.ro, G.i.ai.rt]; exact hk) t, rfl, G.i.setRoot ht⟩
theorem mDrop_any (G : GdM base h p m a) {k : Int} : HCalls Try.prog 21 #[ptr p.M 0, .int .i64 k] h fun v h' => NxM base h h' p m (aDrop a k).1 ∧ v = .int .i64 (aDrop a k).2 := by
  refine C.m_Drop_calls (args := [ptr p.M 0, .int .i64 k]) rfl ?_
  have A := mAt_any (h := h) (k := k)
  by_cases c0 : inR k
  · rw [decide_eq_true c0] at A
    obtain ⟨n, rfl⟩ : ∃ n : Nat, k = n := ⟨k.toNat, by unfold inR at c0; omega⟩
    have n16 : n < 16 := by unfold inR at c0; omega
    have e : aDrop a (n : Int) = ({ a with roots := a.roots.set n 0 }, 0) := by unfold aDrop; rw [if_pos c0]; rfl
    rw [e]
    have b1 : (0 : Int) ≤ (n : Int) := by omega
    have b2 : (n : Int) < ((16 : Nat) : Int) := by omega
    have l1 := G.r.m1
    obtain ⟨l, z⟩ := G.rk n16
    simp (disch := first | omega | assumption) only [C.m_Drop_gos, T.tv, ↓reduceIte, Nat.reduceEqDiff, reduceCtorEq, Nat.reduceLeDiff, Nat.reducePow, Int.reducePow, Int.reduceToNat, Nat.reduceAdd]
    refine eff_callF rfl (A.mono ?_)
    rintro v1 h1 ⟨rfl, rfl⟩
    simp (disch := first | omega | assumption) only [C.m_Drop_gos, T.tv, ↓reduceIte, Nat.reduceEqDiff, reduceCtorEq, Nat.reduceLeDiff, Nat.reducePow, Int.reducePow, Int.reduceToNat, Nat.reduceAdd, l1, b1, b2]
    refine eff_store1_z T.zr_3 rfl rfl rfl rfl rfl l z ?_
    simp (disch := first | omega | assumption) only [C.m_Drop_gos, T.tv, ↓reduceIte, Nat.reduceEqDiff, reduceCtorEq, Nat.reduceLeDiff, Nat.reducePow, Int.reducePow, Int.reduceToNat, Nat.reduceAdd]
    have N := G.setRoot (t := 0) n16 (.inl rfl)
    first | exact N | exact ⟨N, rfl⟩
  · rw [decide_eq_false c0] at A
    have e : aDrop a k = (a, 7) := by unfold aDrop; rw [if_neg c0]
    rw [e]
    simp (disch := first | omega | assumption) only [C.m_Drop_gos, T.tv, ↓reduceIte, Nat.reduceEqDiff, reduceCtorEq, Nat.reduceLeDiff, Nat.reducePow, Int.reducePow, Int.reduceToNat, Nat.reduceAdd]
    refine eff_callF rfl (A.mono ?_)
    rintro v1 h1 ⟨rfl, rfl⟩
    simp (disch := first | omega | assumption) only [C.m_Drop_gos, T.tv, ↓reduceIte, Nat.reduceEqDiff, reduceCtorEq, Nat.reduceLeDiff, Nat.reducePow, Int.reducePow, Int.reduceToNat, Nat.reduceAdd]
    first | exact G.stay | exact ⟨G.stay, rfl⟩
theorem mCopy_any (G : GdM base h p m a) {t f : Int} : HCalls Try.prog 19 #[ptr p.M 0, .int .i64 t, .int .i64 f] h fun v h' => NxM base h h' p m (aCopy a t f).1 ∧ v = .int .i64 (aCopy a t f).2 := by
  refine C.m_Copy_calls (args := [ptr p.M 0, .int .i64 t, .int .i64 f]) rfl ?_
  have A := mAt_any (h := h) (k := t)
  have B := mAt_any (h := h) (k := f)
  by_cases c0 : inR t
  · rw [decide_eq_true c0] at A
    simp (disch := first | omega | assumption) only [C.m_Copy_gos, T.tv, ↓reduceIte, Nat.reduceEqDiff, reduceCtorEq, Nat.reduceLeDiff, Nat.reducePow, Int.reducePow, Int.reduceToNat, Nat.reduceAdd]
    refine eff_callF rfl (A.mono ?_)
    rintro v1 h1 ⟨rfl, rfl⟩
    simp (disch := first | omega | assumption) only [C.m_Copy_gos, T.tv, ↓reduceIte, Nat.reduceEqDiff, reduceCtorEq, Nat.reduceLeDiff, Nat.reducePow, Int.reducePow, Int.reduceToNat, Nat.reduceAdd]
    by_cases c1 : inR f
    · rw [decide_eq_true c1] at B
      obtain ⟨n, rfl⟩ : ∃ n : Nat, t = n := ⟨t.toNat, by unfold inR at c0; omega⟩
      obtain ⟨q, rfl⟩ : ∃ q : Nat, f = q := ⟨f.toNat, by unfold inR at c1; omega⟩
      have n16 : n < 16 := by unfold inR at c0; omega
      have q16 : q < 16 := by unfold inR at c1; omega
      have e : aCopy a (n : Int) (q : Int) = ({ a with roots := a.roots.set n (rtN a (q : Int)) }, 0) := by unfold aCopy; rw [if_pos ⟨c0, c1⟩]; rfl
      rw [e]
      have b1 : (0 : Int) ≤ (n : Int) := by omega
      have b2 : (n : Int) < ((16 : Nat) : Int) := by omega
      have d1 : (0 : Int) ≤ (q : Int) := by omega
      have d2 : (q : Int) < ((16 : Nat) : Int) := by omega
      have l1 := G.r.m1
      obtain ⟨l, z⟩ := G.rk n16
      have lq := (G.rk q16).1
      refine eff_callF rfl (B.mono ?_)
      rintro v1 h2 ⟨rfl, rfl⟩
      simp (disch := first | omega | assumption) only [C.m_Copy_gos, T.tv, ↓reduceIte, Nat.reduceEqDiff, reduceCtorEq, Nat.reduceLeDiff, Nat.reducePow, Int.reducePow, Int.reduceToNat, Nat.reduceAdd, l1, b1, b2, d1, d2, lq]
      refine eff_store1_z T.zr_3 rfl rfl rfl rfl rfl l z ?_
      simp (disch := first | omega | assumption) only [C.m_Copy_gos, T.tv, ↓reduceIte, Nat.reduceEqDiff, reduceCtorEq, Nat.reduceLeDiff, Nat.reducePow, Int.reducePow, Int.reduceToNat, Nat.reduceAdd]
      have N := G.setRoot n16 (G.root q16).2.1
      first | exact N | exact ⟨N, rfl⟩
    · rw [decide_eq_false c1] at B
      have e : aCopy a t f = (a, 7) := by unfold aCopy; rw [if_neg fun h => c1 h.2]
      rw [e]
      refine eff_callF rfl (B.mono ?_)
      rintro v1 h2 ⟨rfl, rfl⟩
      simp (disch := first | omega | assumption) only [C.m_Copy_gos, T.tv, ↓reduceIte, Nat.reduceEqDiff, reduceCtorEq, Nat.reduceLeDiff, Nat.reducePow, Int.reducePow, Int.reduceToNat, Nat.reduceAdd]
      first | exact G.stay | exact ⟨G.stay, rfl⟩
  · rw [decide_eq_false c0] at A
    have e : aCopy a t f = (a, 7) := by unfold aCopy; rw [if_neg fun h => c0 h.1]
    rw [e]
    simp (disch := first | omega | assumption) only [C.m_Copy_gos, T.tv, ↓reduceIte, Nat.reduceEqDiff, reduceCtorEq, Nat.reduceLeDiff, Nat.reducePow, Int.reducePow, Int.reduceToNat, Nat.reduceAdd]
    refine eff_callF rfl (A.mono ?_)
    rintro v1 h1 ⟨rfl, rfl⟩
    simp (disch := first | omega | assumption) only [C.m_Copy_gos, T.tv, ↓reduceIte, Nat.reduceEqDiff, reduceCtorEq, Nat.reduceLeDiff, Nat.reducePow, Int.reducePow, Int.reduceToNat, Nat.reduceAdd]
    first | exact G.stay | exact ⟨G.stay, rfl⟩
theorem mSame_any (G : GdM base h p m a) {t f : Int} : HCalls Try.prog 27 #[ptr p.M 0, .int .i64 t, .int .i64 f] h fun v h' => h' = h ∧ v = .tuple #[.bool (aSame a t f).1, .int .i64 (aSame a t f).2] := by
  refine C.m_Same_calls (args := [ptr p.M 0, .int .i64 t, .int .i64 f]) rfl ?_
  have A := mAt_any (h := h) (k := t)
  have B := mAt_any (h := h) (k := f)
  by_cases c0 : inR t
  · rw [decide_eq_true c0] at A
    simp (disch := first | omega | assumption) only [C.m_Same_gos, T.tv, ↓reduceIte, Nat.reduceEqDiff, reduceCtorEq, Nat.reduceLeDiff, Nat.reducePow, Int.reducePow, Int.reduceToNat, Nat.reduceAdd]
    refine eff_callF rfl (A.mono ?_)
    rintro v1 h1 ⟨rfl, rfl⟩
    simp (disch := first | omega | assumption) only [C.m_Same_gos, T.tv, ↓reduceIte, Nat.reduceEqDiff, reduceCtorEq, Nat.reduceLeDiff, Nat.reducePow, Int.reducePow, Int.reduceToNat, Nat.reduceAdd]
    by_cases c1 : inR f
    · rw [decide_eq_true c1] at B
      obtain ⟨n, rfl⟩ : ∃ n : Nat, t = n := ⟨t.toNat, by unfold inR at c0; omega⟩
      obtain ⟨q, rfl⟩ : ∃ q : Nat, f = q := ⟨f.toNat, by unfold inR at c1; omega⟩
      have n16 : n < 16 := by unfold inR at c0; omega
      have q16 : q < 16 := by unfold inR at c1; omega
      have e : aSame a (n : Int) (q : Int) = (decide (rtN a (n : Int) = rtN a (q : Int)), 0) := by unfold aSame; rw [if_pos ⟨c0, c1⟩]
      rw [e]
      have b1 : (0 : Int) ≤ (n : Int) := by omega
      have b2 : (n : Int) < ((16 : Nat) : Int) := by omega
      have d1 : (0 : Int) ≤ (q : Int) := by omega
      have d2 : (q : Int) < ((16 : Nat) : Int) := by omega
      have l1 := G.r.m1
      have l := (G.rk n16).1
      have lq := (G.rk q16).1
      have d : decide (((rtN a (n : Int) : Nat) : Int) = ((rtN a (q : Int) : Nat) : Int)) = decide (rtN a (n : Int) = rtN a (q : Int)) := decide_eq_decide.2 ⟨fun h => by omega, fun h => by rw [h]⟩
      refine eff_callF rfl (B.mono ?_)
      rintro v1 h2 ⟨rfl, rfl⟩
      simp (disch := first | omega | assumption) only [C.m_Same_gos, T.tv, ↓reduceIte, Nat.reduceEqDiff, reduceCtorEq, Nat.reduceLeDiff, Nat.reducePow, Int.reducePow, Int.reduceToNat, Nat.reduceAdd, l1, b1, b2, d1, d2, l, lq, intV, d]
    · rw [decide_eq_false c1] at B
      have e : aSame a t f = (false, 7) := by unfold aSame; rw [if_neg fun h => c1 h.2]
      rw [e]
      refine eff_callF rfl (B.mono ?_)
      rintro v1 h2 ⟨rfl, rfl⟩
      simp (disch := first | omega | assumption) only [C.m_Same_gos, T.tv, ↓reduceIte, Nat.reduceEqDiff, reduceCtorEq, Nat.reduceLeDiff, Nat.reducePow, Int.reducePow, Int.reduceToNat, Nat.reduceAdd]
  · rw [decide_eq_false c0] at A
    have e : aSame a t f = (false, 7) := by unfold aSame; rw [if_neg fun h => c0 h.1]
    rw [e]
    simp (disch := first | omega | assumption) only [C.m_Same_gos, T.tv, ↓reduceIte, Nat.reduceEqDiff, reduceCtorEq, Nat.reduceLeDiff, Nat.reducePow, Int.reducePow, Int.reduceToNat, Nat.reduceAdd]
    refine eff_callF rfl (A.mono ?_)
    rintro v1 h1 ⟨rfl, rfl⟩
    simp (disch := first | omega | assumption) only [C.m_Same_gos, T.tv, ↓reduceIte, Nat.reduceEqDiff, reduceCtorEq, Nat.reduceLeDiff, Nat.reducePow, Int.reducePow, Int.reduceToNat, Nat.reduceAdd]
end
end Go.Proofs.Ytidkokdkldfglaa
