/- The program's package desc: descriptors. No condition. -/
import Derived.Test.YtgdmoimclelfhaaDoorDD
import Derived.Test.YtgdmoimclelfhaaDoorCb
namespace Go.Proofs.YtgdmoimclelfhaaDoor
open Go.Vc
set_option maxRecDepth 100000
set_option linter.unusedSimpArgs false
set_option linter.unusedVariables false

theorem next_any {h : Heap} (l : List UInt8) (hl : l.length ≤ 4294967296) : HCalls Tryd.prog 38 #[str l] h fun v h' => Ext h h' ∧ v = .int .i64 (nextP l : Nat) := by
  refine C.desc_next_calls (args := [str l]) rfl ?_
  simp (disch := first | omega | assumption) only [C.desc_next_gos, T.tv, ↓reduceIte, Nat.reduceEqDiff, reduceCtorEq, Nat.reduceLeDiff, Nat.reducePow, Int.reducePow, Int.reduceToNat, Nat.reduceAdd]
  refine loop_intro [0, 3] (fun m ρ hc => ∃ i : Nat, m = l.length - i ∧ i ≤ l.length ∧ ρ = [(0, str l), (3, .int .i64 (i : Int))] ∧ hc = h ∧ nbr l = i + nbr (l.drop i)) ?_ ?_
  · simp (disch := first | omega | assumption) only [C.desc_next_gos, T.tv, ↓reduceIte, Nat.reduceEqDiff, reduceCtorEq, Nat.reduceLeDiff, Nat.reducePow, Int.reducePow, Int.reduceToNat, Nat.reduceAdd]
    exact ⟨_, 0, rfl, Nat.zero_le _, rfl, by simp⟩
  rintro m ρ hc ⟨i, rfl, hi, rfl, rfl, hn⟩
  by_cases hlt : i < l.length
  · have hlt' : (i : Int) < (l.length : Int) := by omega
    have hd : l.drop i = l.getD i 0 :: l.drop (i + 1) := by rw [List.drop_eq_getElem_cons hlt]; simp [hlt]
    by_cases hb : l.getD i 0 = 91
    · have hb' : ((l.getD i 0).toNat : Int) = 91 := by rw [hb]; rfl
      have w1 : IntKind.i64.wrap ((i : Int) + 1) = ((i + 1 : Nat) : Int) := by rw [wrap_i64 (by omega) (by omega)]; omega
      simp (disch := first | omega | assumption) only [C.desc_next_gos, T.tv, ↓reduceIte, Nat.reduceEqDiff, reduceCtorEq, Nat.reduceLeDiff, Nat.reducePow, Int.reducePow, Int.reduceToNat, Nat.reduceAdd, hlt', hb', w1, decide_true, decide_false]
      refine ⟨l.length - (i + 1), by omega, i + 1, rfl, by omega, rfl, ?_⟩
      rw [hn, hd, nbr, if_pos hb]; omega
    · have hb' : ¬ ((l.getD i 0).toNat : Int) = 91 := by
        intro e; apply hb; apply UInt8.toNat_inj.1; show _ = 91; omega
      have hni : nbr l = i := by rw [hn, hd, nbr, if_neg hb]; rfl
      have hnx : nextP l = (if 255 < i then none else (finP (l.drop i)).map (· + i)).getD 0 := by unfold nextP; rw [oneP_eq, hni, Nat.zero_add]
      rw [hnx, hd]
      by_cases h255 : 255 < i
      · have g1 : (255 : Int) < (i : Int) := by omega
        rw [if_pos h255]
        simp (disch := first | omega | assumption) only [C.desc_next_gos, T.tv, ↓reduceIte, Nat.reduceEqDiff, reduceCtorEq, Nat.reduceLeDiff, Nat.reducePow, Int.reducePow, Int.reduceToNat, Nat.reduceAdd, hlt', hb', g1, decide_true, decide_false]
        exact ⟨Ext.refl _, rfl⟩
      rw [if_neg h255]
      have g1 : ¬ (255 : Int) < (i : Int) := by omega
      have g2 : ¬ (i : Int) = (l.length : Int) := by omega
      have g3 : ¬ (l.length : Int) < (i : Int) := by omega
      have w1 : IntKind.i64.wrap ((i : Int) + 1) = ((i + 1 : Nat) : Int) := by rw [wrap_i64 (by omega) (by omega)]; omega
      generalize hbb : l.getD i 0 = b at *
      simp (disch := first | omega | assumption) only [C.desc_next_gos, T.tv, ↓reduceIte, Nat.reduceEqDiff, reduceCtorEq, Nat.reduceLeDiff, Nat.reducePow, Int.reducePow, Int.reduceToNat, Nat.reduceAdd, hbb, hlt', hb', g1, g2, decide_true, decide_false]
      refine eff_callF rfl ((indexByte_any b B8).mono ?_)
      rintro v1 h1 ⟨rfl, rfl⟩
      have hmem := ib_mem b B8
      by_cases hm : b ∈ B8
      · have g4 := hmem.2 hm
        rw [finP, if_pos hm]
        simp (disch := first | omega | assumption) only [C.desc_next_gos, T.tv, ↓reduceIte, Nat.reduceEqDiff, reduceCtorEq, Nat.reduceLeDiff, Nat.reducePow, Int.reducePow, Int.reduceToNat, Nat.reduceAdd, hbb, hlt', g4, w1, decide_true, decide_false]
        refine ⟨Ext.refl _, ?_⟩
        simp only [Option.map_some, Option.getD_some, Value.int.injEq, true_and]; omega
      have g4 : ¬ 0 ≤ ib B8 b := fun x => hm (hmem.1 x)
      rw [finP, if_neg hm]
      by_cases hL : b = 76
      · subst hL
        have g5 : (((76 : UInt8).toNat : Nat) : Int) = 76 := rfl
        have hcons : (76 : UInt8) :: l.drop (i + 1) = l.drop i := hd.symm
        have hdl : (l.drop i).length = l.length - i := List.length_drop
        have g6 : (i : Int) ≤ (l.length : Int) := by omega
        rw [if_pos rfl, hcons]
        simp (disch := first | omega | assumption) only [C.desc_next_gos, T.tv, ↓reduceIte, Nat.reduceEqDiff, reduceCtorEq, Nat.reduceLeDiff, Nat.reducePow, Int.reducePow, Int.reduceToNat, Nat.reduceAdd, hbb, hlt', g4, w1, g5, g6, decide_true, decide_false]
        refine eff_callF rfl ((indexByte_any 59 (l.drop i)).mono ?_)
        rintro v2 h2 ⟨rfl, rfl⟩
        rcases ib_spec 59 (l.drop i) with ⟨hib, _⟩ | ⟨k, hk, hib, hat, _⟩
        · rw [hib]
          have g7 : (-1 : Int) < 0 := by decide
          rw [if_pos g7]
          simp (disch := first | omega | assumption) only [C.desc_next_gos, T.tv, ↓reduceIte, Nat.reduceEqDiff, reduceCtorEq, Nat.reduceLeDiff, Nat.reducePow, Int.reducePow, Int.reduceToNat, Nat.reduceAdd, g7, decide_true, decide_false]
          exact ⟨Ext.refl _, rfl⟩
        · rw [hib]
          have hk0 : k ≠ 0 := by
            rintro rfl
            rw [← hcons] at hat
            simp at hat
          rw [hdl] at hk
          have g7 : ¬ (k : Int) < 0 := by omega
          have w2 : IntKind.i64.wrap ((i : Int) + (k : Int)) = ((i + k : Nat) : Int) := by rw [wrap_i64 (by omega) (by omega)]; omega
          have w3 : IntKind.i64.wrap (((i + k : Nat) : Int) + 1) = ((i + k + 1 : Nat) : Int) := by rw [wrap_i64 (by omega) (by omega)]; omega
          have g8 : ((i + 1 : Nat) : Int) ≤ ((i + k : Nat) : Int) := by omega
          have g9 : ((i + k : Nat) : Int) ≤ (l.length : Int) := by omega
          have hsub : ((l.drop i).take ((k : Nat) : Int).toNat).drop 1 = (l.take (i + k)).drop (i + 1) := by
            rw [Int.toNat_natCast, ← List.drop_drop]
            congr 1
            rw [List.drop_take, show i + k - i = k by omega]
          rw [if_neg g7, hsub]
          simp (disch := first | omega | assumption) only [C.desc_next_gos, T.tv, ↓reduceIte, Nat.reduceEqDiff, reduceCtorEq, Nat.reduceLeDiff, Nat.reducePow, Int.reducePow, Int.reduceToNat, Nat.reduceAdd, g7, w1, w2, g8, g9, decide_true, decide_false]
          refine eff_callF rfl ((path_any ((l.take (i + k)).drop (i + 1)) (by simp; omega)).mono ?_)
          rintro v3 h3 ⟨hx, rfl⟩
          cases pathP ((l.take (i + k)).drop (i + 1))
          · simp (disch := first | omega | assumption) only [C.desc_next_gos, T.tv, ↓reduceIte, Nat.reduceEqDiff, reduceCtorEq, Nat.reduceLeDiff, Nat.reducePow, Int.reducePow, Int.reduceToNat, Nat.reduceAdd, w2, w3]
            exact ⟨hx, rfl⟩
          · simp (disch := first | omega | assumption) only [C.desc_next_gos, T.tv, ↓reduceIte, Nat.reduceEqDiff, reduceCtorEq, Nat.reduceLeDiff, Nat.reducePow, Int.reducePow, Int.reduceToNat, Nat.reduceAdd, w2, w3]
            refine ⟨hx, ?_⟩
            simp only [if_true, Option.map_some, Option.getD_some, Value.int.injEq, true_and]; omega
      · rw [if_neg hL]
        have g5 : ¬ ((b.toNat : Nat) : Int) = 76 := by
          intro e; apply hL; apply UInt8.toNat_inj.1; show _ = 76; omega
        simp (disch := first | omega | assumption) only [C.desc_next_gos, T.tv, ↓reduceIte, Nat.reduceEqDiff, reduceCtorEq, Nat.reduceLeDiff, Nat.reducePow, Int.reducePow, Int.reduceToNat, Nat.reduceAdd, hbb, hlt', g4, w1, g5, decide_true, decide_false]
        exact ⟨Ext.refl _, rfl⟩
  · have hil : i = l.length := by omega
    subst hil
    have hlt' : ¬ (l.length : Int) < (l.length : Int) := by omega
    have hdn : l.drop l.length = [] := by simp
    have hni : nbr l = l.length := by rw [hn, hdn]; rfl
    have hnx : nextP l = 0 := by unfold nextP; rw [oneP_eq, hni, hdn]; split <;> rfl
    rw [hnx]
    by_cases h255 : 255 < l.length
    · have g0 : (255 : Int) < (l.length : Int) := by omega
      simp (disch := first | omega | assumption) only [C.desc_next_gos, T.tv, ↓reduceIte, Nat.reduceEqDiff, reduceCtorEq, Nat.reduceLeDiff, Nat.reducePow, Int.reducePow, Int.reduceToNat, Nat.reduceAdd, hlt', g0, decide_true, decide_false]
      exact ⟨Ext.refl _, rfl⟩
    · have g0 : ¬ (255 : Int) < (l.length : Int) := by omega
      simp (disch := first | omega | assumption) only [C.desc_next_gos, T.tv, ↓reduceIte, Nat.reduceEqDiff, reduceCtorEq, Nat.reduceLeDiff, Nat.reducePow, Int.reducePow, Int.reduceToNat, Nat.reduceAdd, hlt', g0, decide_true, decide_false]
      exact ⟨Ext.refl _, rfl⟩
theorem field_any {h : Heap} (l : List UInt8) (hl : l.length ≤ 4294967296) : HCalls Tryd.prog 39 #[str l] h fun v h' => Ext h h' ∧ v = .bool (fieldP l) := by
  refine C.desc_Field_calls (args := [str l]) rfl ?_
  rw [fieldP_next]
  by_cases he : l = []
  · subst he
    simp (disch := first | omega | assumption) only [C.desc_Field_gos, T.tv, ↓reduceIte, Nat.reduceEqDiff, reduceCtorEq, Nat.reduceLeDiff, Nat.reducePow, Int.reducePow, Int.reduceToNat, Nat.reduceAdd, decide_true, decide_false]
    exact ⟨Ext.refl _, rfl⟩
  · simp (disch := first | omega | assumption) only [C.desc_Field_gos, T.tv, ↓reduceIte, Nat.reduceEqDiff, reduceCtorEq, Nat.reduceLeDiff, Nat.reducePow, Int.reducePow, Int.reduceToNat, Nat.reduceAdd, he, decide_true, decide_false]
    refine eff_callF rfl ((next_any l hl).mono ?_)
    rintro v1 h1 ⟨hx, rfl⟩
    simp (disch := first | omega | assumption) only [C.desc_Field_gos, T.tv, ↓reduceIte, Nat.reduceEqDiff, reduceCtorEq, Nat.reduceLeDiff, Nat.reducePow, Int.reducePow, Int.reduceToNat, Nat.reduceAdd]
    refine ⟨hx, ?_⟩
    simp [he, Int.ofNat_inj]
theorem slots_any {h : Heap} (l : List UInt8) : HCalls Tryd.prog 30 #[str l] h fun v h' => h' = h ∧ v = .int .i64 (slotP l : Nat) := by
  refine C.desc_Slots_calls (args := [str l]) rfl ?_
  unfold slotP
  have q1 : ¬ ([74] : List UInt8) = [86] := by decide
  have q2 : ¬ ([68] : List UInt8) = [86] := by decide
  have q3 : ¬ ([68] : List UInt8) = [74] := by decide
  have q4 : ¬ ([74] : List UInt8) = [68] := by decide
  by_cases h1 : l = [86]
  · subst h1
    simp (disch := first | omega | assumption) only [C.desc_Slots_gos, T.tv, ↓reduceIte, Nat.reduceEqDiff, reduceCtorEq, Nat.reduceLeDiff, Nat.reducePow, Int.reducePow, Int.reduceToNat, Nat.reduceAdd, eq_false q1, eq_false q2, eq_false q3, eq_false q4, decide_true, decide_false]
    rfl
  by_cases h2 : l = [74]
  · subst h2
    simp (disch := first | omega | assumption) only [C.desc_Slots_gos, T.tv, ↓reduceIte, Nat.reduceEqDiff, reduceCtorEq, Nat.reduceLeDiff, Nat.reducePow, Int.reducePow, Int.reduceToNat, Nat.reduceAdd, eq_false q1, eq_false q2, eq_false q3, eq_false q4, decide_true, decide_false]
    rfl
  by_cases h3 : l = [68]
  · subst h3
    simp (disch := first | omega | assumption) only [C.desc_Slots_gos, T.tv, ↓reduceIte, Nat.reduceEqDiff, reduceCtorEq, Nat.reduceLeDiff, Nat.reducePow, Int.reducePow, Int.reduceToNat, Nat.reduceAdd, eq_false q1, eq_false q2, eq_false q3, eq_false q4, decide_true, decide_false]
    rfl
  rw [if_neg h1, if_neg (by simp [h2, h3])]
  simp (disch := first | omega | assumption) only [C.desc_Slots_gos, T.tv, ↓reduceIte, Nat.reduceEqDiff, reduceCtorEq, Nat.reduceLeDiff, Nat.reducePow, Int.reducePow, Int.reduceToNat, Nat.reduceAdd, h1, h2, h3, eq_false h1, eq_false h2, eq_false h3, decide_false]
  rfl
/-- What Method of desc (or of the reference) gives for a text. -/
def MethV (s : List UInt8) (v : Value) (h : Heap) : Prop := match methP s with
  | none => v = .tuple #[.slice none 0 0, str [], .bool false]
  | some (ts, g) => ∃ sv, v = .tuple #[sv, str g, .bool true] ∧ Sl h sv (ts.map str)
theorem head_get {l : List UInt8} (hne : l ≠ []) (c : UInt8) : l.head? = some c ↔ ((l.getD 0 0).toNat : Int) = (c.toNat : Int) := by
  cases l with
  | nil => exact absurd rfl hne
  | cons b r =>
    simp only [List.head?_cons, Option.some.injEq, List.getD_cons_zero]
    constructor
    · rintro rfl; rfl
    · intro e; apply UInt8.toNat_inj.1; omega

theorem method_any {h : Heap} (s : List UInt8) (hl : s.length ≤ 4294967296) : HCalls Tryd.prog 29 #[str s] h fun v h' => Ext h h' ∧ MethV s v h' := by
  refine C.desc_Method_calls (args := [str s]) rfl ?_
  simp (disch := first | omega | assumption) only [C.desc_Method_gos, T.tv, ↓reduceIte, Nat.reduceEqDiff, reduceCtorEq, Nat.reduceLeDiff, Nat.reducePow, Int.reducePow, Int.reduceToNat, Nat.reduceAdd]
  refine eff_callF rfl ((hasPrefix_any 40 s).mono ?_)
  rintro v1 h1 ⟨rfl, rfl⟩
  by_cases hh : s.head? = some 40
  · have hm : methP s = methE (runP s.length (s.drop 1) [] 0) := by unfold methP; rw [if_pos hh]
    unfold MethV
    rw [hm, decide_eq_true hh]
    have hne : s ≠ [] := by rintro rfl; simp at hh
    have hpos : 1 ≤ s.length := List.length_pos_iff.2 hne
    have g1 : (1 : Int) ≤ (s.length : Int) := by omega
    simp (disch := first | omega | assumption) only [C.desc_Method_gos, T.tv, ↓reduceIte, Nat.reduceEqDiff, reduceCtorEq, Nat.reduceLeDiff, Nat.reducePow, Int.reducePow, Int.reduceToNat, Nat.reduceAdd, g1]
    generalize hR : runP s.length (s.drop 1) [] 0 = R
    refine loop_intro [0, 5, 6] (fun m ρ hc => ∃ (l : List UInt8) (ts : List (List UInt8)) (sl : Nat) (out : Value), m = l.length ∧ ρ = [(0, str l), (5, out), (6, .int .i64 (sl : Int))] ∧
        Own hc h1.size 9 1 out ts.length (ts.map str) ∧ Ext h1 hc ∧ l.length + ts.length ≤ s.length ∧ sl ≤ 2 * ts.length ∧ ∃ f, l.length < f ∧ runP f l ts sl = R) ?_ ?_
    · simp (disch := first | omega | assumption) only [C.desc_Method_gos, T.tv, ↓reduceIte, Nat.reduceEqDiff, reduceCtorEq, Nat.reduceLeDiff, Nat.reducePow, Int.reducePow, Int.reduceToNat, Nat.reduceAdd]
      exact ⟨_, s.drop 1, [], 0, _, rfl, rfl, Own.nil, Ext.refl _, by simp, by simp, s.length, by simp; omega, hR⟩
    rintro m ρ hc ⟨l, ts, sl, out, rfl, rfl, hown, hx, hlen, hsl, f, hf, hrun⟩
    obtain ⟨f, rfl⟩ : ∃ k, f = k + 1 := ⟨f - 1, by omega⟩
    rw [runP] at hrun
    by_cases he : l = []
    · subst he
      rw [if_pos (.inl rfl)] at hrun
      subst hrun
      simp (disch := first | omega | assumption) only [C.desc_Method_gos, T.tv, ↓reduceIte, Nat.reduceEqDiff, reduceCtorEq, Nat.reduceLeDiff, Nat.reducePow, Int.reducePow, Int.reduceToNat, Nat.reduceAdd, decide_true, decide_false]
      exact ⟨hx, by simp [methE]⟩
    have hlp : (0 : Int) < (l.length : Int) := by have := List.length_pos_iff.2 he; omega
    have hl1 : (1 : Int) ≤ (l.length : Int) := by omega
    by_cases h41 : l.head? = some 41
    · have g2 : ((l.getD 0 0).toNat : Int) = 41 := (head_get he 41).1 h41
      rw [if_pos (.inr h41)] at hrun
      subst hrun
      by_cases h254 : 254 < sl
      · have g3 : (254 : Int) < (sl : Int) := by omega
        simp (disch := first | omega | assumption) only [C.desc_Method_gos, T.tv, ↓reduceIte, Nat.reduceEqDiff, reduceCtorEq, Nat.reduceLeDiff, Nat.reducePow, Int.reducePow, Int.reduceToNat, Nat.reduceAdd, he, hlp, g2, g3, decide_true, decide_false]
        exact ⟨hx, by simp [methE, h254]⟩
      have g3 : ¬ (254 : Int) < (sl : Int) := by omega
      by_cases hV : l.drop 1 = [86]
      · simp (disch := first | omega | assumption) only [C.desc_Method_gos, T.tv, ↓reduceIte, Nat.reduceEqDiff, reduceCtorEq, Nat.reduceLeDiff, Nat.reducePow, Int.reducePow, Int.reduceToNat, Nat.reduceAdd, he, hlp, hl1, g2, g3, hV, decide_true, decide_false]
        refine ⟨hx, ?_⟩
        simp only [methE, he, hV, h254, false_or, ne_eq, not_true_eq_false, false_and, if_false]
        exact ⟨_, rfl, hown.sl⟩
      · simp (disch := first | omega | assumption) only [C.desc_Method_gos, T.tv, ↓reduceIte, Nat.reduceEqDiff, reduceCtorEq, Nat.reduceLeDiff, Nat.reducePow, Int.reducePow, Int.reduceToNat, Nat.reduceAdd, he, hlp, hl1, g2, g3, hV, decide_true, decide_false]
        refine eff_callF rfl ((field_any (l.drop 1) (by rw [List.length_drop]; omega)).mono ?_)
        rintro v2 h2 ⟨hx2, rfl⟩
        cases hfd : fieldP (l.drop 1) with
        | true =>
          simp (disch := first | omega | assumption) only [C.desc_Method_gos, T.tv, ↓reduceIte, Nat.reduceEqDiff, reduceCtorEq, Nat.reduceLeDiff, Nat.reducePow, Int.reducePow, Int.reduceToNat, Nat.reduceAdd, hl1]
          refine ⟨hx.trans hx2, ?_⟩
          simp only [methE, he, hV, h254, hfd, false_or, ne_eq, not_false_eq_true, true_and, Bool.true_eq_false, if_false]
          exact ⟨_, rfl, (hown.ext hx2).sl⟩
        | false =>
          simp (disch := first | omega | assumption) only [C.desc_Method_gos, T.tv, ↓reduceIte, Nat.reduceEqDiff, reduceCtorEq, Nat.reduceLeDiff, Nat.reducePow, Int.reducePow, Int.reduceToNat, Nat.reduceAdd]
          refine ⟨hx.trans hx2, ?_⟩
          rw [show methE (some (ts, sl, l)) = none by unfold methE; simp only []; rw [if_pos (.inr (.inr ⟨hV, hfd⟩))]]
          trivial
    · have g2 : ¬ ((l.getD 0 0).toNat : Int) = 41 := fun x => h41 ((head_get he 41).2 x)
      rw [if_neg (by simp [he, h41])] at hrun
      simp (disch := first | omega | assumption) only [C.desc_Method_gos, T.tv, ↓reduceIte, Nat.reduceEqDiff, reduceCtorEq, Nat.reduceLeDiff, Nat.reducePow, Int.reducePow, Int.reduceToNat, Nat.reduceAdd, he, hlp, g2, decide_true, decide_false]
      refine eff_callF rfl ((next_any l (by omega)).mono ?_)
      rintro v2 h2 ⟨hx2, rfl⟩
      unfold nextP
      cases ho : oneP l 0 with
      | none =>
        rw [ho] at hrun
        subst hrun
        have z0 : ((0 : Nat) : Int) = 0 := rfl
        simp only [Option.getD_none]
        simp (disch := first | omega | assumption) only [C.desc_Method_gos, T.tv, ↓reduceIte, Nat.reduceEqDiff, reduceCtorEq, Nat.reduceLeDiff, Nat.reducePow, Int.reducePow, Int.reduceToNat, Nat.reduceAdd, z0, decide_true, decide_false]
        exact ⟨hx.trans hx2, by simp [methE]⟩
      | some k =>
        rw [ho] at hrun
        have hk := oneP_le ho
        have g4 : ¬ (k : Int) = 0 := by omega
        have g5 : (k : Int) ≤ (l.length : Int) := by omega
        simp only [Option.getD_some]
        simp only [] at hrun
        have hts : (l.take k).length ≤ 4294967296 := by rw [List.length_take]; omega
        have hsp := slotP_le (l.take k)
        generalize hlk : l.take k = q at *
        have w1 : IntKind.i64.wrap ((sl : Int) + (slotP q : Int)) = ((sl + slotP q : Nat) : Int) := by rw [wrap_i64 (by omega) (by omega)]; omega
        simp (disch := first | omega | assumption) only [C.desc_Method_gos, T.tv, ↓reduceIte, Nat.reduceEqDiff, reduceCtorEq, Nat.reduceLeDiff, Nat.reducePow, Int.reducePow, Int.reduceToNat, Nat.reduceAdd, g4, g5, hlk, decide_true, decide_false]
        refine eff_lits T.slT_57 rfl rfl (by decide) ?_
        simp (disch := first | omega | assumption) only [C.desc_Method_gos, T.tv, ↓reduceIte, Nat.reduceEqDiff, reduceCtorEq, Nat.reduceLeDiff, Nat.reducePow, Int.reducePow, Int.reduceToNat, Nat.reduceAdd]
        have hown2 := hown.ext hx2
        have hsz := hx.size
        have hsz2 := hx2.size
        refine eff_append_own T.slT_57 rfl rfl (hown2.push _) rfl (Rd_new (vs := [str q])) (by intro u hu; simp only [List.mem_singleton] at hu; subst hu; rfl) (by omega) (by omega) (by simp; omega) ?_
        intro v' h' hown' hfr _
        simp (disch := first | omega | assumption) only [C.desc_Method_gos, T.tv, ↓reduceIte, Nat.reduceEqDiff, reduceCtorEq, Nat.reduceLeDiff, Nat.reducePow, Int.reducePow, Int.reduceToNat, Nat.reduceAdd, hlk, g5]
        refine eff_callF rfl ((slots_any q).mono ?_)
        rintro v3 h3 ⟨rfl, rfl⟩
        simp (disch := first | omega | assumption) only [C.desc_Method_gos, T.tv, ↓reduceIte, Nat.reduceEqDiff, reduceCtorEq, Nat.reduceLeDiff, Nat.reducePow, Int.reducePow, Int.reduceToNat, Nat.reduceAdd, g5, w1]
        refine ⟨(l.drop k).length, by rw [List.length_drop]; omega, l.drop k, ts ++ [q], sl + slotP q, v', rfl, rfl, by simpa using hown',
          Ext.app ((hx.trans hx2).trans (Ext.push _ _)) hfr (fun k hk => by have := (hown2.lt k hk).1; simpa using this), by rw [List.length_drop, List.length_append, List.length_singleton]; omega, by simp; omega, f, by rw [List.length_drop]; omega, hrun⟩
  · have hm : methP s = none := by unfold methP; rw [if_neg hh]
    unfold MethV
    rw [hm, decide_eq_false hh]
    simp (disch := first | omega | assumption) only [C.desc_Method_gos, T.tv, ↓reduceIte, Nat.reduceEqDiff, reduceCtorEq, Nat.reduceLeDiff, Nat.reducePow, Int.reducePow, Int.reduceToNat, Nat.reduceAdd]
    exact Ext.refl _
end Go.Proofs.YtgdmoimclelfhaaDoor
