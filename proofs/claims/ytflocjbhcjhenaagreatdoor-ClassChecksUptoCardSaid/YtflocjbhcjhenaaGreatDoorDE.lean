/- The program's package desc. The program's package desc: descriptors. The reference's names and descriptors. What Method gives, in three parts. Names of classes and members, by both. No condition. -/
import Derived.Test.YtflocjbhcjhenaaGreatDoorDA
import Derived.Test.YtflocjbhcjhenaaGreatDoorCA
set_option linter.unusedSimpArgs false
set_option linter.unusedVariables false
namespace Go.Proofs.YtflocjbhcjhenaaGreatDoor
open Go.Vc
set_option maxRecDepth 100000
theorem part_any {h : Heap} (l : List UInt8) (hl : l.length ≤ 4294967296) : HCalls Tryz.prog 53 #[str l] h fun v h' => Ext h h' ∧ v = .bool (without A4 l) := by
  refine C.desc_part_calls (args := [str l]) rfl ?_
  by_cases he : l = []
  · subst he
    simp only [C.desc_part_gos, T.tv, seval]
    exact ⟨Ext.refl _, rfl⟩
  · simp only [C.desc_part_gos, T.tv, seval, he]
    refine eff_callF rfl ((containsAny_any A4 l (by decide) (by decide) (by decide) (by omega)).mono ?_)
    rintro v1 h1 ⟨hx, rfl⟩
    have hw : without A4 l = !hasAny A4 l := by simp [without, he]
    rw [hw]
    cases hasAny A4 l
    all_goals
      simp only [T.tv, seval]
      exact hx
theorem member_any {h : Heap} (l : List UInt8) (m : Bool) (hl : l.length ≤ 4294967296) : HCalls Tryz.prog 22 #[str l, .bool m] h fun v h' => Ext h h' ∧ v = .int .i64 (memP l m : Nat) := by
  refine C.desc_Member_calls (args := [str l, .bool m]) rfl ?_
  cases m with
  | false =>
    simp only [C.desc_Member_gos, T.tv, seval]
    refine eff_callF rfl ((part_any l hl).mono ?_)
    rintro v1 h1 ⟨hx, rfl⟩
    unfold memP
    cases without A4 l
    all_goals
      simp only [C.desc_Member_gos, T.tv, seval]
      exact ⟨hx, rfl⟩
  | true =>
    by_cases e1 : l = [60, 105, 110, 105, 116, 62]
    · simp only [C.desc_Member_gos, T.tv, seval, eq_true e1]
      exact ⟨Ext.refl _, by simp [memP, e1]⟩
    by_cases e2 : l = [60, 99, 108, 105, 110, 105, 116, 62]
    · simp only [C.desc_Member_gos, T.tv, seval, eq_false e1, eq_true e2]
      exact ⟨Ext.refl _, by simp [memP, e2]⟩
    have hm : memP l true = if without A4 l = false ∨ without [60, 62] l = false then 0 else 1 := by simp [memP, e1, e2]
    rw [hm]
    simp only [C.desc_Member_gos, T.tv, seval, eq_false e1, eq_false e2]
    refine eff_callF rfl ((part_any l hl).mono ?_)
    rintro v1 h1 ⟨hx, rfl⟩
    cases hw : without A4 l with
    | false =>
      simp only [C.desc_Member_gos, T.tv, seval]
      exact ⟨hx, rfl⟩
    | true =>
      have hne : l ≠ [] := by intro e; subst e; cases hw
      have hw2 : without [60, 62] l = !hasAny [60, 62] l := by simp [without, hne]
      rw [hw2]
      simp only [T.tv, seval]
      refine eff_callF rfl ((containsAny_any [60, 62] l (by decide) (by decide) (by decide) (by omega)).mono ?_)
      rintro v2 h2 ⟨hx2, rfl⟩
      cases hasAny [60, 62] l
      all_goals
        simp only [C.desc_Member_gos, T.tv, seval]
        exact ⟨hx.trans hx2, rfl⟩
theorem path_any {h : Heap} (l : List UInt8) (hl : l.length ≤ 4294967296) : HCalls Tryz.prog 51 #[str l] h fun v h' => Ext h h' ∧ v = .bool (pathP l) := by
  refine C.desc_path_calls (args := [str l]) rfl ?_
  simp only [C.desc_path_gos, T.tv, seval]
  refine eff_callF rfl ((split_any l hl).mono ?_)
  rintro v1 h1 ⟨hx, hs⟩
  rw [pathP_4]
  have hpl : ∀ p ∈ pieces [] l, p.length ≤ 4294967296 := by
    have H : ∀ (l acc : List UInt8), ∀ p ∈ pieces acc l, p.length ≤ acc.length + l.length := by
      intro l
      induction l with
      | nil => intro acc p hp; simp only [pieces, List.mem_singleton] at hp; subst hp; simp
      | cons b r ih =>
        intro acc p hp
        rw [pieces] at hp
        split at hp
        · rcases List.mem_cons.1 hp with rfl | hp
          · simp
          · have := ih [] p hp; simp at this ⊢; omega
        · have := ih _ p hp; simp at this ⊢; omega
    intro p hp
    have := H l [] p hp
    simp at this; omega
  have hlen : (pieces [] l).length ≤ 4294967297 := by rw [pieces_len]; have : l.count 47 ≤ l.length := List.count_le_length; omega
  generalize pieces [] l = ps at *
  have hs' := hs
  obtain ⟨a, c, rfl, _⟩ := hs'
  rw [List.length_map]
  simp only [T.tv, seval]
  refine loop_intro [6, 7, 8] (fun m ρ hc => ∃ i : Nat, m = ps.length - i ∧ i ≤ ps.length ∧ ρ = [(6, .slice a ps.length c), (7, .int .i64 (ps.length : Int)), (8, .int .i64 (i : Int))] ∧ Ext h hc ∧ Ext h1 hc ∧ (ps.take i).all (without A4) = true) ?_ ?_
  · simp only [T.tv, seval]
    exact ⟨_, 0, rfl, Nat.zero_le _, rfl, hx, Ext.refl _, by simp⟩
  rintro m ρ hc ⟨i, rfl, hi, rfl, hxc, hx1, hok⟩
  by_cases hlt : i < ps.length
  · have hlt' : (i : Int) < (ps.length : Int) := by omega
    obtain ⟨b, o, c', heq, _, hcell⟩ := (hs.ext hx1).at (i := i) (by simpa using hlt)
    rw [List.length_map] at heq
    cases heq
    have hcell' : cellAt hc ⟨b, o + i, none⟩ = some (str (ps.getD i [])) := by rw [hcell]; simp [hlt]
    have hmem : ps.getD i [] ∈ ps := by simp [hlt]
    have hst : ps.take (i + 1) = ps.take i ++ [ps.getD i []] := by rw [List.take_add_one]; simp [hlt]
    generalize ps.getD i [] = p at *
    simp (disch := omega) only [C.desc_path_gos, T.tv, seval, hlt', hcell']
    refine eff_callF rfl ((part_any p (hpl p hmem)).mono ?_)
    rintro v2 h2 ⟨hx2, rfl⟩
    cases hw : without A4 p with
    | false =>
      simp only [C.desc_path_gos, T.tv, seval]
      refine ⟨hxc.trans hx2, ?_⟩
      have : ps.all (without A4) = false := by
        rw [List.all_eq_false]
        exact ⟨p, hmem, by simp [hw]⟩
      rw [this]
    | true =>
      simp (disch := omega) only [C.desc_path_gos, T.tv, seval]
      refine ⟨ps.length - (i + 1), by omega, i + 1, rfl, by omega, rfl, hxc.trans hx2, hx1.trans hx2, ?_⟩
      rw [hst, List.all_append, hok]
      simp [hw]
  · have hlt' : ¬ (i : Int) < (ps.length : Int) := by omega
    rw [List.take_of_length_le (by omega)] at hok
    simp only [C.desc_path_gos, T.tv, seval, hlt']
    exact ⟨hxc, by rw [hok]⟩
end Go.Proofs.YtflocjbhcjhenaaGreatDoor
namespace Go.Proofs.YtflocjbhcjhenaaGreatDoor
open Go.Vc
set_option maxRecDepth 100000
theorem next_any {h : Heap} (l : List UInt8) (hl : l.length ≤ 4294967296) : HCalls Tryz.prog 52 #[str l] h fun v h' => Ext h h' ∧ v = .int .i64 (nextP l : Nat) := by
  refine C.desc_next_calls (args := [str l]) rfl ?_
  simp only [C.desc_next_gos, T.tv, seval]
  refine loop_intro [0, 3] (fun m ρ hc => ∃ i : Nat, m = l.length - i ∧ i ≤ l.length ∧ ρ = [(0, str l), (3, .int .i64 (i : Int))] ∧ hc = h ∧ nbr l = i + nbr (l.drop i)) ?_ ?_
  · simp only [T.tv, seval]
    exact ⟨_, 0, rfl, Nat.zero_le _, rfl, by simp⟩
  rintro m ρ hc ⟨i, rfl, hi, rfl, rfl, hn⟩
  by_cases hlt : i < l.length
  · have hlt' : (i : Int) < (l.length : Int) := by omega
    have hd : l.drop i = l.getD i 0 :: l.drop (i + 1) := by rw [List.drop_eq_getElem_cons hlt]; simp [hlt]
    by_cases hb : l.getD i 0 = 91
    · have hb' : ((l.getD i 0).toNat : Int) = 91 := by rw [hb]; rfl
      have w1 : IntKind.i64.wrap ((i : Int) + 1) = ((i + 1 : Nat) : Int) := by rw [wrap_i64 (by omega) (by omega)]; omega
      simp (disch := omega) only [C.desc_next_gos, T.tv, seval, hlt', hb', w1]
      refine ⟨l.length - (i + 1), by omega, i + 1, rfl, by omega, rfl, ?_⟩
      rw [hn, hd, nbr, if_pos hb]; omega
    · have hb' : ¬ ((l.getD i 0).toNat : Int) = 91 := by
        intro e; apply hb; apply UInt8.toNat_inj.1; show _ = 91; omega
      have hni : nbr l = i := by rw [hn, hd, nbr, if_neg hb]; rfl
      have hnx : nextP l = (if 255 < i then none else (finP (l.drop i)).map (· + i)).getD 0 := by unfold nextP; rw [oneP_eq, hni, Nat.zero_add]
      rw [hnx, hd]
      by_cases h255 : 255 < i
      · have g1 : (255 : Int) < (i : Int) := by omega
        rw [if_pos h255]
        simp (disch := omega) only [C.desc_next_gos, T.tv, seval, hlt', hb', g1]
        exact ⟨Ext.refl _, rfl⟩
      rw [if_neg h255]
      have g1 : ¬ (255 : Int) < (i : Int) := by omega
      have g2 : ¬ (i : Int) = (l.length : Int) := by omega
      have g3 : ¬ (l.length : Int) < (i : Int) := by omega
      have w1 : IntKind.i64.wrap ((i : Int) + 1) = ((i + 1 : Nat) : Int) := by rw [wrap_i64 (by omega) (by omega)]; omega
      generalize hbb : l.getD i 0 = b at *
      simp (disch := omega) only [C.desc_next_gos, T.tv, seval, hbb, hlt', hb', g1, g2]
      refine eff_callF rfl ((indexByte_any b B8).mono ?_)
      rintro v1 h1 ⟨rfl, rfl⟩
      have hmem := ib_mem b B8
      by_cases hm : b ∈ B8
      · have g4 := hmem.2 hm
        rw [finP, if_pos hm]
        simp only [C.desc_next_gos, T.tv, seval, g4, w1]
        refine ⟨Ext.refl _, ?_⟩
        simp only [Option.getD_some, Value.int.injEq, true_and]; omega
      have g4 : ¬ 0 ≤ ib B8 b := fun x => hm (hmem.1 x)
      rw [finP, if_neg hm]
      by_cases hL : b = 76
      · subst hL
        have g5 : (((76 : UInt8).toNat : Nat) : Int) = 76 := rfl
        have hcons : (76 : UInt8) :: l.drop (i + 1) = l.drop i := hd.symm
        have hdl : (l.drop i).length = l.length - i := List.length_drop
        have g6 : (i : Int) ≤ (l.length : Int) := by omega
        rw [if_pos rfl, hcons]
        simp (disch := omega) only [C.desc_next_gos, T.tv, seval, hbb, g4, g5]
        refine eff_callF rfl ((indexByte_any 59 (l.drop i)).mono ?_)
        rintro v2 h2 ⟨rfl, rfl⟩
        rcases ib_spec 59 (l.drop i) with ⟨hib, _⟩ | ⟨k, hk, hib, hat, _⟩
        · rw [hib]
          have g7 : (-1 : Int) < 0 := by decide
          rw [if_pos g7]
          simp only [C.desc_next_gos, T.tv, seval, g7]
          exact ⟨Ext.refl _, rfl⟩
        · rw [hib]
          have hk0 : k ≠ 0 := by
            rintro rfl
            rw [← hcons] at hat
            simp at hat
          rw [hdl] at hk
          have g7 : ¬ (k : Int) < 0 := by omega
          have w2 : IntKind.i64.wrap ((i : Int) + (k : Int)) = ((i + k : Nat) : Int) := by rw [wrap_i64 (by omega) (by omega)]; omega
          have w3 : IntKind.i64.wrap (((i + k : Nat) : Int) + 1) = ((i + k + 1 : Nat) : Int) := by rw [wrap_i64 (by omega) (by omega)]; omega
          have g8 : ((i + 1 : Nat) : Int) ≤ ((i + k : Nat) : Int) := by omega
          have g9 : ((i + k : Nat) : Int) ≤ (l.length : Int) := by omega
          have hsub : ((l.drop i).take ((k : Nat) : Int).toNat).drop 1 = (l.take (i + k)).drop (i + 1) := by
            rw [Int.toNat_natCast, ← List.drop_drop]
            congr 1
            rw [List.drop_take, show i + k - i = k by omega]
          rw [if_neg g7, hsub]
          simp (disch := omega) only [C.desc_next_gos, T.tv, seval, g7, w1, w2]
          refine eff_callF rfl ((path_any ((l.take (i + k)).drop (i + 1)) (by simp; omega)).mono ?_)
          rintro v3 h3 ⟨hx, rfl⟩
          cases pathP ((l.take (i + k)).drop (i + 1))
          · simp only [C.desc_next_gos, T.tv, seval]
            exact ⟨hx, rfl⟩
          · simp only [C.desc_next_gos, T.tv, seval, w2, w3]
            refine ⟨hx, ?_⟩
            simp only [Option.getD_some, Value.int.injEq, true_and]; omega
      · rw [if_neg hL]
        have g5 : ¬ ((b.toNat : Nat) : Int) = 76 := by
          intro e; apply hL; apply UInt8.toNat_inj.1; show _ = 76; omega
        simp (disch := omega) only [C.desc_next_gos, T.tv, seval, hbb, g4, g5]
        exact ⟨Ext.refl _, rfl⟩
  · have hil : i = l.length := by omega
    subst hil
    have hlt' : ¬ (l.length : Int) < (l.length : Int) := by omega
    have hdn : l.drop l.length = [] := by simp
    have hni : nbr l = l.length := by rw [hn, hdn]; rfl
    have hnx : nextP l = 0 := by unfold nextP; rw [oneP_eq, hni, hdn]; split <;> rfl
    rw [hnx]
    by_cases h255 : 255 < l.length
    · have g0 : (255 : Int) < (l.length : Int) := by omega
      simp only [C.desc_next_gos, T.tv, ↓reduceIte, Nat.reduceEqDiff, reduceCtorEq, hlt', g0]
      exact ⟨Ext.refl _, rfl⟩
    · have g0 : ¬ (255 : Int) < (l.length : Int) := by omega
      simp only [C.desc_next_gos, T.tv, ↓reduceIte, Nat.reduceEqDiff, reduceCtorEq, hlt', g0]
      exact ⟨Ext.refl _, rfl⟩
theorem field_any {h : Heap} (l : List UInt8) (hl : l.length ≤ 4294967296) : HCalls Tryz.prog 23 #[str l] h fun v h' => Ext h h' ∧ v = .bool (fieldP l) := by
  refine C.desc_Field_calls (args := [str l]) rfl ?_
  rw [fieldP_next]
  by_cases he : l = []
  · subst he
    simp only [C.desc_Field_gos, T.tv, seval]
    exact ⟨Ext.refl _, rfl⟩
  · simp only [C.desc_Field_gos, T.tv, seval, he]
    refine eff_callF rfl ((next_any l hl).mono ?_)
    rintro v1 h1 ⟨hx, rfl⟩
    simp only [T.tv, seval]
    refine ⟨hx, ?_⟩
    simp [Int.ofNat_inj]
theorem slots_any {h : Heap} (l : List UInt8) : HCalls Tryz.prog 30 #[str l] h fun v h' => h' = h ∧ v = .int .i64 (slotP l : Nat) := by
  refine C.desc_Slots_calls (args := [str l]) rfl ?_
  unfold slotP
  have q1 : ¬ ([74] : List UInt8) = [86] := by decide
  have q2 : ¬ ([68] : List UInt8) = [86] := by decide
  have q3 : ¬ ([68] : List UInt8) = [74] := by decide
  have q4 : ¬ ([74] : List UInt8) = [68] := by decide
  by_cases h1 : l = [86]
  · subst h1
    simp only [C.desc_Slots_gos, T.tv, ↓reduceIte, Nat.reduceEqDiff, reduceCtorEq]
    rfl
  by_cases h2 : l = [74]
  · subst h2
    simp only [C.desc_Slots_gos, T.tv, seval, eq_false q1, eq_false q4]
    rfl
  by_cases h3 : l = [68]
  · subst h3
    simp only [C.desc_Slots_gos, T.tv, seval, eq_false q2, eq_false q3]
    rfl
  rw [if_neg h1, if_neg (by simp [h2, h3])]
  simp only [C.desc_Slots_gos, T.tv, ↓reduceIte, Nat.reduceEqDiff, reduceCtorEq, eq_false h1, eq_false h2, eq_false h3]
  rfl
def MethV (s : List UInt8) (v : Value) (h : Heap) : Prop := match methP s with
  | none => v = .tuple #[.slice none 0 0, str [], .bool false]
  | some (ts, g) => ∃ sv, v = .tuple #[sv, str g, .bool true] ∧ Sl h sv (ts.map str)
theorem head_get {l : List UInt8} (hne : l ≠ []) (c : UInt8) : l.head? = some c ↔ ((l.getD 0 0).toNat : Int) = (c.toNat : Int) := by
  cases l with
  | nil => exact absurd rfl hne
  | cons b r =>
    simp only [List.head?_cons, Option.some.injEq, List.getD_cons_zero]
    constructor
    · rintro rfl; rfl
    · intro e; apply UInt8.toNat_inj.1; omega
theorem method_any {h : Heap} (s : List UInt8) (hl : s.length ≤ 4294967296) : HCalls Tryz.prog 21 #[str s] h fun v h' => Ext h h' ∧ MethV s v h' := by
  refine C.desc_Method_calls (args := [str s]) rfl ?_
  simp only [C.desc_Method_gos, T.tv, seval]
  refine eff_callF rfl ((hasPrefix_any 40 s).mono ?_)
  rintro v1 h1 ⟨rfl, rfl⟩
  by_cases hh : s.head? = some 40
  · have hm : methP s = methE (runP s.length (s.drop 1) [] 0) := by unfold methP; rw [if_pos hh]
    unfold MethV
    rw [hm, decide_eq_true hh]
    have hne : s ≠ [] := by rintro rfl; simp at hh
    have hpos : 1 ≤ s.length := List.length_pos_iff.2 hne
    have g1 : (1 : Int) ≤ (s.length : Int) := by omega
    simp (disch := omega) only [C.desc_Method_gos, T.tv, seval]
    generalize hR : runP s.length (s.drop 1) [] 0 = R
    refine loop_intro [0, 5, 6] (fun m ρ hc => ∃ (l : List UInt8) (ts : List (List UInt8)) (sl : Nat) (out : Value), m = l.length ∧ ρ = [(0, str l), (5, out), (6, .int .i64 (sl : Int))] ∧
        Own hc h1.size 9 1 out ts.length (ts.map str) ∧ Ext h1 hc ∧ l.length + ts.length ≤ s.length ∧ sl ≤ 2 * ts.length ∧ ∃ f, l.length < f ∧ runP f l ts sl = R) ?_ ?_
    · simp only [T.tv, seval]
      exact ⟨_, s.drop 1, [], 0, _, rfl, rfl, Own.nil, Ext.refl _, by simp, by simp, s.length, by simp; omega, hR⟩
    rintro m ρ hc ⟨l, ts, sl, out, rfl, rfl, hown, hx, hlen, hsl, f, hf, hrun⟩
    obtain ⟨f, rfl⟩ : ∃ k, f = k + 1 := ⟨f - 1, by omega⟩
    rw [runP] at hrun
    by_cases he : l = []
    · subst he
      rw [if_pos (.inl rfl)] at hrun
      subst hrun
      simp only [C.desc_Method_gos, T.tv, seval]
      exact ⟨hx, by simp [methE]⟩
    have hlp : (0 : Int) < (l.length : Int) := by have := List.length_pos_iff.2 he; omega
    have hl1 : (1 : Int) ≤ (l.length : Int) := by omega
    by_cases h41 : l.head? = some 41
    · have g2 : ((l.getD 0 0).toNat : Int) = 41 := (head_get he 41).1 h41
      rw [if_pos (.inr h41)] at hrun
      subst hrun
      by_cases h254 : 254 < sl
      · have g3 : (254 : Int) < (sl : Int) := by omega
        simp (disch := omega) only [C.desc_Method_gos, T.tv, seval, he, g2, g3]
        exact ⟨hx, by simp [methE, h254]⟩
      have g3 : ¬ (254 : Int) < (sl : Int) := by omega
      by_cases hV : l.drop 1 = [86]
      · simp (disch := omega) only [C.desc_Method_gos, T.tv, seval, he, g2, g3, hV]
        refine ⟨hx, ?_⟩
        simp only [methE, he, hV, h254, false_or, ne_eq, not_true_eq_false, false_and, if_false]
        exact ⟨_, rfl, hown.sl⟩
      · simp (disch := omega) only [C.desc_Method_gos, T.tv, seval, he, g2, g3, hV]
        refine eff_callF rfl ((field_any (l.drop 1) (by rw [List.length_drop]; omega)).mono ?_)
        rintro v2 h2 ⟨hx2, rfl⟩
        cases hfd : fieldP (l.drop 1) with
        | true =>
          simp (disch := omega) only [C.desc_Method_gos, T.tv, seval]
          refine ⟨hx.trans hx2, ?_⟩
          simp only [methE, he, hV, h254, hfd, false_or, ne_eq, not_false_eq_true, true_and, Bool.true_eq_false, if_false]
          exact ⟨_, rfl, (hown.ext hx2).sl⟩
        | false =>
          simp only [C.desc_Method_gos, T.tv, seval]
          refine ⟨hx.trans hx2, ?_⟩
          rw [show methE (some (ts, sl, l)) = none by unfold methE; simp only []; rw [if_pos (.inr (.inr ⟨hV, hfd⟩))]]
          trivial
    · have g2 : ¬ ((l.getD 0 0).toNat : Int) = 41 := fun x => h41 ((head_get he 41).2 x)
      rw [if_neg (by simp [he, h41])] at hrun
      simp (disch := omega) only [C.desc_Method_gos, T.tv, seval, he, g2]
      refine eff_callF rfl ((next_any l (by omega)).mono ?_)
      rintro v2 h2 ⟨hx2, rfl⟩
      unfold nextP
      cases ho : oneP l 0 with
      | none =>
        rw [ho] at hrun
        subst hrun
        have z0 : ((0 : Nat) : Int) = 0 := rfl
        simp only [Option.getD_none]
        simp only [C.desc_Method_gos, T.tv, seval, z0]
        exact ⟨hx.trans hx2, by simp [methE]⟩
      | some k =>
        rw [ho] at hrun
        have hk := oneP_le ho
        have g4 : ¬ (k : Int) = 0 := by omega
        have g5 : (k : Int) ≤ (l.length : Int) := by omega
        simp only [Option.getD_some]
        simp only [] at hrun
        have hts : (l.take k).length ≤ 4294967296 := by rw [List.length_take]; omega
        have hsp := slotP_le (l.take k)
        generalize hlk : l.take k = q at *
        have w1 : IntKind.i64.wrap ((sl : Int) + (slotP q : Int)) = ((sl + slotP q : Nat) : Int) := by rw [wrap_i64 (by omega) (by omega)]; omega
        simp (disch := omega) only [C.desc_Method_gos, T.tv, seval, g4, hlk]
        refine eff_lits T.slT_65 rfl rfl (by decide) ?_
        simp only [T.tv, seval]
        have hown2 := hown.ext hx2
        have hsz := hx.size
        have hsz2 := hx2.size
        refine eff_append_own T.slT_65 rfl rfl (hown2.push _) rfl (Rd_new (vs := [str q])) (by intro u hu; simp only [List.mem_singleton] at hu; subst hu; rfl) (by omega) (by omega) (by simp; omega) ?_
        intro v' h' hown' hfr _
        simp (disch := omega) only [C.desc_Method_gos, T.tv, seval, hlk]
        refine eff_callF rfl ((slots_any q).mono ?_)
        rintro v3 h3 ⟨rfl, rfl⟩
        simp (disch := omega) only [C.desc_Method_gos, T.tv, seval, w1]
        refine ⟨(l.drop k).length, by rw [List.length_drop]; omega, l.drop k, ts ++ [q], sl + slotP q, v', rfl, rfl, by simpa using hown',
          Ext.app ((hx.trans hx2).trans (Ext.push _ _)) hfr (fun k hk => by have := (hown2.lt k hk).1; simpa using this), by rw [List.length_drop, List.length_append, List.length_singleton]; omega, by simp; omega, f, by rw [List.length_drop]; omega, hrun⟩
  · have hm : methP s = none := by unfold methP; rw [if_neg hh]
    unfold MethV
    rw [hm, decide_eq_false hh]
    simp only [C.desc_Method_gos, T.tv, seval]
    exact Ext.refl _
end Go.Proofs.YtflocjbhcjhenaaGreatDoor
namespace Go.Proofs.YtflocjbhcjhenaaGreatDoor
open Go.Vc
set_option maxRecDepth 100000
theorem rwithout_any {h : Heap} (l cs : List UInt8) (hl : l.length ≤ 4294967296) (hcl : cs.length ≤ 1000) : HCalls Tryz.prog 60 #[str l, str cs] h fun v h' => h' = h ∧ v = .bool (without cs l) := by
  refine C.ref1_without_calls (args := [str l, str cs]) rfl ?_
  simp only [C.ref1_without_gos, T.tv, seval]
  refine loop_intro [0, 1, 5] (fun m ρ hc => ∃ i : Nat, m = l.length - i ∧ i ≤ l.length ∧ ρ = [(0, str l), (1, str cs), (5, .int .i64 (i : Int))] ∧ hc = h ∧ ∀ j, j < i → l.getD j 0 ∉ cs) ?_ ?_
  · simp only [T.tv, seval]
    exact ⟨_, 0, rfl, Nat.zero_le _, rfl, fun j hj => absurd hj (Nat.not_lt_zero _)⟩
  rintro m ρ hc ⟨i, rfl, hi, rfl, rfl, hn⟩
  by_cases hlt : i < l.length
  · have hlt' : (i : Int) < (l.length : Int) := by omega
    have w1 : IntKind.i64.wrap ((i : Int) + 1) = ((i + 1 : Nat) : Int) := by rw [wrap_i64 (by omega) (by omega)]; omega
    simp only [C.ref1_without_gos, T.tv, seval, hlt']
    refine loop_intro [0, 1, 5, 6] (fun m ρ hc' => ∃ k : Nat, m = cs.length - k ∧ k ≤ cs.length ∧ ρ = [(0, str l), (1, str cs), (5, .int .i64 (i : Int)), (6, .int .i64 (k : Int))] ∧ hc' = hc ∧ ∀ j, j < k → cs.getD j 0 ≠ l.getD i 0) ?_ ?_
    · simp only [T.tv, seval]
      exact ⟨_, 0, rfl, Nat.zero_le _, rfl, fun j hj => absurd hj (Nat.not_lt_zero _)⟩
    rintro m ρ hc' ⟨k, rfl, hk, rfl, rfl, hno⟩
    by_cases hkt : k < cs.length
    · have hkt' : (k : Int) < (cs.length : Int) := by omega
      have w2 : IntKind.i64.wrap ((k : Int) + 1) = ((k + 1 : Nat) : Int) := by rw [wrap_i64 (by omega) (by omega)]; omega
      by_cases hb : cs.getD k 0 = l.getD i 0
      · have hb' : ((l.getD i 0).toNat : Int) = ((cs.getD k 0).toNat : Int) := by rw [hb]
        simp (disch := omega) only [C.ref1_without_gos, T.tv, seval, hkt', hb']
        have hin : l.getD i 0 ∈ cs := by rw [← hb]; simp [hkt]
        rw [without, hasAny_true hlt hin]; simp
      · have hb' : ¬ ((l.getD i 0).toNat : Int) = ((cs.getD k 0).toNat : Int) := by
          intro e; apply hb; apply UInt8.toNat_inj.1; omega
        simp (disch := omega) only [C.ref1_without_gos, T.tv, seval, hkt', hb', w2]
        refine ⟨cs.length - (k + 1), by omega, k + 1, rfl, by omega, rfl, fun j hj => ?_⟩
        rcases Nat.lt_or_ge j k with h1 | h1
        · exact hno j h1
        · rw [show j = k by omega]; exact hb
    · have hkt' : ¬ (k : Int) < (cs.length : Int) := by omega
      simp only [C.ref1_without_gos, T.tv, seval, hkt', w1]
      refine ⟨l.length - (i + 1), by omega, i + 1, rfl, by omega, rfl, fun j hj => ?_⟩
      rcases Nat.lt_or_ge j i with h1 | h1
      · exact hn j h1
      · rw [show j = i by omega]
        intro hin
        obtain ⟨q, hq, he⟩ := List.getElem_of_mem hin
        apply hno q (by omega)
        simp only [List.getD_eq_getElem?_getD, List.getElem?_eq_getElem hq, Option.getD_some, he]
  · have hlt' : ¬ (i : Int) < (l.length : Int) := by omega
    simp only [C.ref1_without_gos, T.tv, seval, hlt']
    rw [without, hasAny_false (fun j hj => hn j (by omega))]; simp
theorem rpath_any {h : Heap} (l : List UInt8) (hl : l.length ≤ 4294967296) : HCalls Tryz.prog 58 #[str l] h fun v h' => h' = h ∧ v = .bool (pathP l) := by
  refine C.ref1_path_calls (args := [str l]) rfl ?_
  simp only [C.ref1_path_gos, T.tv, seval]
  refine loop_intro [0, 3, 4] (fun m ρ hc => ∃ i a : Nat, m = l.length + 1 - i ∧ i ≤ l.length + 1 ∧ ρ = [(0, str l), (3, .int .i64 (a : Int)), (4, .int .i64 (i : Int))] ∧ hc = h ∧ a ≤ i ∧
      (i ≤ l.length → pathP l = restP ((l.take i).drop a) (l.drop i)) ∧ (i = l.length + 1 → pathP l = true)) ?_ ?_
  · simp only [T.tv, seval]
    exact ⟨_, 0, 0, rfl, Nat.zero_le _, rfl, Nat.le_refl _, fun _ => by simp [pathP], fun h => by omega⟩
  rintro m ρ hc ⟨i, a, rfl, hi, rfl, rfl, hai, h1, h2⟩
  have w1 : IntKind.i64.wrap ((i : Int) + 1) = ((i + 1 : Nat) : Int) := by rw [wrap_i64 (by omega) (by omega)]; omega
  by_cases hgt : i = l.length + 1
  · have hle : ¬ (i : Int) ≤ (l.length : Int) := by omega
    rw [h2 hgt]
    simp only [C.ref1_path_gos, T.tv, seval, hle]
  have hle : (i : Int) ≤ (l.length : Int) := by omega
  have hp := h1 (by omega)
  have hai' : (a : Int) ≤ (i : Int) := by omega
  by_cases hlt : i < l.length
  · have hlt' : (i : Int) < (l.length : Int) := by omega
    have hne : ¬ (i : Int) = (l.length : Int) := by omega
    have hd : l.drop i = l.getD i 0 :: l.drop (i + 1) := by rw [List.drop_eq_getElem_cons hlt]; simp [hlt]
    rw [hd, restP_cons] at hp
    by_cases hb : l.getD i 0 = 47
    · have hb' : ((l.getD i 0).toNat : Int) = 47 := by rw [hb]; rfl
      rw [if_pos hb] at hp
      simp (disch := omega) only [C.ref1_path_gos, T.tv, seval, hle, hne, hb']
      refine eff_callF rfl ((rwithout_any ((l.take i).drop a) A3 (by simp; omega) (by decide)).mono ?_)
      rintro v1 h3 ⟨rfl, rfl⟩
      cases hw : without A3 ((l.take i).drop a) with
      | false =>
        rw [hw] at hp
        simp only [C.ref1_path_gos, T.tv, seval]
        rw [hp]; rfl
      | true =>
        rw [hw, Bool.true_and] at hp
        simp only [C.ref1_path_gos, T.tv, seval, w1]
        refine ⟨l.length + 1 - (i + 1), by omega, i + 1, i + 1, rfl, by omega, rfl, Nat.le_refl _, fun _ => ?_, fun h => by omega⟩
        have hnil : (l.take (i + 1)).drop (i + 1) = [] := List.drop_eq_nil_of_le (by rw [List.length_take]; omega)
        rw [hp, hnil]
    · have hb' : ¬ ((l.getD i 0).toNat : Int) = 47 := by
        intro e; apply hb; apply UInt8.toNat_inj.1; show _ = 47; omega
      rw [if_neg hb] at hp
      simp (disch := omega) only [C.ref1_path_gos, T.tv, seval, hle, hne, hb', w1]
      refine ⟨l.length + 1 - (i + 1), by omega, i + 1, a, rfl, by omega, rfl, by omega, fun _ => ?_, fun h => by omega⟩
      rw [hp, List.take_add_one]
      congr 1
      rw [List.drop_append, show a - (l.take i).length = 0 by rw [List.length_take]; omega]
      simp [hlt]
  · have hil : (i : Int) = (l.length : Int) := by omega
    obtain rfl : i = l.length := by omega
    rw [List.drop_length, restP_nil, List.take_length] at hp
    simp (disch := omega) only [C.ref1_path_gos, T.tv, seval, hle]
    rw [List.take_length]
    refine eff_callF rfl ((rwithout_any (l.drop a) A3 (by rw [List.length_drop]; omega) (by decide)).mono ?_)
    rintro v1 h3 ⟨rfl, rfl⟩
    cases hw : without A3 (l.drop a) with
    | false =>
      rw [hw] at hp
      simp only [C.ref1_path_gos, T.tv, seval]
      rw [hp]
    | true =>
      rw [hw] at hp
      simp only [C.ref1_path_gos, T.tv, seval, w1]
      exact ⟨l.length + 1 - (l.length + 1), by omega, l.length + 1, l.length + 1, rfl, by omega, rfl, Nat.le_refl _, fun h => by omega, fun _ => hp⟩
def oneV (l : List UInt8) (d : Nat) (v : Value) : Prop := ∃ t r, v = .tuple #[str t, str r, .bool (oneP l d).isSome] ∧ t.length ≤ l.length ∧ ∀ m, oneP l d = some m → t = l.take m ∧ r = l.drop m
theorem ib_at {l : List UInt8} {c : UInt8} {i : Nat} (hi : i < l.length) (hc : l.getD i 0 = c) (hn : ∀ j, j < i → l.getD j 0 ≠ c) : ib l c = (i : Int) := by
  rcases ib_spec c l with ⟨_, h⟩ | ⟨k, hk, h1, h2, h3⟩
  · exact absurd (by rw [← hc]; simp [hi]) h
  · rw [h1]
    rcases Nat.lt_trichotomy k i with h | h | h
    · exact absurd (by simp [h2]) (hn k h)
    · rw [h]
    · refine absurd ?_ h3
      rw [List.mem_take_iff_getElem]
      exact ⟨i, by omega, by simpa [hi] using hc⟩
theorem rone_any : ∀ (l : List UInt8) (d : Nat) {h : Heap}, d ≤ 256 → l.length ≤ 4294967296 →
    HCalls Tryz.prog 59 #[str l, .int .i64 (d : Int)] h fun v h' => h' = h ∧ oneV l d v
  | [], d, h, hd, hl => by
    refine C.ref1_one_calls (args := [str [], .int .i64 (d : Int)]) rfl ?_
    simp only [C.ref1_one_gos, T.tv, seval]
    exact ⟨[], [], rfl, Nat.zero_le _, fun m hm => by cases hm⟩
  | b :: r, d, h, hd, hl => by
    refine C.ref1_one_calls (args := [str (b :: r), .int .i64 (d : Int)]) rfl ?_
    have hr : r.length ≤ 4294967296 := by simp at hl; omega
    have ne : ¬ b :: r = [] := by simp
    have lp : (0 : Int) < (((b :: r).length : Nat) : Int) := by rw [List.length_cons]; omega
    by_cases h255 : 255 < d
    · have g1 : (255 : Int) < (d : Int) := by omega
      simp only [C.ref1_one_gos, T.tv, seval, ne, g1]
      have ho : oneP (b :: r) d = none := by rw [oneP, if_pos h255]
      unfold oneV; rw [ho]
      exact ⟨[], [], rfl, Nat.zero_le _, fun m hm => by cases hm⟩
    have g1 : ¬ (255 : Int) < (d : Int) := by omega
    have b0 : ((b :: r).getD 0 0) = b := rfl
    by_cases hm : b ∈ B8
    · have ho : oneP (b :: r) d = some 1 := by
        rw [oneP, if_neg h255, if_neg (by rintro rfl; revert hm; decide), finP, if_pos hm]
      have hl1 : (1 : Int) ≤ (((b :: r).length : Nat) : Int) := by rw [List.length_cons]; omega
      have fin : ∃ t r', Value.tuple #[str ((b :: r).take 1), str ((b :: r).drop 1), .bool true] = .tuple #[str t, str r', .bool (oneP (b :: r) d).isSome] ∧ t.length ≤ (b :: r).length ∧ ∀ m, oneP (b :: r) d = some m → t = (b :: r).take m ∧ r' = (b :: r).drop m := by
        rw [ho]
        exact ⟨_, _, rfl, by simp, fun m hm => by cases hm; exact ⟨rfl, rfl⟩⟩
      have hb : (b.toNat : Int) = 66 ∨ (b.toNat : Int) = 67 ∨ (b.toNat : Int) = 68 ∨ (b.toNat : Int) = 70 ∨ (b.toNat : Int) = 73 ∨ (b.toNat : Int) = 74 ∨ (b.toNat : Int) = 83 ∨ (b.toNat : Int) = 90 := by
        simp only [B8, List.mem_cons, List.not_mem_nil, or_false] at hm
        rcases hm with rfl | rfl | rfl | rfl | rfl | rfl | rfl | rfl <;> decide
      have q1 : ∀ a c : Int, a = c → True := fun _ _ _ => trivial
      rcases hb with e | e | e | e | e | e | e | e
      all_goals
        simp (disch := omega) only [C.ref1_one_gos, T.tv, seval, ne, g1, b0, e, Int.reduceEq]
        exact fin
    have e66 : ¬ (b.toNat : Int) = 66 := by intro e; apply hm; rw [show b = 66 by apply UInt8.toNat_inj.1; show _ = 66; omega]; decide
    have e67 : ¬ (b.toNat : Int) = 67 := by intro e; apply hm; rw [show b = 67 by apply UInt8.toNat_inj.1; show _ = 67; omega]; decide
    have e68 : ¬ (b.toNat : Int) = 68 := by intro e; apply hm; rw [show b = 68 by apply UInt8.toNat_inj.1; show _ = 68; omega]; decide
    have e70 : ¬ (b.toNat : Int) = 70 := by intro e; apply hm; rw [show b = 70 by apply UInt8.toNat_inj.1; show _ = 70; omega]; decide
    have e73 : ¬ (b.toNat : Int) = 73 := by intro e; apply hm; rw [show b = 73 by apply UInt8.toNat_inj.1; show _ = 73; omega]; decide
    have e74 : ¬ (b.toNat : Int) = 74 := by intro e; apply hm; rw [show b = 74 by apply UInt8.toNat_inj.1; show _ = 74; omega]; decide
    have e83 : ¬ (b.toNat : Int) = 83 := by intro e; apply hm; rw [show b = 83 by apply UInt8.toNat_inj.1; show _ = 83; omega]; decide
    have e90 : ¬ (b.toNat : Int) = 90 := by intro e; apply hm; rw [show b = 90 by apply UInt8.toNat_inj.1; show _ = 90; omega]; decide
    by_cases h91 : b = 91
    · subst h91
      have e91 : (((91 : UInt8).toNat : Nat) : Int) = 91 := rfl
      have hl1 : (1 : Int) ≤ (((91 :: r : List UInt8).length : Nat) : Int) := by rw [List.length_cons]; omega
      have w1 : IntKind.i64.wrap ((d : Int) + 1) = ((d + 1 : Nat) : Int) := by rw [wrap_i64 (by omega) (by omega)]; omega
      have hdr : (91 :: r : List UInt8).drop 1 = r := rfl
      simp (disch := omega) only [C.ref1_one_gos, T.tv, seval, ne, g1, hdr, w1, b0, e91, Int.reduceEq]
      refine eff_callF rfl ((rone_any r (d + 1) (by omega) hr).mono ?_)
      rintro v1 h1 ⟨rfl, t, r', rfl, htl, hv⟩
      have hcat : ([91] : List UInt8).length + t.length ≤ 9223372036854775807 := by rw [List.length_singleton]; omega
      simp only [C.ref1_one_gos, T.tv, seval, bin_str_add hcat]
      have ho : oneP (91 :: r) d = (oneP r (d + 1)).map (· + 1) := by rw [oneP, if_neg h255, if_pos rfl]
      unfold oneV
      rw [ho, Option.isSome_map]
      refine ⟨[91] ++ t, r', rfl, by simp; exact htl, fun m hm => ?_⟩
      cases hq : oneP r (d + 1) with
      | none => rw [hq] at hm; cases hm
      | some k =>
        rw [hq] at hm
        cases hm
        obtain ⟨rfl, rfl⟩ := hv k hq
        exact ⟨rfl, rfl⟩
    have e91 : ¬ (b.toNat : Int) = 91 := by intro e; apply h91; apply UInt8.toNat_inj.1; show _ = 91; omega
    have ho : oneP (b :: r) d = finP (b :: r) := by rw [oneP, if_neg h255, if_neg h91]
    by_cases h76 : b = 76
    · subst h76
      have e76 : (((76 : UInt8).toNat : Nat) : Int) = 76 := rfl
      have hoL : oneP (76 :: r) d = if ib (76 :: r) 59 < 0 then none else if pathP (((76 :: r).take (ib (76 :: r) 59).toNat).drop 1) then some ((ib (76 :: r) 59).toNat + 1) else none := by
        rw [ho, finP, if_neg hm, if_pos rfl]
      have l0 : ((76 :: r : List UInt8).getD 0 0) = 76 := rfl
      have hl1 : 1 ≤ (76 :: r : List UInt8).length := by rw [List.length_cons]; omega
      generalize 76 :: r = l at *
      simp (disch := omega) only [C.ref1_one_gos, T.tv, seval, ne, g1, b0, e76, Int.reduceEq]
      refine loop_intro [0, 10] (fun m ρ hc => ∃ i : Nat, m = l.length - i ∧ 1 ≤ i ∧ i ≤ l.length ∧ ρ = [(0, str l), (10, .int .i64 (i : Int))] ∧ hc = h ∧ ∀ j, j < i → l.getD j 0 ≠ 59) ?_ ?_
      · simp only [T.tv, seval]
        refine ⟨_, 1, rfl, Nat.le_refl _, hl1, rfl, fun j hj => ?_⟩
        rw [show j = 0 by omega, l0]; decide
      rintro m ρ hc ⟨i, rfl, hi1, hi, rfl, rfl, hn⟩
      have w1 : IntKind.i64.wrap ((i : Int) + 1) = ((i + 1 : Nat) : Int) := by rw [wrap_i64 (by omega) (by omega)]; omega
      by_cases hlt : i < l.length
      · have hlt' : (i : Int) < (l.length : Int) := by omega
        by_cases h59 : l.getD i 0 = 59
        · have hb' : ((l.getD i 0).toNat : Int) = 59 := by rw [h59]; rfl
          have k1 : ((i + 1 : Nat) : Int) ≤ (l.length : Int) := by omega
          have k2 : (1 : Int) ≤ (i : Int) := by omega
          have k3 : (i : Int) ≤ (l.length : Int) := by omega
          simp (disch := omega) only [C.ref1_one_gos, T.tv, seval, hlt', hb', w1]
          refine eff_callF rfl ((rpath_any ((l.take i).drop 1) (by rw [List.length_drop, List.length_take]; omega)).mono ?_)
          rintro v1 h1 ⟨rfl, rfl⟩
          have hib := ib_at hlt h59 hn
          have n0 : ¬ (i : Int) < 0 := by omega
          rw [hib, if_neg n0, Int.toNat_natCast] at hoL
          have fin : ∃ t r', Value.tuple #[str (l.take (i + 1)), str (l.drop (i + 1)), .bool (pathP ((l.take i).drop 1))] = .tuple #[str t, str r', .bool (oneP l d).isSome] ∧ t.length ≤ l.length ∧ ∀ m, oneP l d = some m → t = l.take m ∧ r' = l.drop m := by
            rw [hoL]
            cases pathP ((l.take i).drop 1) with
            | false => exact ⟨_, _, rfl, by rw [List.length_take]; omega, fun m hm => by cases hm⟩
            | true => exact ⟨_, _, rfl, by rw [List.length_take]; omega, fun m hm => by cases hm; exact ⟨rfl, rfl⟩⟩
          simp (disch := omega) only [T.tv, w1, seval]
          exact fin
        · have hb' : ¬ ((l.getD i 0).toNat : Int) = 59 := by
            intro e; apply h59; apply UInt8.toNat_inj.1; show _ = 59; omega
          simp (disch := omega) only [C.ref1_one_gos, T.tv, seval, hlt', hb', w1]
          refine ⟨l.length - (i + 1), by omega, i + 1, rfl, by omega, by omega, rfl, fun j hj => ?_⟩
          rcases Nat.lt_or_ge j i with h1 | h1
          · exact hn j h1
          · rw [show j = i by omega]; exact h59
      · have hlt' : ¬ (i : Int) < (l.length : Int) := by omega
        have hno : (59 : UInt8) ∉ l := by
          intro hin
          obtain ⟨q, hq, he⟩ := List.getElem_of_mem hin
          apply hn q (by omega)
          simp only [List.getD_eq_getElem?_getD, List.getElem?_eq_getElem hq, Option.getD_some, he]
        simp only [C.ref1_one_gos, T.tv, seval, hlt']
        unfold oneV
        rw [hoL, ib_none hno]
        exact ⟨[], [], rfl, Nat.zero_le _, fun m hm => by cases hm⟩
    have e76 : ¬ (b.toNat : Int) = 76 := by intro e; apply h76; apply UInt8.toNat_inj.1; show _ = 76; omega
    simp (disch := omega) only [C.ref1_one_gos, T.tv, seval, ne, g1, b0, e66, e67, e68, e70, e73, e74, e83, e90, e91, e76]
    unfold oneV
    rw [ho, finP, if_neg hm, if_neg h76]
    exact ⟨[], [], rfl, Nat.zero_le _, fun m hm => by cases hm⟩
theorem rfield_any {h : Heap} (l : List UInt8) (hl : l.length ≤ 4294967296) : HCalls Tryz.prog 38 #[str l] h fun v h' => h' = h ∧ v = .bool (fieldP l) := by
  refine C.ref1_Field_calls (args := [str l]) rfl ?_
  simp only [C.ref1_Field_gos, T.tv, seval]
  refine eff_callF rfl ((rone_any l 0 (by decide) hl).mono ?_)
  rintro v1 h1 ⟨rfl, t, r, rfl, _, hv⟩
  cases ho : oneP l 0 with
  | none =>
    rw [show fieldP l = false by unfold fieldP; rw [ho]; rfl]
    simp only [C.ref1_Field_gos, T.tv, seval, Option.isSome_none]
  | some m =>
    obtain ⟨rfl, rfl⟩ := hv m ho
    rw [fieldP_rest ho]
    simp only [C.ref1_Field_gos, T.tv, seval]
theorem rslots_any {h : Heap} (l : List UInt8) : HCalls Tryz.prog 46 #[str l] h fun v h' => h' = h ∧ v = .int .i64 (slotP l : Nat) := by
  refine C.ref1_Slots_calls (args := [str l]) rfl ?_
  unfold slotP
  have q1 : ¬ ([74] : List UInt8) = [86] := by decide
  have q2 : ¬ ([68] : List UInt8) = [86] := by decide
  have q3 : ¬ ([86] : List UInt8) = [74] := by decide
  have q4 : ¬ ([86] : List UInt8) = [68] := by decide
  have q5 : ¬ ([68] : List UInt8) = [74] := by decide
  by_cases h1 : l = [86]
  · subst h1
    simp only [C.ref1_Slots_gos, T.tv, ↓reduceIte, Nat.reduceEqDiff, reduceCtorEq, eq_false q3, eq_false q4]
    rfl
  by_cases h2 : l = [74]
  · subst h2
    simp only [C.ref1_Slots_gos, T.tv, seval, eq_false q1]
    rfl
  by_cases h3 : l = [68]
  · subst h3
    simp only [C.ref1_Slots_gos, T.tv, seval, eq_false q2, eq_false q5]
    rfl
  rw [if_neg h1, if_neg (by simp [h2, h3])]
  simp only [C.ref1_Slots_gos, T.tv, ↓reduceIte, Nat.reduceEqDiff, reduceCtorEq, eq_false h1, eq_false h2, eq_false h3]
  rfl
theorem rmethod_any {h : Heap} (s : List UInt8) (hl : s.length ≤ 4294967296) : HCalls Tryz.prog 36 #[str s] h fun v h' => Ext h h' ∧ MethV s v h' := by
  refine C.ref1_Method_calls (args := [str s]) rfl ?_
  by_cases hne : s = []
  · subst hne
    simp only [C.ref1_Method_gos, T.tv, seval]
    exact ⟨Ext.refl _, rfl⟩
  have hpos : 1 ≤ s.length := List.length_pos_iff.2 hne
  have lp0 : (0 : Int) < (s.length : Int) := by omega
  by_cases hh : s.head? = some 40
  · have hm : methP s = methE (runP s.length (s.drop 1) [] 0) := by unfold methP; rw [if_pos hh]
    have g0 : ((s.getD 0 0).toNat : Int) = 40 := (head_get hne 40).1 hh
    unfold MethV
    rw [hm]
    have g1 : (1 : Int) ≤ (s.length : Int) := by omega
    simp (disch := omega) only [C.ref1_Method_gos, T.tv, seval, hne, g0]
    generalize hR : runP s.length (s.drop 1) [] 0 = R
    refine loop_intro [0, 5, 6] (fun m ρ hc => ∃ (l : List UInt8) (ts : List (List UInt8)) (sl : Nat) (out : Value), m = l.length ∧ ρ = [(0, str l), (5, out), (6, .int .i64 (sl : Int))] ∧
        Own hc h.size 9 1 out ts.length (ts.map str) ∧ Ext h hc ∧ l.length + ts.length ≤ s.length ∧ sl ≤ 2 * ts.length ∧ ∃ f, l.length < f ∧ runP f l ts sl = R) ?_ ?_
    · simp only [T.tv, seval]
      exact ⟨_, s.drop 1, [], 0, _, rfl, rfl, Own.nil, Ext.refl _, by simp, by simp, s.length, by simp; omega, hR⟩
    rintro m ρ hc ⟨l, ts, sl, out, rfl, rfl, hown, hx, hlen, hsl, f, hf, hrun⟩
    obtain ⟨f, rfl⟩ : ∃ k, f = k + 1 := ⟨f - 1, by omega⟩
    rw [runP] at hrun
    by_cases he : l = []
    · subst he
      rw [if_pos (.inl rfl)] at hrun
      subst hrun
      simp only [C.ref1_Method_gos, T.tv, seval]
      exact ⟨hx, by simp [methE]⟩
    have hlp : (0 : Int) < (l.length : Int) := by have := List.length_pos_iff.2 he; omega
    have hl1 : (1 : Int) ≤ (l.length : Int) := by omega
    by_cases h41 : l.head? = some 41
    · have g2 : ((l.getD 0 0).toNat : Int) = 41 := (head_get he 41).1 h41
      rw [if_pos (.inr h41)] at hrun
      subst hrun
      by_cases h254 : 254 < sl
      · have g3 : (254 : Int) < (sl : Int) := by omega
        simp (disch := omega) only [C.ref1_Method_gos, T.tv, seval, he, g2, g3]
        exact ⟨hx, by simp [methE, h254]⟩
      have g3 : ¬ (254 : Int) < (sl : Int) := by omega
      have hVV : l = [41, 86] ↔ l.drop 1 = [86] := by
        constructor
        · rintro rfl; rfl
        · intro e
          cases l with
          | nil => exact absurd rfl he
          | cons b r =>
            simp only [List.head?_cons, Option.some.injEq] at h41
            simp only [List.drop_succ_cons, List.drop_zero] at e
            rw [h41, e]
      by_cases hV : l.drop 1 = [86]
      · have hV' := hVV.2 hV
        simp (disch := omega) only [C.ref1_Method_gos, T.tv, seval, he, g2, g3, eq_true hV']
        refine ⟨hx, ?_⟩
        simp only [methE, he, hV, h254, false_or, ne_eq, not_true_eq_false, false_and, if_false]
        exact ⟨_, rfl, hown.sl⟩
      · have hV' : ¬ l = [41, 86] := fun x => hV (hVV.1 x)
        simp (disch := omega) only [C.ref1_Method_gos, T.tv, seval, he, g2, g3, eq_false hV']
        refine eff_callF rfl ((rfield_any (l.drop 1) (by rw [List.length_drop]; omega)).mono ?_)
        rintro v2 h2 ⟨rfl, rfl⟩
        cases hfd : fieldP (l.drop 1) with
        | true =>
          simp (disch := omega) only [C.ref1_Method_gos, T.tv, seval]
          refine ⟨hx, ?_⟩
          simp only [methE, he, hV, h254, hfd, false_or, ne_eq, not_false_eq_true, true_and, Bool.true_eq_false, if_false]
          exact ⟨_, rfl, hown.sl⟩
        | false =>
          simp only [C.ref1_Method_gos, T.tv, seval]
          refine ⟨hx, ?_⟩
          rw [show methE (some (ts, sl, l)) = none by unfold methE; simp only []; rw [if_pos (.inr (.inr ⟨hV, hfd⟩))]]
          trivial
    · have g2 : ¬ ((l.getD 0 0).toNat : Int) = 41 := fun x => h41 ((head_get he 41).2 x)
      rw [if_neg (by simp [he, h41])] at hrun
      simp (disch := omega) only [C.ref1_Method_gos, T.tv, seval, he, g2]
      refine eff_callF rfl ((rone_any l 0 (by decide) (by omega)).mono ?_)
      rintro v2 h2 ⟨rfl, t, r, rfl, _, hv⟩
      cases ho : oneP l 0 with
      | none =>
        rw [ho] at hrun
        subst hrun
        simp only [C.ref1_Method_gos, T.tv, seval, Option.isSome_none]
        exact ⟨hx, by simp [methE]⟩
      | some k =>
        rw [ho] at hrun
        have hk := oneP_le ho
        obtain ⟨ht, hr⟩ := hv k ho
        have hrl : r.length = l.length - k := by rw [hr, List.length_drop]
        simp only [] at hrun
        rw [← ht, ← hr] at hrun
        have hts : t.length ≤ 4294967296 := by rw [ht, List.length_take]; omega
        have hsp := slotP_le t
        have w1 : IntKind.i64.wrap ((sl : Int) + (slotP t : Int)) = ((sl + slotP t : Nat) : Int) := by rw [wrap_i64 (by omega) (by omega)]; omega
        simp only [C.ref1_Method_gos, T.tv, seval]
        refine eff_lits T.slT_65 rfl rfl (by decide) ?_
        simp only [T.tv, seval]
        have hsz := hx.size
        refine eff_append_own T.slT_65 rfl rfl (hown.push _) rfl (Rd_new (vs := [str t])) (by intro u hu; simp only [List.mem_singleton] at hu; subst hu; rfl) (by omega) (by omega) (by simp; omega) ?_
        intro v' h' hown' hfr _
        simp only [C.ref1_Method_gos, T.tv, seval]
        refine eff_callF rfl ((rslots_any t).mono ?_)
        rintro v3 h3 ⟨rfl, rfl⟩
        simp only [C.ref1_Method_gos, T.tv, seval, w1]
        refine ⟨r.length, by omega, r, ts ++ [t], sl + slotP t, v', rfl, rfl, by simpa using hown',
          Ext.app (hx.trans (Ext.push _ _)) hfr (fun k hk => by have := (hown.lt k hk).1; simpa using this), by rw [List.length_append, List.length_singleton]; omega, by simp; omega, f, by omega, hrun⟩
  · have hm : methP s = none := by unfold methP; rw [if_neg hh]
    have g0 : ¬ ((s.getD 0 0).toNat : Int) = 40 := fun x => hh ((head_get hne 40).2 x)
    unfold MethV
    rw [hm]
    simp (disch := omega) only [C.ref1_Method_gos, T.tv, seval, hne, g0]
    exact Ext.refl _
end Go.Proofs.YtflocjbhcjhenaaGreatDoor
namespace Go.Proofs.YtflocjbhcjhenaaGreatDoor
open Go.Vc
set_option maxRecDepth 100000
def mT (s : List UInt8) : List (List UInt8) := match methP s with
  | none => []
  | some x => x.1
def mG (s : List UInt8) : List UInt8 := match methP s with
  | none => []
  | some x => x.2
theorem MethV_parts {s : List UInt8} {v : Value} {h : Heap} (H : MethV s v h) : ∃ sv, v = .tuple #[sv, str (mG s), .bool (methP s).isSome] ∧ Sl h sv ((mT s).map str) := by
  unfold MethV at H
  unfold mG mT
  cases hm : methP s with
  | none =>
    rw [hm] at H
    exact ⟨_, H, none, 0, rfl, .inl rfl⟩
  | some x =>
    rw [hm] at H
    obtain ⟨sv, rfl, hs⟩ := H
    exact ⟨sv, rfl, hs⟩
theorem runP_len : ∀ {f : Nat} {l : List UInt8} {ts : List (List UInt8)} {sl : Nat} {ts' : List (List UInt8)} {sl' : Nat} {l' : List UInt8},
    runP f l ts sl = some (ts', sl', l') → ts'.length ≤ ts.length + l.length
  | 0, _, _, _, _, _, _, h => by cases h
  | f + 1, l, ts, sl, ts', sl', l', h => by
    rw [runP] at h
    split at h
    · cases h; omega
    · cases ho : oneP l 0 with
      | none => rw [ho] at h; cases h
      | some m =>
        rw [ho] at h
        have h1 := runP_len h
        have h2 := oneP_le ho
        rw [List.length_append, List.length_singleton, List.length_drop] at h1
        omega
theorem mT_len (s : List UInt8) : (mT s).length ≤ s.length := by
  unfold mT
  cases hm : methP s with
  | none => simp
  | some x =>
    obtain ⟨ts, g⟩ := x
    unfold methP at hm
    split at hm
    · cases hr : runP s.length (s.drop 1) [] 0 with
      | none => rw [hr] at hm; cases hm
      | some y =>
        obtain ⟨ts', sl', l'⟩ := y
        rw [hr] at hm
        unfold methE at hm
        simp only [] at hm
        split at hm
        · cases hm
        · cases hm
          have := runP_len hr
          rw [List.length_drop, List.length_nil] at this
          simp only []
          omega
    · cases hm
end Go.Proofs.YtflocjbhcjhenaaGreatDoor
namespace Go.Proofs.YtflocjbhcjhenaaGreatDoor
open Go.Vc
set_option maxRecDepth 100000
theorem class_any {h : Heap} (l : List UInt8) (hl : l.length ≤ 4294967296) : HCalls Tryz.prog 20 #[str l] h fun v h' => Ext h h' ∧ v = .bool (clsN l) := by
  refine C.desc_Class_calls (args := [str l]) rfl ?_
  unfold clsN
  simp only [C.desc_Class_gos, T.tv, seval]
  refine eff_callF rfl ((hasPrefix_any 91 l).mono ?_)
  rintro v1 h1 ⟨rfl, rfl⟩
  by_cases hh : l.head? = some 91
  · rw [if_pos hh, decide_eq_true hh]
    simp only [C.desc_Class_gos, T.tv, seval]
    refine eff_callF rfl ((field_any l hl).mono ?_)
    rintro v1 h1 ⟨hx, rfl⟩
    simp only [T.tv, seval]
    exact hx
  · rw [if_neg hh, decide_eq_false hh]
    simp only [C.desc_Class_gos, T.tv, seval]
    refine eff_callF rfl ((path_any l hl).mono ?_)
    rintro v1 h1 ⟨hx, rfl⟩
    simp only [T.tv, seval]
    exact hx
theorem rmember_any {h : Heap} (l : List UInt8) (m : Bool) (hl : l.length ≤ 4294967296) : HCalls Tryz.prog 37 #[str l, .bool m] h fun v h' => h' = h ∧ v = .int .i64 (memP l m : Nat) := by
  refine C.ref1_Member_calls (args := [str l, .bool m]) rfl ?_
  cases m with
  | false =>
    simp only [C.ref1_Member_gos, T.tv, seval]
    refine eff_callF rfl ((rwithout_any l A4 hl (by decide)).mono ?_)
    rintro v1 h1 ⟨rfl, rfl⟩
    unfold memP
    cases without A4 l
    all_goals
      simp only [C.ref1_Member_gos, T.tv, seval]
      rfl
  | true =>
    by_cases e1 : l = [60, 105, 110, 105, 116, 62]
    · simp only [C.ref1_Member_gos, T.tv, seval, eq_true e1]
      simp [memP, e1]
    by_cases e2 : l = [60, 99, 108, 105, 110, 105, 116, 62]
    · simp only [C.ref1_Member_gos, T.tv, seval, eq_false e1, eq_true e2]
      simp [memP, e2]
    have hm : memP l true = if without A4 l = false ∨ without [60, 62] l = false then 0 else 1 := by simp [memP, e1, e2]
    rw [hm]
    simp only [C.ref1_Member_gos, T.tv, seval, eq_false e1, eq_false e2]
    refine eff_callF rfl ((rwithout_any l A4 hl (by decide)).mono ?_)
    rintro v1 h1 ⟨rfl, rfl⟩
    cases hw : without A4 l with
    | false =>
      simp only [C.ref1_Member_gos, T.tv, seval]
      rfl
    | true =>
      simp only [T.tv, seval]
      refine eff_callF rfl ((rwithout_any l [60, 62] hl (by decide)).mono ?_)
      rintro v2 h2 ⟨rfl, rfl⟩
      cases without [60, 62] l
      all_goals
        simp only [C.ref1_Member_gos, T.tv, seval]
        rfl
theorem rclass_any {h : Heap} (l : List UInt8) (hl : l.length ≤ 4294967296) : HCalls Tryz.prog 35 #[str l] h fun v h' => h' = h ∧ v = .bool (clsN l) := by
  refine C.ref1_Class_calls (args := [str l]) rfl ?_
  unfold clsN
  by_cases he : l = []
  · subst he
    rw [if_neg (by simp)]
    simp only [C.ref1_Class_gos, T.tv, seval]
    refine eff_callF rfl ((rpath_any [] hl).mono ?_)
    rintro v1 h1 ⟨rfl, rfl⟩
    simp only [T.tv, seval]
  have lp : (0 : Int) < (l.length : Int) := by have := List.length_pos_iff.2 he; omega
  by_cases hh : l.head? = some 91
  · have g2 : ((l.getD 0 0).toNat : Int) = 91 := (head_get he 91).1 hh
    rw [if_pos hh]
    simp (disch := omega) only [C.ref1_Class_gos, T.tv, seval, he, g2]
    refine eff_callF rfl ((rfield_any l hl).mono ?_)
    rintro v1 h1 ⟨rfl, rfl⟩
    simp only [T.tv, seval]
  · have g2 : ¬ ((l.getD 0 0).toNat : Int) = 91 := fun x => hh ((head_get he 91).2 x)
    rw [if_neg hh]
    simp (disch := omega) only [C.ref1_Class_gos, T.tv, seval, he, g2]
    refine eff_callF rfl ((rpath_any l hl).mono ?_)
    rintro v1 h1 ⟨rfl, rfl⟩
    simp only [T.tv, seval]
end Go.Proofs.YtflocjbhcjhenaaGreatDoor
