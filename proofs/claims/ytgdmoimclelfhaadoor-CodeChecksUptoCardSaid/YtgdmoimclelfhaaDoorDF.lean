/- The reference's names and descriptors. No condition. -/
import Derived.Test.YtgdmoimclelfhaaDoorDE
import Derived.Test.YtgdmoimclelfhaaDoorCd
namespace Go.Proofs.YtgdmoimclelfhaaDoor
open Go.Vc
set_option maxRecDepth 100000
set_option linter.unusedSimpArgs false
set_option linter.unusedVariables false

theorem rwithout_any {h : Heap} (l cs : List UInt8) (hl : l.length ≤ 4294967296) (hcl : cs.length ≤ 1000) : HCalls Tryd.prog 53 #[str l, str cs] h fun v h' => h' = h ∧ v = .bool (without cs l) := by
  refine C.ref1_without_calls (args := [str l, str cs]) rfl ?_
  simp (disch := first | omega | assumption) only [C.ref1_without_gos, T.tv, ↓reduceIte, Nat.reduceEqDiff, reduceCtorEq, Nat.reduceLeDiff, Nat.reducePow, Int.reducePow, Int.reduceToNat, Nat.reduceAdd]
  refine loop_intro [0, 1, 5] (fun m ρ hc => ∃ i : Nat, m = l.length - i ∧ i ≤ l.length ∧ ρ = [(0, str l), (1, str cs), (5, .int .i64 (i : Int))] ∧ hc = h ∧ ∀ j, j < i → l.getD j 0 ∉ cs) ?_ ?_
  · simp (disch := first | omega | assumption) only [C.ref1_without_gos, T.tv, ↓reduceIte, Nat.reduceEqDiff, reduceCtorEq, Nat.reduceLeDiff, Nat.reducePow, Int.reducePow, Int.reduceToNat, Nat.reduceAdd]
    exact ⟨_, 0, rfl, Nat.zero_le _, rfl, fun j hj => absurd hj (Nat.not_lt_zero _)⟩
  rintro m ρ hc ⟨i, rfl, hi, rfl, rfl, hn⟩
  by_cases hlt : i < l.length
  · have hlt' : (i : Int) < (l.length : Int) := by omega
    have w1 : IntKind.i64.wrap ((i : Int) + 1) = ((i + 1 : Nat) : Int) := by rw [wrap_i64 (by omega) (by omega)]; omega
    simp (disch := first | omega | assumption) only [C.ref1_without_gos, T.tv, ↓reduceIte, Nat.reduceEqDiff, reduceCtorEq, Nat.reduceLeDiff, Nat.reducePow, Int.reducePow, Int.reduceToNat, Nat.reduceAdd, hlt', decide_true, decide_false]
    refine loop_intro [0, 1, 5, 6] (fun m ρ hc' => ∃ k : Nat, m = cs.length - k ∧ k ≤ cs.length ∧ ρ = [(0, str l), (1, str cs), (5, .int .i64 (i : Int)), (6, .int .i64 (k : Int))] ∧ hc' = hc ∧ ∀ j, j < k → cs.getD j 0 ≠ l.getD i 0) ?_ ?_
    · simp (disch := first | omega | assumption) only [C.ref1_without_gos, T.tv, ↓reduceIte, Nat.reduceEqDiff, reduceCtorEq, Nat.reduceLeDiff, Nat.reducePow, Int.reducePow, Int.reduceToNat, Nat.reduceAdd]
      exact ⟨_, 0, rfl, Nat.zero_le _, rfl, fun j hj => absurd hj (Nat.not_lt_zero _)⟩
    rintro m ρ hc' ⟨k, rfl, hk, rfl, rfl, hno⟩
    by_cases hkt : k < cs.length
    · have hkt' : (k : Int) < (cs.length : Int) := by omega
      have w2 : IntKind.i64.wrap ((k : Int) + 1) = ((k + 1 : Nat) : Int) := by rw [wrap_i64 (by omega) (by omega)]; omega
      by_cases hb : cs.getD k 0 = l.getD i 0
      · have hb' : ((l.getD i 0).toNat : Int) = ((cs.getD k 0).toNat : Int) := by rw [hb]
        simp (disch := first | omega | assumption) only [C.ref1_without_gos, T.tv, ↓reduceIte, Nat.reduceEqDiff, reduceCtorEq, Nat.reduceLeDiff, Nat.reducePow, Int.reducePow, Int.reduceToNat, Nat.reduceAdd, hlt', hkt', hb', w2, decide_true, decide_false]
        have hin : l.getD i 0 ∈ cs := by rw [← hb]; simp [hkt]
        rw [without, hasAny_true hlt hin]; simp
      · have hb' : ¬ ((l.getD i 0).toNat : Int) = ((cs.getD k 0).toNat : Int) := by
          intro e; apply hb; apply UInt8.toNat_inj.1; omega
        simp (disch := first | omega | assumption) only [C.ref1_without_gos, T.tv, ↓reduceIte, Nat.reduceEqDiff, reduceCtorEq, Nat.reduceLeDiff, Nat.reducePow, Int.reducePow, Int.reduceToNat, Nat.reduceAdd, hlt', hkt', hb', w2, decide_true, decide_false]
        refine ⟨cs.length - (k + 1), by omega, k + 1, rfl, by omega, rfl, fun j hj => ?_⟩
        rcases Nat.lt_or_ge j k with h1 | h1
        · exact hno j h1
        · rw [show j = k by omega]; exact hb
    · have hkt' : ¬ (k : Int) < (cs.length : Int) := by omega
      simp (disch := first | omega | assumption) only [C.ref1_without_gos, T.tv, ↓reduceIte, Nat.reduceEqDiff, reduceCtorEq, Nat.reduceLeDiff, Nat.reducePow, Int.reducePow, Int.reduceToNat, Nat.reduceAdd, hlt', hkt', w1, decide_true, decide_false]
      refine ⟨l.length - (i + 1), by omega, i + 1, rfl, by omega, rfl, fun j hj => ?_⟩
      rcases Nat.lt_or_ge j i with h1 | h1
      · exact hn j h1
      · rw [show j = i by omega]
        intro hin
        obtain ⟨q, hq, he⟩ := List.getElem_of_mem hin
        apply hno q (by omega)
        simp only [List.getD_eq_getElem?_getD, List.getElem?_eq_getElem hq, Option.getD_some, he]
  · have hlt' : ¬ (i : Int) < (l.length : Int) := by omega
    simp (disch := first | omega | assumption) only [C.ref1_without_gos, T.tv, ↓reduceIte, Nat.reduceEqDiff, reduceCtorEq, Nat.reduceLeDiff, Nat.reducePow, Int.reducePow, Int.reduceToNat, Nat.reduceAdd, hlt', decide_true, decide_false]
    rw [without, hasAny_false (fun j hj => hn j (by omega))]; simp

theorem rpath_any {h : Heap} (l : List UInt8) (hl : l.length ≤ 4294967296) : HCalls Tryd.prog 46 #[str l] h fun v h' => h' = h ∧ v = .bool (pathP l) := by
  refine C.ref1_path_calls (args := [str l]) rfl ?_
  simp (disch := first | omega | assumption) only [C.ref1_path_gos, T.tv, ↓reduceIte, Nat.reduceEqDiff, reduceCtorEq, Nat.reduceLeDiff, Nat.reducePow, Int.reducePow, Int.reduceToNat, Nat.reduceAdd]
  refine loop_intro [0, 3, 4] (fun m ρ hc => ∃ i a : Nat, m = l.length + 1 - i ∧ i ≤ l.length + 1 ∧ ρ = [(0, str l), (3, .int .i64 (a : Int)), (4, .int .i64 (i : Int))] ∧ hc = h ∧ a ≤ i ∧
      (i ≤ l.length → pathP l = restP ((l.take i).drop a) (l.drop i)) ∧ (i = l.length + 1 → pathP l = true)) ?_ ?_
  · simp (disch := first | omega | assumption) only [C.ref1_path_gos, T.tv, ↓reduceIte, Nat.reduceEqDiff, reduceCtorEq, Nat.reduceLeDiff, Nat.reducePow, Int.reducePow, Int.reduceToNat, Nat.reduceAdd]
    exact ⟨_, 0, 0, rfl, Nat.zero_le _, rfl, Nat.le_refl _, fun _ => by simp [pathP], fun h => by omega⟩
  rintro m ρ hc ⟨i, a, rfl, hi, rfl, rfl, hai, h1, h2⟩
  have w1 : IntKind.i64.wrap ((i : Int) + 1) = ((i + 1 : Nat) : Int) := by rw [wrap_i64 (by omega) (by omega)]; omega
  by_cases hgt : i = l.length + 1
  · have hle : ¬ (i : Int) ≤ (l.length : Int) := by omega
    rw [h2 hgt]
    simp (disch := first | omega | assumption) only [C.ref1_path_gos, T.tv, ↓reduceIte, Nat.reduceEqDiff, reduceCtorEq, Nat.reduceLeDiff, Nat.reducePow, Int.reducePow, Int.reduceToNat, Nat.reduceAdd, hle, decide_false]
  have hle : (i : Int) ≤ (l.length : Int) := by omega
  have hp := h1 (by omega)
  have hai' : (a : Int) ≤ (i : Int) := by omega
  by_cases hlt : i < l.length
  · have hlt' : (i : Int) < (l.length : Int) := by omega
    have hne : ¬ (i : Int) = (l.length : Int) := by omega
    have hd : l.drop i = l.getD i 0 :: l.drop (i + 1) := by rw [List.drop_eq_getElem_cons hlt]; simp [hlt]
    rw [hd, restP_cons] at hp
    by_cases hb : l.getD i 0 = 47
    · have hb' : ((l.getD i 0).toNat : Int) = 47 := by rw [hb]; rfl
      rw [if_pos hb] at hp
      simp (disch := first | omega | assumption) only [C.ref1_path_gos, T.tv, ↓reduceIte, Nat.reduceEqDiff, reduceCtorEq, Nat.reduceLeDiff, Nat.reducePow, Int.reducePow, Int.reduceToNat, Nat.reduceAdd, hle, hlt', hne, hb', hai', w1, decide_true, decide_false]
      refine eff_callF rfl ((rwithout_any ((l.take i).drop a) A3 (by simp; omega) (by decide)).mono ?_)
      rintro v1 h3 ⟨rfl, rfl⟩
      cases hw : without A3 ((l.take i).drop a) with
      | false =>
        rw [hw] at hp
        simp (disch := first | omega | assumption) only [C.ref1_path_gos, T.tv, ↓reduceIte, Nat.reduceEqDiff, reduceCtorEq, Nat.reduceLeDiff, Nat.reducePow, Int.reducePow, Int.reduceToNat, Nat.reduceAdd]
        rw [hp]; rfl
      | true =>
        rw [hw, Bool.true_and] at hp
        simp (disch := first | omega | assumption) only [C.ref1_path_gos, T.tv, ↓reduceIte, Nat.reduceEqDiff, reduceCtorEq, Nat.reduceLeDiff, Nat.reducePow, Int.reducePow, Int.reduceToNat, Nat.reduceAdd, w1]
        refine ⟨l.length + 1 - (i + 1), by omega, i + 1, i + 1, rfl, by omega, rfl, Nat.le_refl _, fun _ => ?_, fun h => by omega⟩
        have hnil : (l.take (i + 1)).drop (i + 1) = [] := List.drop_eq_nil_of_le (by rw [List.length_take]; omega)
        rw [hp, hnil]
    · have hb' : ¬ ((l.getD i 0).toNat : Int) = 47 := by
        intro e; apply hb; apply UInt8.toNat_inj.1; show _ = 47; omega
      rw [if_neg hb] at hp
      simp (disch := first | omega | assumption) only [C.ref1_path_gos, T.tv, ↓reduceIte, Nat.reduceEqDiff, reduceCtorEq, Nat.reduceLeDiff, Nat.reducePow, Int.reducePow, Int.reduceToNat, Nat.reduceAdd, hle, hlt', hne, hb', hai', w1, decide_true, decide_false]
      refine ⟨l.length + 1 - (i + 1), by omega, i + 1, a, rfl, by omega, rfl, by omega, fun _ => ?_, fun h => by omega⟩
      rw [hp, List.take_add_one]
      congr 1
      rw [List.drop_append, show a - (l.take i).length = 0 by rw [List.length_take]; omega]
      simp [hlt]
  · have hil : (i : Int) = (l.length : Int) := by omega
    obtain rfl : i = l.length := by omega
    rw [List.drop_length, restP_nil, List.take_length] at hp
    simp (disch := first | omega | assumption) only [C.ref1_path_gos, T.tv, ↓reduceIte, Nat.reduceEqDiff, reduceCtorEq, Nat.reduceLeDiff, Nat.reducePow, Int.reducePow, Int.reduceToNat, Nat.reduceAdd, hai', hle, w1, decide_true, decide_false]
    rw [List.take_length]
    refine eff_callF rfl ((rwithout_any (l.drop a) A3 (by rw [List.length_drop]; omega) (by decide)).mono ?_)
    rintro v1 h3 ⟨rfl, rfl⟩
    cases hw : without A3 (l.drop a) with
    | false =>
      rw [hw] at hp
      simp (disch := first | omega | assumption) only [C.ref1_path_gos, T.tv, ↓reduceIte, Nat.reduceEqDiff, reduceCtorEq, Nat.reduceLeDiff, Nat.reducePow, Int.reducePow, Int.reduceToNat, Nat.reduceAdd]
      rw [hp]
    | true =>
      rw [hw] at hp
      simp (disch := first | omega | assumption) only [C.ref1_path_gos, T.tv, ↓reduceIte, Nat.reduceEqDiff, reduceCtorEq, Nat.reduceLeDiff, Nat.reducePow, Int.reducePow, Int.reduceToNat, Nat.reduceAdd, w1]
      exact ⟨l.length + 1 - (l.length + 1), by omega, l.length + 1, l.length + 1, rfl, by omega, rfl, Nat.le_refl _, fun h => by omega, fun _ => hp⟩

/-- What the reference's one gives: the descriptor in front, what is behind. -/
def oneV (l : List UInt8) (d : Nat) (v : Value) : Prop := ∃ t r, v = .tuple #[str t, str r, .bool (oneP l d).isSome] ∧ t.length ≤ l.length ∧ ∀ m, oneP l d = some m → t = l.take m ∧ r = l.drop m

theorem ib_at {l : List UInt8} {c : UInt8} {i : Nat} (hi : i < l.length) (hc : l.getD i 0 = c) (hn : ∀ j, j < i → l.getD j 0 ≠ c) : ib l c = (i : Int) := by
  rcases ib_spec c l with ⟨_, h⟩ | ⟨k, hk, h1, h2, h3⟩
  · exact absurd (by rw [← hc]; simp [hi]) h
  · rw [h1]
    rcases Nat.lt_trichotomy k i with h | h | h
    · exact absurd (by simp [h2]) (hn k h)
    · rw [h]
    · refine absurd ?_ h3
      rw [List.mem_take_iff_getElem]
      exact ⟨i, by omega, by simpa [hi] using hc⟩
theorem rone_any : ∀ (l : List UInt8) (d : Nat) {h : Heap}, d ≤ 256 → l.length ≤ 4294967296 →
    HCalls Tryd.prog 40 #[str l, .int .i64 (d : Int)] h fun v h' => h' = h ∧ oneV l d v
  | [], d, h, hd, hl => by
    refine C.ref1_one_calls (args := [str [], .int .i64 (d : Int)]) rfl ?_
    simp (disch := first | omega | assumption) only [C.ref1_one_gos, T.tv, ↓reduceIte, Nat.reduceEqDiff, reduceCtorEq, Nat.reduceLeDiff, Nat.reducePow, Int.reducePow, Int.reduceToNat, Nat.reduceAdd, decide_true, decide_false]
    exact ⟨[], [], rfl, Nat.zero_le _, fun m hm => by cases hm⟩
  | b :: r, d, h, hd, hl => by
    refine C.ref1_one_calls (args := [str (b :: r), .int .i64 (d : Int)]) rfl ?_
    have hr : r.length ≤ 4294967296 := by simp at hl; omega
    have ne : ¬ b :: r = [] := by simp
    have lp : (0 : Int) < (((b :: r).length : Nat) : Int) := by rw [List.length_cons]; omega
    by_cases h255 : 255 < d
    · have g1 : (255 : Int) < (d : Int) := by omega
      simp (disch := first | omega | assumption) only [C.ref1_one_gos, T.tv, ↓reduceIte, Nat.reduceEqDiff, reduceCtorEq, Nat.reduceLeDiff, Nat.reducePow, Int.reducePow, Int.reduceToNat, Nat.reduceAdd, ne, g1, decide_true, decide_false]
      have ho : oneP (b :: r) d = none := by rw [oneP, if_pos h255]
      unfold oneV; rw [ho]
      exact ⟨[], [], rfl, Nat.zero_le _, fun m hm => by cases hm⟩
    have g1 : ¬ (255 : Int) < (d : Int) := by omega
    have b0 : ((b :: r).getD 0 0) = b := rfl
    by_cases hm : b ∈ B8
    · have ho : oneP (b :: r) d = some 1 := by
        rw [oneP, if_neg h255, if_neg (by rintro rfl; revert hm; decide), finP, if_pos hm]
      have hl1 : (1 : Int) ≤ (((b :: r).length : Nat) : Int) := by rw [List.length_cons]; omega
      have fin : ∃ t r', Value.tuple #[str ((b :: r).take 1), str ((b :: r).drop 1), .bool true] = .tuple #[str t, str r', .bool (oneP (b :: r) d).isSome] ∧ t.length ≤ (b :: r).length ∧ ∀ m, oneP (b :: r) d = some m → t = (b :: r).take m ∧ r' = (b :: r).drop m := by
        rw [ho]
        exact ⟨_, _, rfl, by simp, fun m hm => by cases hm; exact ⟨rfl, rfl⟩⟩
      have hb : (b.toNat : Int) = 66 ∨ (b.toNat : Int) = 67 ∨ (b.toNat : Int) = 68 ∨ (b.toNat : Int) = 70 ∨ (b.toNat : Int) = 73 ∨ (b.toNat : Int) = 74 ∨ (b.toNat : Int) = 83 ∨ (b.toNat : Int) = 90 := by
        simp only [B8, List.mem_cons, List.not_mem_nil, or_false] at hm
        rcases hm with rfl | rfl | rfl | rfl | rfl | rfl | rfl | rfl <;> decide
      have q1 : ∀ a c : Int, a = c → True := fun _ _ _ => trivial
      rcases hb with e | e | e | e | e | e | e | e
      all_goals
        simp (disch := first | omega | assumption) only [C.ref1_one_gos, T.tv, ↓reduceIte, Nat.reduceEqDiff, reduceCtorEq, Nat.reduceLeDiff, Nat.reducePow, Int.reducePow, Int.reduceToNat, Nat.reduceAdd, ne, g1, lp, hl1, b0, e, Int.reduceEq, decide_true, decide_false]
        exact fin
    have e66 : ¬ (b.toNat : Int) = 66 := by intro e; apply hm; rw [show b = 66 by apply UInt8.toNat_inj.1; show _ = 66; omega]; decide
    have e67 : ¬ (b.toNat : Int) = 67 := by intro e; apply hm; rw [show b = 67 by apply UInt8.toNat_inj.1; show _ = 67; omega]; decide
    have e68 : ¬ (b.toNat : Int) = 68 := by intro e; apply hm; rw [show b = 68 by apply UInt8.toNat_inj.1; show _ = 68; omega]; decide
    have e70 : ¬ (b.toNat : Int) = 70 := by intro e; apply hm; rw [show b = 70 by apply UInt8.toNat_inj.1; show _ = 70; omega]; decide
    have e73 : ¬ (b.toNat : Int) = 73 := by intro e; apply hm; rw [show b = 73 by apply UInt8.toNat_inj.1; show _ = 73; omega]; decide
    have e74 : ¬ (b.toNat : Int) = 74 := by intro e; apply hm; rw [show b = 74 by apply UInt8.toNat_inj.1; show _ = 74; omega]; decide
    have e83 : ¬ (b.toNat : Int) = 83 := by intro e; apply hm; rw [show b = 83 by apply UInt8.toNat_inj.1; show _ = 83; omega]; decide
    have e90 : ¬ (b.toNat : Int) = 90 := by intro e; apply hm; rw [show b = 90 by apply UInt8.toNat_inj.1; show _ = 90; omega]; decide
    by_cases h91 : b = 91
    · subst h91
      have e91 : (((91 : UInt8).toNat : Nat) : Int) = 91 := rfl
      have hl1 : (1 : Int) ≤ (((91 :: r : List UInt8).length : Nat) : Int) := by rw [List.length_cons]; omega
      have w1 : IntKind.i64.wrap ((d : Int) + 1) = ((d + 1 : Nat) : Int) := by rw [wrap_i64 (by omega) (by omega)]; omega
      have hdr : (91 :: r : List UInt8).drop 1 = r := rfl
      simp (disch := first | omega | assumption) only [C.ref1_one_gos, T.tv, ↓reduceIte, Nat.reduceEqDiff, reduceCtorEq, Nat.reduceLeDiff, Nat.reducePow, Int.reducePow, Int.reduceToNat, Nat.reduceAdd, ne, g1, lp, hl1, hdr, w1, b0, e91, Int.reduceEq, decide_true, decide_false]
      refine eff_callF rfl ((rone_any r (d + 1) (by omega) hr).mono ?_)
      rintro v1 h1 ⟨rfl, t, r', rfl, htl, hv⟩
      have hcat : ([91] : List UInt8).length + t.length ≤ 9223372036854775807 := by rw [List.length_singleton]; omega
      simp (disch := first | omega | assumption) only [C.ref1_one_gos, T.tv, ↓reduceIte, Nat.reduceEqDiff, reduceCtorEq, Nat.reduceLeDiff, Nat.reducePow, Int.reducePow, Int.reduceToNat, Nat.reduceAdd, bin_str_add hcat]
      have ho : oneP (91 :: r) d = (oneP r (d + 1)).map (· + 1) := by rw [oneP, if_neg h255, if_pos rfl]
      unfold oneV
      rw [ho, Option.isSome_map]
      refine ⟨[91] ++ t, r', rfl, by simp; exact htl, fun m hm => ?_⟩
      cases hq : oneP r (d + 1) with
      | none => rw [hq] at hm; cases hm
      | some k =>
        rw [hq] at hm
        cases hm
        obtain ⟨rfl, rfl⟩ := hv k hq
        exact ⟨rfl, rfl⟩
    have e91 : ¬ (b.toNat : Int) = 91 := by intro e; apply h91; apply UInt8.toNat_inj.1; show _ = 91; omega
    have ho : oneP (b :: r) d = finP (b :: r) := by rw [oneP, if_neg h255, if_neg h91]
    by_cases h76 : b = 76
    · subst h76
      have e76 : (((76 : UInt8).toNat : Nat) : Int) = 76 := rfl
      have hoL : oneP (76 :: r) d = if ib (76 :: r) 59 < 0 then none else if pathP (((76 :: r).take (ib (76 :: r) 59).toNat).drop 1) then some ((ib (76 :: r) 59).toNat + 1) else none := by
        rw [ho, finP, if_neg hm, if_pos rfl]
      have l0 : ((76 :: r : List UInt8).getD 0 0) = 76 := rfl
      have hl1 : 1 ≤ (76 :: r : List UInt8).length := by rw [List.length_cons]; omega
      generalize 76 :: r = l at *
      simp (disch := first | omega | assumption) only [C.ref1_one_gos, T.tv, ↓reduceIte, Nat.reduceEqDiff, reduceCtorEq, Nat.reduceLeDiff, Nat.reducePow, Int.reducePow, Int.reduceToNat, Nat.reduceAdd, ne, g1, lp, b0, e76, Int.reduceEq, decide_true, decide_false]
      refine loop_intro [0, 10] (fun m ρ hc => ∃ i : Nat, m = l.length - i ∧ 1 ≤ i ∧ i ≤ l.length ∧ ρ = [(0, str l), (10, .int .i64 (i : Int))] ∧ hc = h ∧ ∀ j, j < i → l.getD j 0 ≠ 59) ?_ ?_
      · simp (disch := first | omega | assumption) only [C.ref1_one_gos, T.tv, ↓reduceIte, Nat.reduceEqDiff, reduceCtorEq, Nat.reduceLeDiff, Nat.reducePow, Int.reducePow, Int.reduceToNat, Nat.reduceAdd]
        refine ⟨_, 1, rfl, Nat.le_refl _, hl1, rfl, fun j hj => ?_⟩
        rw [show j = 0 by omega, l0]; decide
      rintro m ρ hc ⟨i, rfl, hi1, hi, rfl, rfl, hn⟩
      have w1 : IntKind.i64.wrap ((i : Int) + 1) = ((i + 1 : Nat) : Int) := by rw [wrap_i64 (by omega) (by omega)]; omega
      by_cases hlt : i < l.length
      · have hlt' : (i : Int) < (l.length : Int) := by omega
        by_cases h59 : l.getD i 0 = 59
        · have hb' : ((l.getD i 0).toNat : Int) = 59 := by rw [h59]; rfl
          have k1 : ((i + 1 : Nat) : Int) ≤ (l.length : Int) := by omega
          have k2 : (1 : Int) ≤ (i : Int) := by omega
          have k3 : (i : Int) ≤ (l.length : Int) := by omega
          simp (disch := first | omega | assumption) only [C.ref1_one_gos, T.tv, ↓reduceIte, Nat.reduceEqDiff, reduceCtorEq, Nat.reduceLeDiff, Nat.reducePow, Int.reducePow, Int.reduceToNat, Nat.reduceAdd, hlt', hb', w1, k1, k2, k3, decide_true, decide_false]
          refine eff_callF rfl ((rpath_any ((l.take i).drop 1) (by rw [List.length_drop, List.length_take]; omega)).mono ?_)
          rintro v1 h1 ⟨rfl, rfl⟩
          have hib := ib_at hlt h59 hn
          have n0 : ¬ (i : Int) < 0 := by omega
          rw [hib, if_neg n0, Int.toNat_natCast] at hoL
          have fin : ∃ t r', Value.tuple #[str (l.take (i + 1)), str (l.drop (i + 1)), .bool (pathP ((l.take i).drop 1))] = .tuple #[str t, str r', .bool (oneP l d).isSome] ∧ t.length ≤ l.length ∧ ∀ m, oneP l d = some m → t = l.take m ∧ r' = l.drop m := by
            rw [hoL]
            cases pathP ((l.take i).drop 1) with
            | false => exact ⟨_, _, rfl, by rw [List.length_take]; omega, fun m hm => by cases hm⟩
            | true => exact ⟨_, _, rfl, by rw [List.length_take]; omega, fun m hm => by cases hm; exact ⟨rfl, rfl⟩⟩
          simp (disch := first | omega | assumption) only [C.ref1_one_gos, T.tv, ↓reduceIte, Nat.reduceEqDiff, reduceCtorEq, Nat.reduceLeDiff, Nat.reducePow, Int.reducePow, Int.reduceToNat, Nat.reduceAdd, hlt', hb', w1, k1, k2, k3, decide_true, decide_false]
          exact fin
        · have hb' : ¬ ((l.getD i 0).toNat : Int) = 59 := by
            intro e; apply h59; apply UInt8.toNat_inj.1; show _ = 59; omega
          simp (disch := first | omega | assumption) only [C.ref1_one_gos, T.tv, ↓reduceIte, Nat.reduceEqDiff, reduceCtorEq, Nat.reduceLeDiff, Nat.reducePow, Int.reducePow, Int.reduceToNat, Nat.reduceAdd, hlt', hb', w1, decide_true, decide_false]
          refine ⟨l.length - (i + 1), by omega, i + 1, rfl, by omega, by omega, rfl, fun j hj => ?_⟩
          rcases Nat.lt_or_ge j i with h1 | h1
          · exact hn j h1
          · rw [show j = i by omega]; exact h59
      · have hlt' : ¬ (i : Int) < (l.length : Int) := by omega
        have hno : (59 : UInt8) ∉ l := by
          intro hin
          obtain ⟨q, hq, he⟩ := List.getElem_of_mem hin
          apply hn q (by omega)
          simp only [List.getD_eq_getElem?_getD, List.getElem?_eq_getElem hq, Option.getD_some, he]
        simp (disch := first | omega | assumption) only [C.ref1_one_gos, T.tv, ↓reduceIte, Nat.reduceEqDiff, reduceCtorEq, Nat.reduceLeDiff, Nat.reducePow, Int.reducePow, Int.reduceToNat, Nat.reduceAdd, hlt', decide_true, decide_false]
        unfold oneV
        rw [hoL, ib_none hno]
        exact ⟨[], [], rfl, Nat.zero_le _, fun m hm => by cases hm⟩
    have e76 : ¬ (b.toNat : Int) = 76 := by intro e; apply h76; apply UInt8.toNat_inj.1; show _ = 76; omega
    simp (disch := first | omega | assumption) only [C.ref1_one_gos, T.tv, ↓reduceIte, Nat.reduceEqDiff, reduceCtorEq, Nat.reduceLeDiff, Nat.reducePow, Int.reducePow, Int.reduceToNat, Nat.reduceAdd, ne, g1, lp, b0, e66, e67, e68, e70, e73, e74, e83, e90, e91, e76, decide_true, decide_false]
    unfold oneV
    rw [ho, finP, if_neg hm, if_neg h76]
    exact ⟨[], [], rfl, Nat.zero_le _, fun m hm => by cases hm⟩

theorem rfield_any {h : Heap} (l : List UInt8) (hl : l.length ≤ 4294967296) : HCalls Tryd.prog 41 #[str l] h fun v h' => h' = h ∧ v = .bool (fieldP l) := by
  refine C.ref1_Field_calls (args := [str l]) rfl ?_
  simp (disch := first | omega | assumption) only [C.ref1_Field_gos, T.tv, ↓reduceIte, Nat.reduceEqDiff, reduceCtorEq, Nat.reduceLeDiff, Nat.reducePow, Int.reducePow, Int.reduceToNat, Nat.reduceAdd]
  refine eff_callF rfl ((rone_any l 0 (by decide) hl).mono ?_)
  rintro v1 h1 ⟨rfl, t, r, rfl, _, hv⟩
  cases ho : oneP l 0 with
  | none =>
    rw [show fieldP l = false by unfold fieldP; rw [ho]; rfl]
    simp (disch := first | omega | assumption) only [C.ref1_Field_gos, T.tv, ↓reduceIte, Nat.reduceEqDiff, reduceCtorEq, Nat.reduceLeDiff, Nat.reducePow, Int.reducePow, Int.reduceToNat, Nat.reduceAdd, Option.isSome_none]
  | some m =>
    obtain ⟨rfl, rfl⟩ := hv m ho
    rw [fieldP_rest ho]
    simp (disch := first | omega | assumption) only [C.ref1_Field_gos, T.tv, ↓reduceIte, Nat.reduceEqDiff, reduceCtorEq, Nat.reduceLeDiff, Nat.reducePow, Int.reducePow, Int.reduceToNat, Nat.reduceAdd]
theorem rslots_any {h : Heap} (l : List UInt8) : HCalls Tryd.prog 34 #[str l] h fun v h' => h' = h ∧ v = .int .i64 (slotP l : Nat) := by
  refine C.ref1_Slots_calls (args := [str l]) rfl ?_
  unfold slotP
  have q1 : ¬ ([74] : List UInt8) = [86] := by decide
  have q2 : ¬ ([68] : List UInt8) = [86] := by decide
  have q3 : ¬ ([86] : List UInt8) = [74] := by decide
  have q4 : ¬ ([86] : List UInt8) = [68] := by decide
  have q5 : ¬ ([68] : List UInt8) = [74] := by decide
  by_cases h1 : l = [86]
  · subst h1
    simp (disch := first | omega | assumption) only [C.ref1_Slots_gos, T.tv, ↓reduceIte, Nat.reduceEqDiff, reduceCtorEq, Nat.reduceLeDiff, Nat.reducePow, Int.reducePow, Int.reduceToNat, Nat.reduceAdd, eq_false q1, eq_false q2, eq_false q3, eq_false q4, decide_true, decide_false]
    rfl
  by_cases h2 : l = [74]
  · subst h2
    simp (disch := first | omega | assumption) only [C.ref1_Slots_gos, T.tv, ↓reduceIte, Nat.reduceEqDiff, reduceCtorEq, Nat.reduceLeDiff, Nat.reducePow, Int.reducePow, Int.reduceToNat, Nat.reduceAdd, eq_false q1, eq_false q2, eq_false q3, eq_false q4, decide_true, decide_false]
    rfl
  by_cases h3 : l = [68]
  · subst h3
    simp (disch := first | omega | assumption) only [C.ref1_Slots_gos, T.tv, ↓reduceIte, Nat.reduceEqDiff, reduceCtorEq, Nat.reduceLeDiff, Nat.reducePow, Int.reducePow, Int.reduceToNat, Nat.reduceAdd, eq_false q1, eq_false q2, eq_false q5, eq_false q4, decide_true, decide_false]
    rfl
  rw [if_neg h1, if_neg (by simp [h2, h3])]
  simp (disch := first | omega | assumption) only [C.ref1_Slots_gos, T.tv, ↓reduceIte, Nat.reduceEqDiff, reduceCtorEq, Nat.reduceLeDiff, Nat.reducePow, Int.reducePow, Int.reduceToNat, Nat.reduceAdd, h1, h2, h3, eq_false h1, eq_false h2, eq_false h3, decide_false]
  rfl

theorem rmethod_any {h : Heap} (s : List UInt8) (hl : s.length ≤ 4294967296) : HCalls Tryd.prog 33 #[str s] h fun v h' => Ext h h' ∧ MethV s v h' := by
  refine C.ref1_Method_calls (args := [str s]) rfl ?_
  by_cases hne : s = []
  · subst hne
    simp (disch := first | omega | assumption) only [C.ref1_Method_gos, T.tv, ↓reduceIte, Nat.reduceEqDiff, reduceCtorEq, Nat.reduceLeDiff, Nat.reducePow, Int.reducePow, Int.reduceToNat, Nat.reduceAdd, decide_true, decide_false]
    exact ⟨Ext.refl _, rfl⟩
  have hpos : 1 ≤ s.length := List.length_pos_iff.2 hne
  have lp0 : (0 : Int) < (s.length : Int) := by omega
  by_cases hh : s.head? = some 40
  · have hm : methP s = methE (runP s.length (s.drop 1) [] 0) := by unfold methP; rw [if_pos hh]
    have g0 : ((s.getD 0 0).toNat : Int) = 40 := (head_get hne 40).1 hh
    unfold MethV
    rw [hm]
    have g1 : (1 : Int) ≤ (s.length : Int) := by omega
    simp (disch := first | omega | assumption) only [C.ref1_Method_gos, T.tv, ↓reduceIte, Nat.reduceEqDiff, reduceCtorEq, Nat.reduceLeDiff, Nat.reducePow, Int.reducePow, Int.reduceToNat, Nat.reduceAdd, hne, lp0, g0, g1, decide_true, decide_false]
    generalize hR : runP s.length (s.drop 1) [] 0 = R
    refine loop_intro [0, 5, 6] (fun m ρ hc => ∃ (l : List UInt8) (ts : List (List UInt8)) (sl : Nat) (out : Value), m = l.length ∧ ρ = [(0, str l), (5, out), (6, .int .i64 (sl : Int))] ∧
        Own hc h.size 9 1 out ts.length (ts.map str) ∧ Ext h hc ∧ l.length + ts.length ≤ s.length ∧ sl ≤ 2 * ts.length ∧ ∃ f, l.length < f ∧ runP f l ts sl = R) ?_ ?_
    · simp (disch := first | omega | assumption) only [C.ref1_Method_gos, T.tv, ↓reduceIte, Nat.reduceEqDiff, reduceCtorEq, Nat.reduceLeDiff, Nat.reducePow, Int.reducePow, Int.reduceToNat, Nat.reduceAdd]
      exact ⟨_, s.drop 1, [], 0, _, rfl, rfl, Own.nil, Ext.refl _, by simp, by simp, s.length, by simp; omega, hR⟩
    rintro m ρ hc ⟨l, ts, sl, out, rfl, rfl, hown, hx, hlen, hsl, f, hf, hrun⟩
    obtain ⟨f, rfl⟩ : ∃ k, f = k + 1 := ⟨f - 1, by omega⟩
    rw [runP] at hrun
    by_cases he : l = []
    · subst he
      rw [if_pos (.inl rfl)] at hrun
      subst hrun
      simp (disch := first | omega | assumption) only [C.ref1_Method_gos, T.tv, ↓reduceIte, Nat.reduceEqDiff, reduceCtorEq, Nat.reduceLeDiff, Nat.reducePow, Int.reducePow, Int.reduceToNat, Nat.reduceAdd, decide_true, decide_false]
      exact ⟨hx, by simp [methE]⟩
    have hlp : (0 : Int) < (l.length : Int) := by have := List.length_pos_iff.2 he; omega
    have hl1 : (1 : Int) ≤ (l.length : Int) := by omega
    by_cases h41 : l.head? = some 41
    · have g2 : ((l.getD 0 0).toNat : Int) = 41 := (head_get he 41).1 h41
      rw [if_pos (.inr h41)] at hrun
      subst hrun
      by_cases h254 : 254 < sl
      · have g3 : (254 : Int) < (sl : Int) := by omega
        simp (disch := first | omega | assumption) only [C.ref1_Method_gos, T.tv, ↓reduceIte, Nat.reduceEqDiff, reduceCtorEq, Nat.reduceLeDiff, Nat.reducePow, Int.reducePow, Int.reduceToNat, Nat.reduceAdd, he, hlp, g2, g3, decide_true, decide_false]
        exact ⟨hx, by simp [methE, h254]⟩
      have g3 : ¬ (254 : Int) < (sl : Int) := by omega
      have hVV : l = [41, 86] ↔ l.drop 1 = [86] := by
        constructor
        · rintro rfl; rfl
        · intro e
          cases l with
          | nil => exact absurd rfl he
          | cons b r =>
            simp only [List.head?_cons, Option.some.injEq] at h41
            simp only [List.drop_succ_cons, List.drop_zero] at e
            rw [h41, e]
      by_cases hV : l.drop 1 = [86]
      · have hV' := hVV.2 hV
        simp (disch := first | omega | assumption) only [C.ref1_Method_gos, T.tv, ↓reduceIte, Nat.reduceEqDiff, reduceCtorEq, Nat.reduceLeDiff, Nat.reducePow, Int.reducePow, Int.reduceToNat, Nat.reduceAdd, he, hlp, hl1, g2, g3, eq_true hV', decide_true, decide_false]
        refine ⟨hx, ?_⟩
        simp only [methE, he, hV, h254, false_or, ne_eq, not_true_eq_false, false_and, if_false]
        exact ⟨_, rfl, hown.sl⟩
      · have hV' : ¬ l = [41, 86] := fun x => hV (hVV.1 x)
        simp (disch := first | omega | assumption) only [C.ref1_Method_gos, T.tv, ↓reduceIte, Nat.reduceEqDiff, reduceCtorEq, Nat.reduceLeDiff, Nat.reducePow, Int.reducePow, Int.reduceToNat, Nat.reduceAdd, he, hlp, hl1, g2, g3, eq_false hV', decide_true, decide_false]
        refine eff_callF rfl ((rfield_any (l.drop 1) (by rw [List.length_drop]; omega)).mono ?_)
        rintro v2 h2 ⟨rfl, rfl⟩
        cases hfd : fieldP (l.drop 1) with
        | true =>
          simp (disch := first | omega | assumption) only [C.ref1_Method_gos, T.tv, ↓reduceIte, Nat.reduceEqDiff, reduceCtorEq, Nat.reduceLeDiff, Nat.reducePow, Int.reducePow, Int.reduceToNat, Nat.reduceAdd, hl1]
          refine ⟨hx, ?_⟩
          simp only [methE, he, hV, h254, hfd, false_or, ne_eq, not_false_eq_true, true_and, Bool.true_eq_false, if_false]
          exact ⟨_, rfl, hown.sl⟩
        | false =>
          simp (disch := first | omega | assumption) only [C.ref1_Method_gos, T.tv, ↓reduceIte, Nat.reduceEqDiff, reduceCtorEq, Nat.reduceLeDiff, Nat.reducePow, Int.reducePow, Int.reduceToNat, Nat.reduceAdd]
          refine ⟨hx, ?_⟩
          rw [show methE (some (ts, sl, l)) = none by unfold methE; simp only []; rw [if_pos (.inr (.inr ⟨hV, hfd⟩))]]
          trivial
    · have g2 : ¬ ((l.getD 0 0).toNat : Int) = 41 := fun x => h41 ((head_get he 41).2 x)
      rw [if_neg (by simp [he, h41])] at hrun
      simp (disch := first | omega | assumption) only [C.ref1_Method_gos, T.tv, ↓reduceIte, Nat.reduceEqDiff, reduceCtorEq, Nat.reduceLeDiff, Nat.reducePow, Int.reducePow, Int.reduceToNat, Nat.reduceAdd, he, hlp, g2, decide_true, decide_false]
      refine eff_callF rfl ((rone_any l 0 (by decide) (by omega)).mono ?_)
      rintro v2 h2 ⟨rfl, t, r, rfl, _, hv⟩
      cases ho : oneP l 0 with
      | none =>
        rw [ho] at hrun
        subst hrun
        simp (disch := first | omega | assumption) only [C.ref1_Method_gos, T.tv, ↓reduceIte, Nat.reduceEqDiff, reduceCtorEq, Nat.reduceLeDiff, Nat.reducePow, Int.reducePow, Int.reduceToNat, Nat.reduceAdd, Option.isSome_none, decide_true, decide_false]
        exact ⟨hx, by simp [methE]⟩
      | some k =>
        rw [ho] at hrun
        have hk := oneP_le ho
        obtain ⟨ht, hr⟩ := hv k ho
        have hrl : r.length = l.length - k := by rw [hr, List.length_drop]
        simp only [] at hrun
        rw [← ht, ← hr] at hrun
        have hts : t.length ≤ 4294967296 := by rw [ht, List.length_take]; omega
        have hsp := slotP_le t
        have w1 : IntKind.i64.wrap ((sl : Int) + (slotP t : Int)) = ((sl + slotP t : Nat) : Int) := by rw [wrap_i64 (by omega) (by omega)]; omega
        simp (disch := first | omega | assumption) only [C.ref1_Method_gos, T.tv, ↓reduceIte, Nat.reduceEqDiff, reduceCtorEq, Nat.reduceLeDiff, Nat.reducePow, Int.reducePow, Int.reduceToNat, Nat.reduceAdd, decide_true, decide_false]
        refine eff_lits T.slT_57 rfl rfl (by decide) ?_
        simp (disch := first | omega | assumption) only [C.ref1_Method_gos, T.tv, ↓reduceIte, Nat.reduceEqDiff, reduceCtorEq, Nat.reduceLeDiff, Nat.reducePow, Int.reducePow, Int.reduceToNat, Nat.reduceAdd]
        have hsz := hx.size
        refine eff_append_own T.slT_57 rfl rfl (hown.push _) rfl (Rd_new (vs := [str t])) (by intro u hu; simp only [List.mem_singleton] at hu; subst hu; rfl) (by omega) (by omega) (by simp; omega) ?_
        intro v' h' hown' hfr _
        simp (disch := first | omega | assumption) only [C.ref1_Method_gos, T.tv, ↓reduceIte, Nat.reduceEqDiff, reduceCtorEq, Nat.reduceLeDiff, Nat.reducePow, Int.reducePow, Int.reduceToNat, Nat.reduceAdd]
        refine eff_callF rfl ((rslots_any t).mono ?_)
        rintro v3 h3 ⟨rfl, rfl⟩
        simp (disch := first | omega | assumption) only [C.ref1_Method_gos, T.tv, ↓reduceIte, Nat.reduceEqDiff, reduceCtorEq, Nat.reduceLeDiff, Nat.reducePow, Int.reducePow, Int.reduceToNat, Nat.reduceAdd, w1]
        refine ⟨r.length, by omega, r, ts ++ [t], sl + slotP t, v', rfl, rfl, by simpa using hown',
          Ext.app (hx.trans (Ext.push _ _)) hfr (fun k hk => by have := (hown.lt k hk).1; simpa using this), by rw [List.length_append, List.length_singleton]; omega, by simp; omega, f, by omega, hrun⟩
  · have hm : methP s = none := by unfold methP; rw [if_neg hh]
    have g0 : ¬ ((s.getD 0 0).toNat : Int) = 40 := fun x => hh ((head_get hne 40).2 x)
    unfold MethV
    rw [hm]
    simp (disch := first | omega | assumption) only [C.ref1_Method_gos, T.tv, ↓reduceIte, Nat.reduceEqDiff, reduceCtorEq, Nat.reduceLeDiff, Nat.reducePow, Int.reducePow, Int.reduceToNat, Nat.reduceAdd, hne, lp0, g0, decide_true, decide_false]
    exact Ext.refl _
end Go.Proofs.YtgdmoimclelfhaaDoor
