/- Names and descriptors, plainly. No condition. -/
import Derived.Test.YtgdmoimclelfhaaDoorVcX
namespace Go.Proofs.YtgdmoimclelfhaaDoor
open Go.Vc
set_option maxRecDepth 100000
set_option linter.unusedSimpArgs false
set_option linter.unusedVariables false

/-! ### One byte at a place of a text -/
theorem get_mk (l : List UInt8) (j : Nat) : (ByteArray.mk l.toArray).get! j = l.getD j 0 := by
  simp [ByteArray.get!, List.getD]
  rfl
theorem decU_lo {l : List UInt8} {i : Nat} (hb : (l.getD i 0).toNat < 128) : decU l i = ((l.getD i 0).toNat, 1) := by
  unfold decU Utf8.decode
  simp only [get_mk, Nat.add_zero]
  rw [if_pos hb]
theorem getD_out {l : List UInt8} {j : Nat} (h : 0 < (l.getD j 0).toNat) : j < l.length := by
  rcases Nat.lt_or_ge j l.length with h1 | h1
  · exact h1
  · simp [List.getElem?_eq_none h1] at h
theorem decU_hi {l : List UInt8} {i : Nat} (hi : i < l.length) (hb : ¬ (l.getD i 0).toNat < 128) :
    128 ≤ (decU l i).1 ∧ (decU l i).1 < 2147483648 ∧ 1 ≤ (decU l i).2 ∧ i + (decU l i).2 ≤ l.length ∧ ∀ j, i ≤ j → j < i + (decU l i).2 → 128 ≤ (l.getD j 0).toNat := by
  have hs : (ByteArray.mk l.toArray).size = l.length := by simp [ByteArray.size]
  have g0 : (l.getD i 0).toNat < 256 := UInt8.toNat_lt _
  have g1 : (l.getD (i + 1) 0).toNat < 256 := UInt8.toNat_lt _
  have g2 : (l.getD (i + 2) 0).toNat < 256 := UInt8.toNat_lt _
  have g3 : (l.getD (i + 3) 0).toNat < 256 := UInt8.toNat_lt _
  have one : ∀ c : Nat, 128 ≤ c → c < 2147483648 → 128 ≤ (c, 1).1 ∧ (c, 1).1 < 2147483648 ∧ 1 ≤ (c, 1).2 ∧ i + (c, 1).2 ≤ l.length ∧ ∀ j, i ≤ j → j < i + (c, 1).2 → 128 ≤ (l.getD j 0).toNat := by
    intro c h1 h2
    refine ⟨h1, h2, Nat.le_refl _, hi, fun j h3 h4 => ?_⟩
    have : j = i := by simp at h4; omega
    subst this; omega
  unfold decU Utf8.decode
  simp only [get_mk, Nat.add_zero, hs, Utf8.runeError]
  rw [if_neg hb]
  split
  · rename_i hc
    simp only [Bool.and_eq_true, beq_iff_eq, decide_eq_true_eq] at hc
    split
    · refine ⟨by simp only []; omega, by simp only []; omega, by simp, by simp only []; omega, fun j h3 h4 => ?_⟩
      simp only [] at h4
      have : j = i ∨ j = i + 1 := by omega
      rcases this with rfl | rfl <;> omega
    · exact one _ (by decide) (by decide)
  split
  · rename_i hc
    simp only [Bool.and_eq_true, beq_iff_eq, decide_eq_true_eq] at hc
    split
    · rename_i hv
      simp only [Bool.and_eq_true, decide_eq_true_eq, ge_iff_le] at hv
      refine ⟨by simp only []; omega, by simp only []; omega, by simp, by simp only []; omega, fun j h3 h4 => ?_⟩
      simp only [] at h4
      have : j = i ∨ j = i + 1 ∨ j = i + 2 := by omega
      rcases this with rfl | rfl | rfl <;> omega
    · exact one _ (by decide) (by decide)
  split
  · rename_i hc
    simp only [Bool.and_eq_true, beq_iff_eq, decide_eq_true_eq] at hc
    split
    · rename_i hv
      simp only [Bool.and_eq_true, decide_eq_true_eq, ge_iff_le] at hv
      refine ⟨by simp only []; omega, by simp only []; omega, by simp, by simp only []; omega, fun j h3 h4 => ?_⟩
      simp only [] at h4
      have : j = i ∨ j = i + 1 ∨ j = i + 2 ∨ j = i + 3 := by omega
      rcases this with rfl | rfl | rfl | rfl <;> omega
    · exact one _ (by decide) (by decide)
  exact one _ (by decide) (by decide)
theorem encU_hi {n : Int} (h0 : 128 ≤ n) : ∃ pre b, encU n = pre ++ [b] ∧ 1 ≤ pre.length ∧ pre.length ≤ 3 ∧ 128 ≤ b.toNat := by
  unfold encU Utf8.encode
  have hc : 128 ≤ (if Utf8.valid n = true then n.toNat else Utf8.runeError) := by
    split
    · omega
    · decide
  generalize (if Utf8.valid n = true then n.toNat else Utf8.runeError) = c at hc
  have hl : 128 ≤ (UInt8.ofNat (0x80 + c % 64)).toNat := by
    rw [UInt8.toNat_ofNat_of_lt' (by simp [UInt8.size]; omega)]; omega
  simp only []
  rw [if_neg (by omega)]
  split
  · exact ⟨[_], _, rfl, by simp, by simp, hl⟩
  split
  · exact ⟨[_, _], _, rfl, by simp, by simp, hl⟩
  · exact ⟨[_, _, _], _, rfl, by simp, by simp, hl⟩

/-! ### Where a byte stands -/
abbrev ib := Lib.indexByte
theorem ib_spec (c : UInt8) : ∀ l : List UInt8, (ib l c = -1 ∧ c ∉ l) ∨ ∃ k, k < l.length ∧ ib l c = (k : Int) ∧ l[k]? = some c ∧ c ∉ l.take k
  | [] => .inl ⟨rfl, by simp⟩
  | b :: l => by
    have ih := ib_spec c l
    have e : ib (b :: l) c = if b == c then 0 else if ib l c == -1 then -1 else ib l c + 1 := rfl
    rw [e]
    by_cases hb : b = c
    · subst hb
      exact .inr ⟨0, by simp, by simp, by simp, by simp⟩
    · have hb' : (b == c) = false := by simpa using hb
      rw [hb']
      rcases ih with ⟨h1, h2⟩ | ⟨k, h1, h2, h3, h4⟩
      · left
        rw [h1]
        refine ⟨by simp, ?_⟩
        simp only [List.mem_cons, not_or]
        exact ⟨fun h => hb h.symm, h2⟩
      · right
        refine ⟨k + 1, by simp; omega, ?_, by simpa using h3, ?_⟩
        · rw [h2]
          have : ((k : Int) == -1) = false := by rw [beq_eq_false_iff_ne]; omega
          rw [this]; simp
        · simp only [List.take_succ_cons, List.mem_cons, not_or]
          exact ⟨fun h => hb h.symm, h4⟩
theorem ib_le (c : UInt8) (l : List UInt8) : -1 ≤ ib l c ∧ ib l c < l.length := by
  rcases ib_spec c l with ⟨h, _⟩ | ⟨k, h1, h2, _⟩
  · rw [h]; omega
  · rw [h2]; omega
theorem ib_mem (c : UInt8) (l : List UInt8) : 0 ≤ ib l c ↔ c ∈ l := by
  rcases ib_spec c l with ⟨h, h2⟩ | ⟨k, h1, h2, h3, _⟩
  · rw [h]; simp [h2]
  · rw [h2]
    exact ⟨fun _ => List.mem_of_getElem? h3, fun _ => by omega⟩
theorem ib_none {c : UInt8} {l : List UInt8} (h : c ∉ l) : ib l c = -1 := by
  have h1 := ib_mem c l
  have h2 := (ib_le c l).1
  have : ¬ 0 ≤ ib l c := fun x => h (h1.1 x)
  omega

/-! ### Some bytes among others -/
def hasAny (cs l : List UInt8) : Bool := l.any fun b => cs.contains b
def without (cs l : List UInt8) : Bool := decide (l ≠ []) && !hasAny cs l
theorem hasAny_true {cs l : List UInt8} {i : Nat} (hi : i < l.length) (hc : l.getD i 0 ∈ cs) : hasAny cs l = true := by
  unfold hasAny
  rw [List.any_eq_true]
  refine ⟨l[i], List.getElem_mem hi, ?_⟩
  simpa [hi] using hc
theorem hasAny_false {cs l : List UInt8} (H : ∀ j, j < l.length → l.getD j 0 ∉ cs) : hasAny cs l = false := by
  unfold hasAny
  rw [List.any_eq_false]
  intro x hx
  obtain ⟨j, hj, rfl⟩ := List.getElem_of_mem hx
  have := H j hj
  simpa [hj] using this

/-! ### A path's parts -/
def A4 : List UInt8 := [46, 59, 91, 47]
def A3 : List UInt8 := [46, 59, 91]
def pieces (acc : List UInt8) : List UInt8 → List (List UInt8)
  | [] => [acc]
  | b :: l => if b = 47 then acc :: pieces [] l else pieces (acc ++ [b]) l
theorem pieces_none : ∀ {l acc : List UInt8}, (47 : UInt8) ∉ l → pieces acc l = [acc ++ l]
  | [], acc, _ => by simp [pieces]
  | b :: l, acc, h => by
    simp only [List.mem_cons, not_or] at h
    rw [pieces, if_neg (fun e => h.1 e.symm), pieces_none h.2]
    simp
theorem pieces_at : ∀ {l acc : List UInt8} {k : Nat}, l[k]? = some 47 → (47 : UInt8) ∉ l.take k → pieces acc l = (acc ++ l.take k) :: pieces [] (l.drop (k + 1))
  | [], _, _, h, _ => by simp at h
  | b :: l, acc, 0, h, _ => by
    simp only [List.getElem?_cons_zero, Option.some.injEq] at h
    subst h
    rw [pieces, if_pos rfl]; simp
  | b :: l, acc, k + 1, h, hn => by
    simp only [List.take_succ_cons, List.mem_cons, not_or] at hn
    rw [pieces, if_neg (fun e => hn.1 e.symm), pieces_at (by simpa using h) hn.2]
    simp
theorem pieces_len : ∀ {l acc : List UInt8}, (pieces acc l).length = l.count 47 + 1
  | [], acc => by simp [pieces]
  | b :: l, acc => by
    rw [pieces]
    split
    · rename_i hb; subst hb
      rw [List.length_cons, pieces_len, List.count_cons]; simp
    · rename_i hb
      rw [pieces_len, List.count_cons]; simp [hb]
theorem pieces_no : ∀ {l acc : List UInt8}, (47 : UInt8) ∉ acc → ∀ p ∈ pieces acc l, (47 : UInt8) ∉ p
  | [], acc, h, p, hp => by
    simp only [pieces, List.mem_singleton] at hp
    subst hp; exact h
  | b :: l, acc, h, p, hp => by
    rw [pieces] at hp
    split at hp
    · rcases List.mem_cons.1 hp with rfl | hp
      · exact h
      · exact pieces_no (by simp) p hp
    · rename_i hb
      exact pieces_no (by simp only [List.mem_append, List.mem_singleton, not_or]; exact ⟨h, fun e => hb e.symm⟩) p hp
theorem without_no {p : List UInt8} (h : (47 : UInt8) ∉ p) : without A4 p = without A3 p := by
  unfold without
  congr 2
  unfold hasAny
  rw [Bool.eq_iff_iff, List.any_eq_true, List.any_eq_true]
  constructor
  · rintro ⟨x, hx, hc⟩
    refine ⟨x, hx, ?_⟩
    simp only [A4, A3, List.contains_eq_mem, List.mem_cons, List.not_mem_nil, or_false, decide_eq_true_eq] at hc ⊢
    rcases hc with h | h | h | rfl
    · exact .inl h
    · exact .inr (.inl h)
    · exact .inr (.inr h)
    · exact absurd hx ‹_›
  · rintro ⟨x, hx, hc⟩
    refine ⟨x, hx, ?_⟩
    simp only [A4, A3, List.contains_eq_mem, List.mem_cons, List.not_mem_nil, or_false, decide_eq_true_eq] at hc ⊢
    rcases hc with h | h | h
    · exact .inl h
    · exact .inr (.inl h)
    · exact .inr (.inr (.inl h))
def restP (acc l : List UInt8) : Bool := (pieces acc l).all (without A3)
def pathP (l : List UInt8) : Bool := restP [] l
theorem pathP_4 (l : List UInt8) : pathP l = (pieces [] l).all (without A4) := by
  unfold pathP restP
  rw [Bool.eq_iff_iff, List.all_eq_true, List.all_eq_true]
  constructor
  · intro H p hp; rw [without_no (pieces_no (by simp) p hp)]; exact H p hp
  · intro H p hp; rw [← without_no (pieces_no (by simp) p hp)]; exact H p hp
theorem restP_nil {acc : List UInt8} : restP acc [] = without A3 acc := by simp [restP, pieces]
theorem restP_cons {acc l : List UInt8} {b : UInt8} : restP acc (b :: l) = if b = 47 then without A3 acc && restP [] l else restP (acc ++ [b]) l := by
  unfold restP
  rw [pieces]
  split <;> simp

/-! ### The kind of a member's name -/
def memP (s : List UInt8) (m : Bool) : Nat :=
  if m = true ∧ s = [60, 105, 110, 105, 116, 62] then 2 else if m = true ∧ s = [60, 99, 108, 105, 110, 105, 116, 62] then 3
  else if without A4 s = false ∨ (m = true ∧ without [60, 62] s = false) then 0 else 1

/-! ### Descriptors -/
def B8 : List UInt8 := [66, 67, 68, 70, 73, 74, 83, 90]
/-- Of what is no array. -/
def finP : List UInt8 → Option Nat
  | [] => none
  | b :: r => if b ∈ B8 then some 1 else if b = 76 then (if ib (b :: r) 59 < 0 then none else if pathP (((b :: r).take (ib (b :: r) 59).toNat).drop 1) then some ((ib (b :: r) 59).toNat + 1) else none) else none
def oneP : List UInt8 → Nat → Option Nat
  | [], _ => none
  | b :: r, d => if 255 < d then none else if b = 91 then (oneP r (d + 1)).map (· + 1) else finP (b :: r)
def nbr : List UInt8 → Nat
  | [] => 0
  | b :: r => if b = 91 then nbr r + 1 else 0
theorem nbr_le : ∀ l, nbr l ≤ l.length
  | [] => Nat.le_refl _
  | b :: r => by
    have := nbr_le r
    rw [nbr]; split <;> simp <;> omega
theorem finP_91 {r : List UInt8} : finP (91 :: r) = none := by
  rw [finP, if_neg (by decide), if_neg (by decide)]
theorem oneP_eq : ∀ (l : List UInt8) (d : Nat), oneP l d = if 255 < d + nbr l then none else (finP (l.drop (nbr l))).map (· + nbr l)
  | [], d => by
    rw [oneP]; split <;> simp [nbr, finP]
  | b :: r, d => by
    rw [oneP, nbr]
    by_cases hb : b = 91
    · subst hb
      rw [if_pos rfl, if_pos rfl, oneP_eq r (d + 1)]
      by_cases h1 : 255 < d
      · rw [if_pos h1, if_pos (by omega)]
      · rw [if_neg h1]
        by_cases h2 : 255 < d + 1 + nbr r
        · rw [if_pos h2, if_pos (by omega)]; rfl
        · rw [if_neg h2, if_neg (by omega)]
          simp only [List.drop_succ_cons]
          cases finP (r.drop (nbr r)) with
          | none => rfl
          | some m => simp only [Option.map_some]; congr 1
    · rw [if_neg hb, if_neg hb]
      simp
theorem finP_le : ∀ {l : List UInt8} {m : Nat}, finP l = some m → 1 ≤ m ∧ m ≤ l.length
  | [], _, h => by cases h
  | b :: r, m, h => by
    rw [finP] at h
    split at h
    · cases h; simp
    split at h
    · split at h
      · cases h
      split at h
      · cases h
        have := ib_le 59 (b :: r)
        omega
      · cases h
    · cases h
theorem oneP_le {l : List UInt8} {d m : Nat} (h : oneP l d = some m) : 1 ≤ m ∧ m ≤ l.length := by
  rw [oneP_eq] at h
  split at h
  · cases h
  · cases hf : finP (l.drop (nbr l)) with
    | none => rw [hf] at h; cases h
    | some k =>
      rw [hf] at h
      simp only [Option.map_some, Option.some.injEq] at h
      have h1 := finP_le hf
      have h2 := nbr_le l
      rw [List.length_drop] at h1
      omega
def nextP (l : List UInt8) : Nat := (oneP l 0).getD 0
def fieldP (l : List UInt8) : Bool := decide (oneP l 0 = some l.length)
theorem fieldP_next (l : List UInt8) : fieldP l = (decide (l ≠ []) && decide (nextP l = l.length)) := by
  unfold fieldP nextP
  cases h : oneP l 0 with
  | none =>
    cases l with
    | nil => simp
    | cons b r => simp
  | some m =>
    have := oneP_le h
    cases l with
    | nil => simp at this; omega
    | cons b r => simp
theorem fieldP_rest {l : List UInt8} {m : Nat} (h : oneP l 0 = some m) : fieldP l = decide (l.drop m = []) := by
  have h1 := oneP_le h
  unfold fieldP
  rw [h]
  simp only [Option.some.injEq, List.drop_eq_nil_iff, decide_eq_decide]
  omega
def clsP (l : List UInt8) : Bool := if l.head? = some 91 then fieldP l else pathP l
def slotP (l : List UInt8) : Nat := if l = [86] then 0 else if l = [74] ∨ l = [68] then 2 else 1
theorem slotP_le (l : List UInt8) : slotP l ≤ 2 := by unfold slotP; split <;> first | omega | (split <;> omega)

/-- What a method takes, one by one. -/
def runP : Nat → List UInt8 → List (List UInt8) → Nat → Option (List (List UInt8) × Nat × List UInt8)
  | 0, _, _, _ => none
  | f + 1, l, ts, sl => if l = [] ∨ l.head? = some 41 then some (ts, sl, l) else match oneP l 0 with
    | none => none
    | some m => runP f (l.drop m) (ts ++ [l.take m]) (sl + slotP (l.take m))
def methE (r : Option (List (List UInt8) × Nat × List UInt8)) : Option (List (List UInt8) × List UInt8) := match r with
  | none => none
  | some (ts, sl, l) => if l = [] ∨ 254 < sl ∨ (l.drop 1 ≠ [86] ∧ fieldP (l.drop 1) = false) then none else some (ts, l.drop 1)
def methP (s : List UInt8) : Option (List (List UInt8) × List UInt8) :=
  if s.head? = some 40 then methE (runP s.length (s.drop 1) [] 0) else none
theorem runP_text : ∀ {f : Nat} {l : List UInt8} {ts : List (List UInt8)} {sl : Nat} {ts' : List (List UInt8)} {sl' : Nat} {l' : List UInt8},
    runP f l ts sl = some (ts', sl', l') → ts'.flatten ++ l' = ts.flatten ++ l ∧ (l' = [] ∨ l'.head? = some 41) ∧ (∃ more, ts' = ts ++ more)
  | 0, _, _, _, _, _, _, h => by cases h
  | f + 1, l, ts, sl, ts', sl', l', h => by
    rw [runP] at h
    split at h
    · rename_i hc
      cases h
      exact ⟨rfl, hc, [], by simp⟩
    · cases ho : oneP l 0 with
      | none => rw [ho] at h; cases h
      | some m =>
        rw [ho] at h
        obtain ⟨h1, h2, more, h3⟩ := runP_text h
        refine ⟨?_, h2, [l.take m] ++ more, by rw [h3]; simp⟩
        rw [h1]; simp
theorem methP_text {s : List UInt8} {ts : List (List UInt8)} {g : List UInt8} (h : methP s = some (ts, g)) : [40] ++ ts.flatten ++ [41] ++ g = s := by
  unfold methP at h
  split at h
  · rename_i hs
    unfold methE at h
    cases hr : runP s.length (s.drop 1) [] 0 with
    | none => rw [hr] at h; cases h
    | some x =>
      obtain ⟨ts', sl', l'⟩ := x
      rw [hr] at h
      simp only [] at h
      split at h
      · cases h
      · rename_i hc
        cases h
        obtain ⟨h1, h2, _⟩ := runP_text hr
        simp only [not_or] at hc
        have h3 : l'.head? = some 41 := by
          rcases h2 with h2 | h2
          · exact absurd h2 hc.1
          · exact h2
        cases l' with
        | nil => simp at h3
        | cons b r =>
          simp only [List.head?_cons, Option.some.injEq] at h3
          subst h3
          cases s with
          | nil => simp at hs
          | cons c q =>
            simp only [List.head?_cons, Option.some.injEq] at hs
            subst hs
            simp at h1 ⊢
            exact h1
  · cases h
end Go.Proofs.YtgdmoimclelfhaaDoor
