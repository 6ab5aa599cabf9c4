/- Names and descriptors, plainly. Functions of Go's library on texts: prefix, the place of a byte, of a rune, of any of some. strings.Split at a slash. No condition. -/
import Derived.Test.YtflocjbhcjhenaaGreatDoorVcS
import Derived.Test.YtflocjbhcjhenaaGreatDoorT
import Derived.Test.YtflocjbhcjhenaaGreatDoorCA
set_option linter.unusedSimpArgs false
set_option linter.unusedVariables false
namespace Go.Proofs.YtflocjbhcjhenaaGreatDoor
open Go.Vc
set_option maxRecDepth 100000
theorem get_mk (l : List UInt8) (j : Nat) : (ByteArray.mk l.toArray).get! j = l.getD j 0 := by
  simp [ByteArray.get!, List.getD]
  rfl
theorem decU_lo {l : List UInt8} {i : Nat} (hb : (l.getD i 0).toNat < 128) : decU l i = ((l.getD i 0).toNat, 1) := by
  unfold decU Utf8.decode
  simp only [get_mk, Nat.add_zero]
  rw [if_pos hb]
theorem decU_hi {l : List UInt8} {i : Nat} (hi : i < l.length) (hb : ¬ (l.getD i 0).toNat < 128) :
    128 ≤ (decU l i).1 ∧ (decU l i).1 < 2147483648 ∧ 1 ≤ (decU l i).2 ∧ i + (decU l i).2 ≤ l.length ∧ ∀ j, i ≤ j → j < i + (decU l i).2 → 128 ≤ (l.getD j 0).toNat := by
  have hs : (ByteArray.mk l.toArray).size = l.length := by simp [ByteArray.size]
  have g0 : (l.getD i 0).toNat < 256 := UInt8.toNat_lt _
  have g1 : (l.getD (i + 1) 0).toNat < 256 := UInt8.toNat_lt _
  have g2 : (l.getD (i + 2) 0).toNat < 256 := UInt8.toNat_lt _
  have g3 : (l.getD (i + 3) 0).toNat < 256 := UInt8.toNat_lt _
  have one : ∀ c : Nat, 128 ≤ c → c < 2147483648 → 128 ≤ (c, 1).1 ∧ (c, 1).1 < 2147483648 ∧ 1 ≤ (c, 1).2 ∧ i + (c, 1).2 ≤ l.length ∧ ∀ j, i ≤ j → j < i + (c, 1).2 → 128 ≤ (l.getD j 0).toNat := by
    intro c h1 h2
    refine ⟨h1, h2, Nat.le_refl _, hi, fun j h3 h4 => ?_⟩
    have : j = i := by simp at h4; omega
    subst this; omega
  unfold decU Utf8.decode
  simp only [get_mk, Nat.add_zero, hs, Utf8.runeError]
  rw [if_neg hb]
  split
  · rename_i hc
    simp only [Bool.and_eq_true, beq_iff_eq, decide_eq_true_eq] at hc
    split
    · refine ⟨by simp only []; omega, by simp only []; omega, by simp, by simp only []; omega, fun j h3 h4 => ?_⟩
      simp only [] at h4
      have : j = i ∨ j = i + 1 := by omega
      rcases this with rfl | rfl <;> omega
    · exact one _ (by decide) (by decide)
  split
  · rename_i hc
    simp only [Bool.and_eq_true, beq_iff_eq, decide_eq_true_eq] at hc
    split
    · rename_i hv
      simp only [Bool.and_eq_true, decide_eq_true_eq, ge_iff_le] at hv
      refine ⟨by simp only []; omega, by simp only []; omega, by simp, by simp only []; omega, fun j h3 h4 => ?_⟩
      simp only [] at h4
      have : j = i ∨ j = i + 1 ∨ j = i + 2 := by omega
      rcases this with rfl | rfl | rfl <;> omega
    · exact one _ (by decide) (by decide)
  split
  · rename_i hc
    simp only [Bool.and_eq_true, beq_iff_eq, decide_eq_true_eq] at hc
    split
    · rename_i hv
      simp only [Bool.and_eq_true, decide_eq_true_eq, ge_iff_le] at hv
      refine ⟨by simp only []; omega, by simp only []; omega, by simp, by simp only []; omega, fun j h3 h4 => ?_⟩
      simp only [] at h4
      have : j = i ∨ j = i + 1 ∨ j = i + 2 ∨ j = i + 3 := by omega
      rcases this with rfl | rfl | rfl | rfl <;> omega
    · exact one _ (by decide) (by decide)
  exact one _ (by decide) (by decide)
theorem encU_hi {n : Int} (h0 : 128 ≤ n) : ∃ pre b, encU n = pre ++ [b] ∧ 1 ≤ pre.length ∧ pre.length ≤ 3 ∧ 128 ≤ b.toNat := by
  unfold encU Utf8.encode
  have hc : 128 ≤ (if Utf8.valid n = true then n.toNat else Utf8.runeError) := by
    split
    · omega
    · decide
  generalize (if Utf8.valid n = true then n.toNat else Utf8.runeError) = c at hc
  have hl : 128 ≤ (UInt8.ofNat (0x80 + c % 64)).toNat := by
    rw [UInt8.toNat_ofNat_of_lt' (by simp [UInt8.size]; omega)]; omega
  simp only []
  rw [if_neg (by omega)]
  split
  · exact ⟨[_], _, rfl, by simp, by simp, hl⟩
  split
  · exact ⟨[_, _], _, rfl, by simp, by simp, hl⟩
  · exact ⟨[_, _, _], _, rfl, by simp, by simp, hl⟩
abbrev ib := Lib.indexByte
theorem ib_spec (c : UInt8) : ∀ l : List UInt8, (ib l c = -1 ∧ c ∉ l) ∨ ∃ k, k < l.length ∧ ib l c = (k : Int) ∧ l[k]? = some c ∧ c ∉ l.take k
  | [] => .inl ⟨rfl, by simp⟩
  | b :: l => by
    have ih := ib_spec c l
    have e : ib (b :: l) c = if b == c then 0 else if ib l c == -1 then -1 else ib l c + 1 := rfl
    rw [e]
    by_cases hb : b = c
    · subst hb
      exact .inr ⟨0, by simp, by simp, by simp, by simp⟩
    · have hb' : (b == c) = false := by simpa using hb
      rw [hb']
      rcases ih with ⟨h1, h2⟩ | ⟨k, h1, h2, h3, h4⟩
      · left
        rw [h1]
        refine ⟨by simp, ?_⟩
        simp only [List.mem_cons, not_or]
        exact ⟨fun h => hb h.symm, h2⟩
      · right
        refine ⟨k + 1, by simp; omega, ?_, by simpa using h3, ?_⟩
        · rw [h2]
          have : ((k : Int) == -1) = false := by rw [beq_eq_false_iff_ne]; omega
          rw [this]; simp
        · simp only [List.take_succ_cons, List.mem_cons, not_or]
          exact ⟨fun h => hb h.symm, h4⟩
theorem ib_le (c : UInt8) (l : List UInt8) : -1 ≤ ib l c ∧ ib l c < l.length := by
  rcases ib_spec c l with ⟨h, _⟩ | ⟨k, h1, h2, _⟩
  · rw [h]; omega
  · rw [h2]; omega
theorem ib_mem (c : UInt8) (l : List UInt8) : 0 ≤ ib l c ↔ c ∈ l := by
  rcases ib_spec c l with ⟨h, h2⟩ | ⟨k, h1, h2, h3, _⟩
  · rw [h]; simp [h2]
  · rw [h2]
    exact ⟨fun _ => List.mem_of_getElem? h3, fun _ => by omega⟩
theorem ib_none {c : UInt8} {l : List UInt8} (h : c ∉ l) : ib l c = -1 := by
  have h1 := ib_mem c l
  have h2 := (ib_le c l).1
  have : ¬ 0 ≤ ib l c := fun x => h (h1.1 x)
  omega
def hasAny (cs l : List UInt8) : Bool := l.any fun b => cs.contains b
def without (cs l : List UInt8) : Bool := decide (l ≠ []) && !hasAny cs l
theorem hasAny_true {cs l : List UInt8} {i : Nat} (hi : i < l.length) (hc : l.getD i 0 ∈ cs) : hasAny cs l = true := by
  unfold hasAny
  rw [List.any_eq_true]
  refine ⟨l[i], List.getElem_mem hi, ?_⟩
  simpa [hi] using hc
theorem hasAny_false {cs l : List UInt8} (H : ∀ j, j < l.length → l.getD j 0 ∉ cs) : hasAny cs l = false := by
  unfold hasAny
  rw [List.any_eq_false]
  intro x hx
  obtain ⟨j, hj, rfl⟩ := List.getElem_of_mem hx
  have := H j hj
  simpa [hj] using this
def A4 : List UInt8 := [46, 59, 91, 47]
def A3 : List UInt8 := [46, 59, 91]
def pieces (acc : List UInt8) : List UInt8 → List (List UInt8)
  | [] => [acc]
  | b :: l => if b = 47 then acc :: pieces [] l else pieces (acc ++ [b]) l
theorem pieces_none : ∀ {l acc : List UInt8}, (47 : UInt8) ∉ l → pieces acc l = [acc ++ l]
  | [], acc, _ => by simp [pieces]
  | b :: l, acc, h => by
    simp only [List.mem_cons, not_or] at h
    rw [pieces, if_neg (fun e => h.1 e.symm), pieces_none h.2]
    simp
theorem pieces_at : ∀ {l acc : List UInt8} {k : Nat}, l[k]? = some 47 → (47 : UInt8) ∉ l.take k → pieces acc l = (acc ++ l.take k) :: pieces [] (l.drop (k + 1))
  | [], _, _, h, _ => by simp at h
  | b :: l, acc, 0, h, _ => by
    simp only [List.getElem?_cons_zero, Option.some.injEq] at h
    subst h
    rw [pieces, if_pos rfl]; simp
  | b :: l, acc, k + 1, h, hn => by
    simp only [List.take_succ_cons, List.mem_cons, not_or] at hn
    rw [pieces, if_neg (fun e => hn.1 e.symm), pieces_at (by simpa using h) hn.2]
    simp
theorem pieces_len : ∀ {l acc : List UInt8}, (pieces acc l).length = l.count 47 + 1
  | [], acc => by simp [pieces]
  | b :: l, acc => by
    rw [pieces]
    split
    · rename_i hb; subst hb
      rw [List.length_cons, pieces_len, List.count_cons]; simp
    · rename_i hb
      rw [pieces_len, List.count_cons]; simp [hb]
theorem pieces_no : ∀ {l acc : List UInt8}, (47 : UInt8) ∉ acc → ∀ p ∈ pieces acc l, (47 : UInt8) ∉ p
  | [], acc, h, p, hp => by
    simp only [pieces, List.mem_singleton] at hp
    subst hp; exact h
  | b :: l, acc, h, p, hp => by
    rw [pieces] at hp
    split at hp
    · rcases List.mem_cons.1 hp with rfl | hp
      · exact h
      · exact pieces_no (by simp) p hp
    · rename_i hb
      exact pieces_no (by simp only [List.mem_append, List.mem_singleton, not_or]; exact ⟨h, fun e => hb e.symm⟩) p hp
theorem without_no {p : List UInt8} (h : (47 : UInt8) ∉ p) : without A4 p = without A3 p := by
  unfold without
  congr 2
  unfold hasAny
  rw [Bool.eq_iff_iff, List.any_eq_true, List.any_eq_true]
  constructor
  · rintro ⟨x, hx, hc⟩
    refine ⟨x, hx, ?_⟩
    simp only [A4, A3, List.contains_eq_mem, List.mem_cons, List.not_mem_nil, or_false, decide_eq_true_eq] at hc ⊢
    rcases hc with h | h | h | rfl
    · exact .inl h
    · exact .inr (.inl h)
    · exact .inr (.inr h)
    · exact absurd hx ‹_›
  · rintro ⟨x, hx, hc⟩
    refine ⟨x, hx, ?_⟩
    simp only [A4, A3, List.contains_eq_mem, List.mem_cons, List.not_mem_nil, or_false, decide_eq_true_eq] at hc ⊢
    rcases hc with h | h | h
    · exact .inl h
    · exact .inr (.inl h)
    · exact .inr (.inr (.inl h))
def restP (acc l : List UInt8) : Bool := (pieces acc l).all (without A3)
def pathP (l : List UInt8) : Bool := restP [] l
theorem pathP_4 (l : List UInt8) : pathP l = (pieces [] l).all (without A4) := by
  unfold pathP restP
  rw [Bool.eq_iff_iff, List.all_eq_true, List.all_eq_true]
  constructor
  · intro H p hp; rw [without_no (pieces_no (by simp) p hp)]; exact H p hp
  · intro H p hp; rw [← without_no (pieces_no (by simp) p hp)]; exact H p hp
theorem restP_nil {acc : List UInt8} : restP acc [] = without A3 acc := by simp [restP, pieces]
theorem restP_cons {acc l : List UInt8} {b : UInt8} : restP acc (b :: l) = if b = 47 then without A3 acc && restP [] l else restP (acc ++ [b]) l := by
  unfold restP
  rw [pieces]
  split <;> simp
def memP (s : List UInt8) (m : Bool) : Nat :=
  if m = true ∧ s = [60, 105, 110, 105, 116, 62] then 2 else if m = true ∧ s = [60, 99, 108, 105, 110, 105, 116, 62] then 3
  else if without A4 s = false ∨ (m = true ∧ without [60, 62] s = false) then 0 else 1
def B8 : List UInt8 := [66, 67, 68, 70, 73, 74, 83, 90]
def finP : List UInt8 → Option Nat
  | [] => none
  | b :: r => if b ∈ B8 then some 1 else if b = 76 then (if ib (b :: r) 59 < 0 then none else if pathP (((b :: r).take (ib (b :: r) 59).toNat).drop 1) then some ((ib (b :: r) 59).toNat + 1) else none) else none
def oneP : List UInt8 → Nat → Option Nat
  | [], _ => none
  | b :: r, d => if 255 < d then none else if b = 91 then (oneP r (d + 1)).map (· + 1) else finP (b :: r)
def nbr : List UInt8 → Nat
  | [] => 0
  | b :: r => if b = 91 then nbr r + 1 else 0
theorem nbr_le : ∀ l, nbr l ≤ l.length
  | [] => Nat.le_refl _
  | b :: r => by
    have := nbr_le r
    rw [nbr]; split <;> simp <;> omega
theorem oneP_eq : ∀ (l : List UInt8) (d : Nat), oneP l d = if 255 < d + nbr l then none else (finP (l.drop (nbr l))).map (· + nbr l)
  | [], d => by
    rw [oneP]; split <;> simp [nbr, finP]
  | b :: r, d => by
    rw [oneP, nbr]
    by_cases hb : b = 91
    · subst hb
      rw [if_pos rfl, if_pos rfl, oneP_eq r (d + 1)]
      by_cases h1 : 255 < d
      · rw [if_pos h1, if_pos (by omega)]
      · rw [if_neg h1]
        by_cases h2 : 255 < d + 1 + nbr r
        · rw [if_pos h2, if_pos (by omega)]; rfl
        · rw [if_neg h2, if_neg (by omega)]
          simp only [List.drop_succ_cons]
          cases finP (r.drop (nbr r)) with
          | none => rfl
          | some m => simp only [Option.map_some]; congr 1
    · rw [if_neg hb, if_neg hb]
      simp
theorem finP_le : ∀ {l : List UInt8} {m : Nat}, finP l = some m → 1 ≤ m ∧ m ≤ l.length
  | [], _, h => by cases h
  | b :: r, m, h => by
    rw [finP] at h
    split at h
    · cases h; simp
    split at h
    · split at h
      · cases h
      split at h
      · cases h
        have := ib_le 59 (b :: r)
        omega
      · cases h
    · cases h
theorem oneP_le {l : List UInt8} {d m : Nat} (h : oneP l d = some m) : 1 ≤ m ∧ m ≤ l.length := by
  rw [oneP_eq] at h
  split at h
  · cases h
  · cases hf : finP (l.drop (nbr l)) with
    | none => rw [hf] at h; cases h
    | some k =>
      rw [hf] at h
      simp only [Option.map_some, Option.some.injEq] at h
      have h1 := finP_le hf
      have h2 := nbr_le l
      rw [List.length_drop] at h1
      omega
def nextP (l : List UInt8) : Nat := (oneP l 0).getD 0
def fieldP (l : List UInt8) : Bool := decide (oneP l 0 = some l.length)
theorem fieldP_next (l : List UInt8) : fieldP l = (decide (l ≠ []) && decide (nextP l = l.length)) := by
  unfold fieldP nextP
  cases h : oneP l 0 with
  | none =>
    cases l with
    | nil => simp
    | cons b r => simp
  | some m =>
    have := oneP_le h
    cases l with
    | nil => simp at this; omega
    | cons b r => simp
theorem fieldP_rest {l : List UInt8} {m : Nat} (h : oneP l 0 = some m) : fieldP l = decide (l.drop m = []) := by
  have h1 := oneP_le h
  unfold fieldP
  rw [h]
  simp only [Option.some.injEq, List.drop_eq_nil_iff, decide_eq_decide]
  omega
def clsN (l : List UInt8) : Bool := if l.head? = some 91 then fieldP l else pathP l
def slotP (l : List UInt8) : Nat := if l = [86] then 0 else if l = [74] ∨ l = [68] then 2 else 1
theorem slotP_le (l : List UInt8) : slotP l ≤ 2 := by unfold slotP; split <;> first | omega | (split <;> omega)
def runP : Nat → List UInt8 → List (List UInt8) → Nat → Option (List (List UInt8) × Nat × List UInt8)
  | 0, _, _, _ => none
  | f + 1, l, ts, sl => if l = [] ∨ l.head? = some 41 then some (ts, sl, l) else match oneP l 0 with
    | none => none
    | some m => runP f (l.drop m) (ts ++ [l.take m]) (sl + slotP (l.take m))
def methE (r : Option (List (List UInt8) × Nat × List UInt8)) : Option (List (List UInt8) × List UInt8) := match r with
  | none => none
  | some (ts, sl, l) => if l = [] ∨ 254 < sl ∨ (l.drop 1 ≠ [86] ∧ fieldP (l.drop 1) = false) then none else some (ts, l.drop 1)
def methP (s : List UInt8) : Option (List (List UInt8) × List UInt8) :=
  if s.head? = some 40 then methE (runP s.length (s.drop 1) [] 0) else none
end Go.Proofs.YtflocjbhcjhenaaGreatDoor
namespace Go.Proofs.YtflocjbhcjhenaaGreatDoor
open Go.Vc
set_option maxRecDepth 100000
theorem run_ib (c : UInt8) (l : List UInt8) (w : World) : (Extern.BytealgIndexByte.indexByte #[str l, .int .u8 (c.toNat : Int)]).run Tryz.prog w = .ok (.int .i64 (ib l c)) w := by
  have h := Lib.run_indexByteString (P := Tryz.prog) ⟨l.toArray⟩ (c.toNat : Int) w
  have hc : ((c.toNat : Int)).toNat.toUInt8 = c := by simp
  rw [hc] at h
  exact h
theorem slIndexByte_any {h : Heap} (c : UInt8) (l : List UInt8) : HCalls Tryz.prog 82 #[str l, .int .u8 (c.toNat : Int)] h fun v h' => h' = h ∧ v = .int .i64 (ib l c) := by
  refine C.sl_IndexByte_calls (args := [str l, .int .u8 (c.toNat : Int)]) rfl ?_
  simp only [C.sl_IndexByte_gos, T.tv, seval]
  refine eff_callX (v := .int .i64 (ib l c)) rfl Tryz.func107 (by kernel_rfl) (by kernel_rfl) (by kernel_rfl) (by kernel_rfl) (run_ib c l) ?_
  simp only [T.tv, seval]
theorem indexByte_any {h : Heap} (c : UInt8) (l : List UInt8) : HCalls Tryz.prog 66 #[str l, .int .u8 (c.toNat : Int)] h fun v h' => h' = h ∧ v = .int .i64 (ib l c) := by
  refine C.s_IndexByte_calls (args := [str l, .int .u8 (c.toNat : Int)]) rfl ?_
  simp only [C.s_IndexByte_gos, T.tv, seval]
  refine eff_callF rfl ((slIndexByte_any c l).mono ?_)
  rintro v1 h1 ⟨rfl, rfl⟩
  simp only [T.tv, seval]
theorem slHasPrefix_any {h : Heap} (c : UInt8) (l : List UInt8) : HCalls Tryz.prog 64 #[str l, str [c]] h fun v h' => h' = h ∧ v = .bool (decide (l.head? = some c)) := by
  refine C.sl_HasPrefix_calls (args := [str l, str [c]]) rfl ?_
  cases l with
  | nil =>
    have f1 : ¬ (((1 : Nat) : Int) ≤ ((0 : Nat) : Int)) := by decide
    simp (disch := first | omega | assumption) only [C.sl_HasPrefix_gos, T.tv, ↓reduceIte, Nat.reduceEqDiff, reduceCtorEq, f1]
    all_goals simp
  | cons b r =>
    have f1 : ((1 : Nat) : Int) ≤ ((r.length + 1 : Nat) : Int) := by omega
    simp (disch := first | omega | assumption) only [C.sl_HasPrefix_gos, T.tv, ↓reduceIte, Nat.reduceEqDiff, reduceCtorEq, f1]
    all_goals simp
theorem hasPrefix_any {h : Heap} (c : UInt8) (l : List UInt8) : HCalls Tryz.prog 50 #[str l, str [c]] h fun v h' => h' = h ∧ v = .bool (decide (l.head? = some c)) := by
  refine C.s_HasPrefix_calls (args := [str l, str [c]]) rfl ?_
  simp only [C.s_HasPrefix_gos, T.tv, seval]
  refine eff_callF rfl ((slHasPrefix_any c l).mono ?_)
  rintro v1 h1 ⟨rfl, rfl⟩
  simp only [T.tv, seval]
theorem validRune_any {h : Heap} (n : Int) : HCalls Tryz.prog 108 #[.int .i32 n] h fun v h' => h' = h ∧ ∃ b, v = .bool b := by
  refine C.u_ValidRune_calls (args := [.int .i32 n]) rfl ?_
  by_cases h1 : 0 ≤ n <;> by_cases h2 : n < 55296 <;> by_cases h3 : 57343 < n <;> by_cases h4 : n ≤ 1114111
  all_goals
    simp only [C.u_ValidRune_gos, T.tv, seval, h1, h2, h3, h4]
  all_goals exact ⟨_, rfl⟩
theorem indexRune_lo {h : Heap} (cs : List UInt8) (c : UInt8) (hc : c.toNat < 128) :
    HCalls Tryz.prog 83 #[str cs, .int .i32 (c.toNat : Int)] h fun v h' => h' = h ∧ v = .int .i64 (ib cs c) := by
  refine C.s_IndexRune_calls (args := [str cs, .int .i32 (c.toNat : Int)]) rfl ?_
  have f1 : (0 : Int) ≤ (c.toNat : Int) := by omega
  have f2 : (c.toNat : Int) < 128 := by omega
  simp (disch := omega) only [C.s_IndexRune_gos, T.tv, seval, f1, f2]
  refine eff_callF rfl ((indexByte_any c cs).mono ?_)
  rintro v1 h1 ⟨rfl, rfl⟩
  simp only [T.tv, seval]
theorem indexRune_hi {h : Heap} (cs : List UInt8) (n : Int) (hcs : ∀ b ∈ cs, b.toNat < 128) (hl : cs.length ≤ 1000) (h0 : 128 ≤ n) (h31 : n < 2147483648) :
    HCalls Tryz.prog 83 #[str cs, .int .i32 n] h fun v h' => Ext h h' ∧ v = .int .i64 (-1) := by
  refine C.s_IndexRune_calls (args := [str cs, .int .i32 n]) rfl ?_
  have f1 : 0 ≤ n := by omega
  have f2 : ¬ n < 128 := by omega
  by_cases he : n = 65533
  · simp only [C.s_IndexRune_gos, T.tv, seval, f1, f2, eq_true he]
    refine eff_range_str Tryz.underlying9 rfl ?_
    have E := Ext.push h (.stringIter ⟨cs.toArray⟩ 0)
    have b0 : (h.push (.stringIter ⟨cs.toArray⟩ 0))[h.size]? = some (.stringIter ⟨cs.toArray⟩ 0) := by simp
    generalize h.push (.stringIter ⟨cs.toArray⟩ 0) = h1 at *
    obtain ⟨it, hit⟩ : ∃ x, x = h.size := ⟨_, rfl⟩
    rw [← hit] at b0 ⊢
    simp only [T.tv, seval]
    refine loop_intro [175] (fun m ρ hc => ∃ pos : Nat, m = cs.length - pos ∧ ρ = [(175, .pointer (some ⟨it, 0, none⟩))] ∧ Ext h hc ∧ hc[it]? = some (.stringIter ⟨cs.toArray⟩ pos)) ?_ ?_
    · simp only [T.tv, seval]
      exact ⟨_, 0, rfl, E, b0⟩
    · rintro m ρ hc ⟨pos, rfl, rfl, hx, hb⟩
      simp only [C.s_IndexRune_gos, T.tv]
      refine eff_next_str rfl hb ?_ ?_
      · intro hp
        have hlo : (cs.getD pos 0).toNat < 128 := hcs _ (by simp [hp])
        rw [decU_lo hlo]
        have hne : ¬ ((cs.getD pos 0).toNat : Int) = 65533 := by omega
        simp only [C.s_IndexRune_gos, T.tv, seval, hne]
        exact ⟨cs.length - (pos + 1), by omega, pos + 1, rfl, hx.iter (by omega), iter_get hb⟩
      · intro hp
        simp only [C.s_IndexRune_gos, T.tv, seval]
        exact hx
  · simp only [C.s_IndexRune_gos, T.tv, seval, f1, f2, eq_false he]
    refine eff_callF rfl ((validRune_any n).mono ?_)
    rintro v1 h1 ⟨rfl, b, rfl⟩
    cases b with
    | false =>
      simp only [C.s_IndexRune_gos, T.tv, seval]
      exact Ext.refl _
    | true =>
      obtain ⟨pre, b, hb, hp1, hp3, hb128⟩ := encU_hi h0
      have hcv := fun (h : Heap) => cv_rune (P := Tryz.prog) (h := h) (k' := .i32) (n := n) Tryz.underlying21 Tryz.underlying9
      have hL : (encU n).length = pre.length + 1 := by rw [hb]; simp
      have hg : (encU n).getD pre.length 0 = b := by rw [hb]; simp
      generalize encU n = eu at *
      obtain ⟨p, hp⟩ : ∃ p, p = pre.length := ⟨_, rfl⟩
      rw [← hp] at hL hg hp1 hp3
      have hw : IntKind.i64.wrap ((eu.length : Int) - 1) = (p : Int) := by rw [wrap_i64 (by omega) (by omega)]; omega
      simp only [C.s_IndexRune_gos, T.tv, seval, hcv, hw]
      refine loop_intro [0, 7, 8, 9] (fun m ρ hc => ρ = [(0, str cs), (7, str eu), (8, .int .i64 (p : Int)), (9, .int .i64 (p : Int))] ∧ hc = h1) ?_ ?_
      · simp only [T.tv, seval]
        exact ⟨0, trivial⟩
      · rintro m ρ hc ⟨rfl, rfl⟩
        by_cases hlt : p < cs.length
        · have hlt' : (p : Int) < (cs.length : Int) := by omega
          have heu : (p : Int) < (eu.length : Int) := by omega
          have hlo : (cs.getD p 0).toNat < 128 := hcs _ (by simp [hlt])
          have hne : ¬ ((cs.getD p 0).toNat : Int) = (b.toNat : Int) := by omega
          have hq : ((p : Int) + 1).toNat = p + 1 := by omega
          have hno : ib (cs.drop (p + 1)) b = -1 := ib_none fun hm => by have := hcs b (List.mem_of_mem_drop hm); omega
          simp (disch := omega) only [C.s_IndexRune_gos, T.tv, seval, hlt', hg, hne, hq]
          refine eff_callF rfl ((indexByte_any b (cs.drop (p + 1))).mono ?_)
          rintro v2 h2 ⟨rfl, rfl⟩
          rw [hno]
          have : (-1 : Int) < 0 := by decide
          simp only [C.s_IndexRune_gos, T.tv, seval, this]
          exact Ext.refl _
        · have hlt' : ¬ (p : Int) < (cs.length : Int) := by omega
          simp only [C.s_IndexRune_gos, T.tv, seval, hlt']
          exact Ext.refl _
def setV (cs : List UInt8) : List Value := (List.range 256).map fun i => .bool (cs.any fun b => decide (b.toNat = i))
theorem setV_len (cs : List UInt8) : (setV cs).length = 256 := by simp [setV]
theorem setV_one (cs : List UInt8) : ∀ u ∈ setV cs, oneCell u = true := by
  intro u hu
  obtain ⟨i, _, rfl⟩ := List.mem_map.1 hu
  rfl
theorem setV_at (cs : List UInt8) (b : UInt8) : (setV cs)[b.toNat]? = some (.bool (decide (b ∈ cs))) := by
  have hb : b.toNat < 256 := UInt8.toNat_lt b
  unfold setV
  rw [List.getElem?_map, List.getElem?_range hb]
  simp only [Option.map_some]
  congr 2
  rw [Bool.eq_iff_iff, List.any_eq_true, decide_eq_true_eq]
  constructor
  · rintro ⟨x, hx, he⟩
    have : x = b := UInt8.toNat_inj.1 (by simpa using he)
    subst this; exact hx
  · intro h; exact ⟨b, h, by simp⟩
theorem setV_snoc (cs : List UInt8) (b : UInt8) : (setV cs).set b.toNat (.bool true) = setV (cs ++ [b]) := by
  apply List.ext_getElem
  · simp [setV]
  · intro i h1 h2
    rw [List.getElem_set]
    have h3 : i < 256 := by simpa [setV] using h2
    simp only [setV, List.getElem_map, List.getElem_range, List.any_append, List.any_cons, List.any_nil, Bool.or_false]
    by_cases he : b.toNat = i
    · simp [he]
    · simp [he]
theorem setV_zr : zrT Tryz.prog 125 (setV []).toArray := by unfold zrT; kernel_rfl
theorem iar_set {b o : Nat} {k : IntKind} {i : Int} {h : Heap} (h0 : 0 ≤ i) (h1 : i < 256) : iaE Tryz.prog 125 (.pointer (some ⟨b, o, none⟩)) (.int k i) h = some (.pointer (some ⟨b, o + i.toNat * 1, none⟩)) :=
  iar_of (len := 256) (by kernel_rfl) h0 h1
theorem makeSet_any {h : Heap} (cs : List UInt8) (hcs : ∀ b ∈ cs, b.toNat < 128) (hl : cs.length ≤ 1000) :
    HCalls Tryz.prog 85 #[str cs] h fun v h' => Ext h h' ∧ v = .tuple #[.agg (setV cs).toArray, .bool true] := by
  refine C.s_makeSet_calls (args := [str cs]) rfl ?_
  simp only [C.s_makeSet_gos, T.tv]
  refine eff_alloc_z setV_zr ?_
  have E := Ext.push h (.cells (setV []).toArray 125)
  have b0 : (h.push (.cells (setV []).toArray 125))[h.size]? = some (.cells (setV []).toArray 125 (0, 0)) := by simp
  generalize h.push (.cells (setV []).toArray 125) = h1 at *
  obtain ⟨g, hg⟩ : ∃ x, x = h.size := ⟨_, rfl⟩
  rw [← hg] at b0 ⊢
  simp only [C.s_makeSet_gos, T.tv, seval]
  refine loop_intro [0, 2, 4] (fun m ρ hc => ∃ i : Nat, m = cs.length - i ∧ i ≤ cs.length ∧ ρ = [(0, str cs), (2, .pointer (some ⟨g, 0, none⟩)), (4, .int .i64 (i : Int))] ∧ Ext h hc ∧ hc[g]? = some (.cells (setV (cs.take i)).toArray 125 (0, 0))) ?_ ?_
  · simp only [T.tv, seval]
    exact ⟨_, 0, rfl, Nat.zero_le _, rfl, E, b0⟩
  rintro m ρ hc ⟨i, rfl, hi, rfl, hx, hb⟩
  by_cases hlt : i < cs.length
  · have hlt' : (i : Int) < (cs.length : Int) := by omega
    have hlo : (cs.getD i 0).toNat < 128 := hcs _ (by simp [hlt])
    have hge : ¬ (128 : Int) ≤ ((cs.getD i 0).toNat : Int) := by omega
    have h256 : ((cs.getD i 0).toNat : Int) < 256 := by omega
    have hst : cs.take (i + 1) = cs.take i ++ [cs.getD i 0] := by rw [List.take_add_one]; simp [hlt]
    generalize hbd : cs.getD i 0 = b at *
    simp (disch := omega) only [C.s_makeSet_gos, T.tv, seval, hbd, hlt', hge, iar_set]
    have hc0 : cellAt hc ⟨g, b.toNat, none⟩ = some (.bool (decide (b ∈ cs.take i))) := by
      rw [cellAt_of hb, List.getElem?_toArray, setV_at]
    have hz : frozenAt hc ⟨g, b.toNat, none⟩ = false := by unfold frozenAt; rw [hb]; simp
    refine eff_store1_z (v := .bool true) (b := g) (o := b.toNat) T.zr_4 rfl rfl rfl rfl rfl hc0 hz ?_
    have hb' := setAt_get (o := b.toNat) hb (.bool true)
    rw [List.setIfInBounds_toArray, setV_snoc, ← hst] at hb'
    have hx' : Ext h (setAt hc ⟨g, b.toNat, none⟩ (.bool true)) := Fr.trans (T := fun _ => False) hx (Fr.set (S := fun k => k = g) hc ⟨g, b.toNat, none⟩ (.bool true) fun _ => rfl) (fun _ _ h => h) fun k hk hS => by omega
    generalize setAt hc ⟨g, b.toNat, none⟩ (.bool true) = h2 at *
    simp (disch := omega) only [C.s_makeSet_gos, T.tv, seval]
    exact ⟨cs.length - (i + 1), by omega, i + 1, rfl, by omega, rfl, hx', hb'⟩
  · have hlt' : ¬ (i : Int) < (cs.length : Int) := by omega
    rw [List.take_of_length_le (by omega)] at hb
    have hld : ∀ h' : Heap, h'[g]? = some (.cells (setV cs).toArray 125 (0, 0)) → ld Tryz.prog 125 ⟨g, 0, none⟩ h' = some (.agg (setV cs).toArray) := by
      intro h' hb'
      refine ld_agg T.ag_125 (fun j v hv => ?_) (setV_len cs)
      rw [Nat.zero_add, cellAt_of hb']; simpa using hv
    have hld1 := hld hc hb
    simp only [C.s_makeSet_gos, T.tv, seval, hlt', hld1]
    refine eff_storeN_z setV_zr rfl rfl (by simp [Value.cells, setV_len]) (by simpa [Value.cells] using setV_one cs) hb (by simp [setV_len]) ?_
    intro h2 hf hb2
    have hld2 := hld h2 hb2
    have hx2 : Ext h h2 := Fr.trans (T := fun _ => False) hx hf (fun _ _ h => h) fun k hk hS => by omega
    simp only [T.tv, hld2, seval]
    exact hx2
theorem setHas_any {h : Heap} {g : Nat} {cs : List UInt8} {e : TypeId} {fz : Nat × Nat} (b : UInt8) (hb : h[g]? = some (.cells (setV cs).toArray e fz)) :
    HCalls Tryz.prog 86 #[.pointer (some ⟨g, 0, none⟩), .int .u8 (b.toNat : Int)] h fun v h' => h' = h ∧ v = .bool (decide (b ∈ cs)) := by
  refine C.s_contains_calls (args := [.pointer (some ⟨g, 0, none⟩), .int .u8 (b.toNat : Int)]) rfl ?_
  have h256 : (b.toNat : Int) < 256 := by have := UInt8.toNat_lt b; omega
  have hc0 : cellAt h ⟨g, b.toNat, none⟩ = some (.bool (decide (b ∈ cs))) := by
    rw [cellAt_of hb, List.getElem?_toArray, setV_at]
  simp (disch := omega) only [C.s_contains_gos, T.tv, seval, iar_set, hc0]
theorem should_any {h : Heap} (n : Nat) : HCalls Tryz.prog 84 #[.int .i64 (n : Int)] h fun v h' => h' = h ∧ v = .bool (decide (8 < n)) := by
  refine C.s_should_calls (args := [.int .i64 (n : Int)]) rfl ?_
  by_cases hn : 8 < n
  · have h1 : (8 : Int) < (n : Int) := by omega
    simp only [C.s_should_gos, T.tv, seval, h1, hn]
  · have h1 : ¬ (8 : Int) < (n : Int) := by omega
    simp only [C.s_should_gos, T.tv, seval, h1, hn]
theorem indexAny_any {h : Heap} (cs l : List UInt8) (hcs : ∀ b ∈ cs, b.toNat < 128) (hl2 : 2 ≤ cs.length) (hl : cs.length ≤ 1000) (hs : l.length ≤ 1099511627776) :
    HCalls Tryz.prog 67 #[str l, str cs] h fun v h' => Ext h h' ∧ ∃ k : Int, v = .int .i64 k ∧ (decide (0 ≤ k) = hasAny cs l) := by
  refine C.s_IndexAny_calls (args := [str l, str cs]) rfl ?_
  have n0 : ¬ cs = [] := by rintro rfl; simp at hl2
  have n1 : ¬ (cs.length : Int) = 1 := by omega
  simp only [C.s_IndexAny_gos, T.tv, seval, n0, n1]
  refine eff_callF rfl ((should_any l.length).mono ?_)
  rintro v1 h1 ⟨rfl, rfl⟩
  by_cases h8 : 8 < l.length
  · rw [decide_eq_true h8]
    simp only [C.s_IndexAny_gos, T.tv, seval]
    refine eff_callF rfl ((makeSet_any cs hcs hl).mono ?_)
    rintro v2 h2 ⟨hx, rfl⟩
    simp only [T.tv, seval]
    refine eff_alloc_z setV_zr ?_
    simp only [T.tv, seval]
    refine eff_store_new_z setV_zr rfl rfl (by simp [Value.cells, setV_len]) (by simpa [Value.cells] using setV_one cs) rfl ?_
    intro h3 hx3 _ _ hb3
    replace hb3 : h3[h2.size]? = some (.cells (setV cs).toArray 125 (0, 0)) := hb3
    obtain ⟨g, hg⟩ : ∃ x, x = h2.size := ⟨_, rfl⟩
    rw [← hg] at hb3 ⊢
    have hx3' := hx.trans hx3
    simp only [C.s_IndexAny_gos, T.tv, seval]
    refine loop_intro [0, 6, 8] (fun m ρ hc => ∃ i : Nat, m = l.length - i ∧ i ≤ l.length ∧ ρ = [(0, str l), (6, .pointer (some ⟨g, 0, none⟩)), (8, .int .i64 (i : Int))] ∧ hc = h3 ∧ ∀ j, j < i → l.getD j 0 ∉ cs) ?_ ?_
    · simp only [T.tv, seval]
      exact ⟨_, 0, rfl, Nat.zero_le _, rfl, fun j hj => by omega⟩
    rintro m ρ hc ⟨i, rfl, hi, rfl, rfl, hno⟩
    by_cases hlt : i < l.length
    · have hlt' : (i : Int) < (l.length : Int) := by omega
      simp (disch := omega) only [C.s_IndexAny_gos, T.tv, seval, hlt']
      refine eff_callF rfl ((setHas_any (l.getD i 0) hb3).mono ?_)
      rintro v4 h4 ⟨rfl, rfl⟩
      by_cases hin : l.getD i 0 ∈ cs
      · rw [decide_eq_true hin]
        simp only [C.s_IndexAny_gos, T.tv, seval]
        refine ⟨hx3', (i : Int), rfl, ?_⟩
        rw [hasAny_true hlt hin]; simp
      · rw [decide_eq_false hin]
        simp (disch := omega) only [C.s_IndexAny_gos, T.tv, seval]
        refine ⟨l.length - (i + 1), by omega, i + 1, rfl, by omega, rfl, fun j hj => ?_⟩
        rcases Nat.lt_or_ge j i with h' | h'
        · exact hno j h'
        · have : j = i := by omega
          subst this; exact hin
    · have hlt' : ¬ (i : Int) < (l.length : Int) := by omega
      simp only [C.s_IndexAny_gos, T.tv, seval, hlt']
      refine ⟨hx3', -1, rfl, ?_⟩
      rw [hasAny_false fun j hj => hno j (by omega)]; rfl
  · rw [decide_eq_false h8]
    simp only [C.s_IndexAny_gos, T.tv, seval]
    refine eff_range_str Tryz.underlying9 rfl ?_
    have E := Ext.push h1 (.stringIter ⟨l.toArray⟩ 0)
    have b0 : (h1.push (.stringIter ⟨l.toArray⟩ 0))[h1.size]? = some (.stringIter ⟨l.toArray⟩ 0) := by simp
    generalize h1.push (.stringIter ⟨l.toArray⟩ 0) = h2 at *
    obtain ⟨it, hit⟩ : ∃ x, x = h1.size := ⟨_, rfl⟩
    rw [← hit] at b0 ⊢
    simp only [T.tv, seval]
    refine loop_intro [1, 45] (fun m ρ hc => ∃ pos : Nat, m = l.length - pos ∧ ρ = [(1, str cs), (45, .pointer (some ⟨it, 0, none⟩))] ∧ Ext h1 hc ∧ hc[it]? = some (.stringIter ⟨l.toArray⟩ pos) ∧ ∀ j, j < pos → j < l.length → l.getD j 0 ∉ cs) ?_ ?_
    · simp only [T.tv, seval]
      exact ⟨_, 0, rfl, E, b0, fun j hj => by omega⟩
    rintro m ρ hc ⟨pos, rfl, rfl, hx, hb, hno⟩
    simp only [C.s_IndexAny_gos, T.tv]
    refine eff_next_str rfl hb ?_ ?_
    · intro hp
      by_cases hlo : (l.getD pos 0).toNat < 128
      · rw [decU_lo hlo]
        have hx2 := hx.iter (it := it) (o := .stringIter ⟨l.toArray⟩ (pos + 1)) (by omega)
        have hb2 := iter_get (o := .stringIter ⟨l.toArray⟩ (pos + 1)) hb
        generalize hc.setIfInBounds it (.stringIter ⟨l.toArray⟩ (pos + 1)) = h3 at *
        simp only [C.s_IndexAny_gos, T.tv, seval]
        refine eff_callF rfl ((indexRune_lo cs (l.getD pos 0) hlo).mono ?_)
        rintro v4 h4 ⟨rfl, rfl⟩
        by_cases hin : l.getD pos 0 ∈ cs
        · have h0 := (ib_mem (l.getD pos 0) cs).2 hin
          simp only [C.s_IndexAny_gos, T.tv, seval, h0]
          refine ⟨hx2, (pos : Int), rfl, ?_⟩
          rw [hasAny_true hp hin]; simp
        · have h0 : ¬ 0 ≤ ib cs (l.getD pos 0) := fun h => hin ((ib_mem _ _).1 h)
          simp only [T.tv, h0, seval]
          refine ⟨l.length - (pos + 1), by omega, pos + 1, rfl, hx2, hb2, fun j hj hjl => ?_⟩
          rcases Nat.lt_or_ge j pos with h' | h'
          · exact hno j h' hjl
          · have : j = pos := by omega
            subst this; exact hin
      · obtain ⟨d1, d2, d3, d4, d5⟩ := decU_hi hp hlo
        generalize decU l pos = cw at *
        obtain ⟨c, w⟩ := cw
        simp only [] at d1 d2 d3 d4 d5 ⊢
        have hx2 := hx.iter (it := it) (o := .stringIter ⟨l.toArray⟩ (pos + w)) (by omega)
        have hb2 := iter_get (o := .stringIter ⟨l.toArray⟩ (pos + w)) hb
        generalize hc.setIfInBounds it (.stringIter ⟨l.toArray⟩ (pos + w)) = h3 at *
        simp only [C.s_IndexAny_gos, T.tv, seval]
        refine eff_callF rfl ((indexRune_hi cs (c : Int) hcs hl (by omega) (by omega)).mono ?_)
        rintro v4 h4 ⟨hx4, rfl⟩
        have h0 : ¬ (0 : Int) ≤ -1 := by decide
        simp only [T.tv, h0, seval]
        have hit3 := (Array.getElem?_eq_some_iff.1 hb2).1
        refine ⟨l.length - (pos + w), by omega, pos + w, rfl, hx2.trans hx4, by rw [hx4.same it hit3 id]; exact hb2, fun j hj hjl => ?_⟩
        rcases Nat.lt_or_ge j pos with h' | h'
        · exact hno j h' hjl
        · intro hm
          have := hcs _ hm
          have := d5 j h' hj
          omega
    · intro hp
      simp only [C.s_IndexAny_gos, T.tv, seval]
      refine ⟨hx, -1, rfl, ?_⟩
      rw [hasAny_false fun j hj => hno j (by omega) hj]; rfl
theorem containsAny_any {h : Heap} (cs l : List UInt8) (hcs : ∀ b ∈ cs, b.toNat < 128) (hl2 : 2 ≤ cs.length) (hl : cs.length ≤ 1000) (hs : l.length ≤ 1099511627776) :
    HCalls Tryz.prog 54 #[str l, str cs] h fun v h' => Ext h h' ∧ v = .bool (hasAny cs l) := by
  refine C.s_ContainsAny_calls (args := [str l, str cs]) rfl ?_
  simp only [C.s_ContainsAny_gos, T.tv, seval]
  refine eff_callF rfl ((indexAny_any cs l hcs hl2 hl hs).mono ?_)
  rintro v1 h1 ⟨hx, k, rfl, hk⟩
  simp only [T.tv, hk, seval]
  exact hx
end Go.Proofs.YtflocjbhcjhenaaGreatDoor
namespace Go.Proofs.YtflocjbhcjhenaaGreatDoor
open Go.Vc
set_option maxRecDepth 100000
theorem run_ct (c : UInt8) (l : List UInt8) (w : World) : (Extern.BytealgCount.count #[str l, .int .u8 (c.toNat : Int)]).run Tryz.prog w = .ok (.int .i64 (l.count c : Nat)) w := by
  have h := Lib.run_countString (P := Tryz.prog) ⟨l.toArray⟩ (c.toNat : Int) w
  have hc : ((c.toNat : Int)).toNat.toUInt8 = c := by simp
  rw [hc] at h
  exact h
theorem count_any {h : Heap} (l : List UInt8) : HCalls Tryz.prog 105 #[str l, str [47]] h fun v h' => h' = h ∧ v = .int .i64 (l.count 47 : Nat) := by
  refine C.s_Count_calls (args := [str l, str [47]]) rfl ?_
  have f0 : ¬ (1 : Int) = 0 := by decide
  have f1 : ((1 : Nat) : Int) = 1 := rfl
  have f2 : (0 : Int) < ((([47] : List UInt8).length : Nat) : Int) := by decide
  simp (disch := omega) only [C.s_Count_gos, T.tv, seval, f0, f1]
  refine eff_callX (v := .int .i64 (l.count 47 : Nat)) rfl Tryz.func119 (by kernel_rfl) (by kernel_rfl) (by kernel_rfl) (by kernel_rfl) (run_ct 47 l) ?_
  simp only [T.tv, seval]
theorem slIndex_any {h : Heap} (l : List UInt8) : HCalls Tryz.prog 120 #[str l, str [47]] h fun v h' => h' = h ∧ v = .int .i64 (ib l 47) := by
  refine C.sl_Index_calls (args := [str l, str [47]]) rfl ?_
  have f0 : ¬ (1 : Int) = 0 := by decide
  have f1 : ((1 : Nat) : Int) = 1 := rfl
  have f2 : (0 : Int) < ((([47] : List UInt8).length : Nat) : Int) := by decide
  by_cases he : [47] = l
  · subst he
    simp only [C.sl_Index_gos, T.tv, seval, f0, f1]
    rfl
  · simp (disch := omega) only [C.sl_Index_gos, T.tv, seval, f0, f1, he]
    refine eff_callF rfl ((slIndexByte_any 47 l).mono ?_)
    rintro v1 h1 ⟨rfl, rfl⟩
    simp only [T.tv, seval]
theorem index_any {h : Heap} (l : List UInt8) : HCalls Tryz.prog 106 #[str l, str [47]] h fun v h' => h' = h ∧ v = .int .i64 (ib l 47) := by
  refine C.s_Index_calls (args := [str l, str [47]]) rfl ?_
  simp only [C.s_Index_gos, T.tv, seval]
  refine eff_callF rfl ((slIndex_any l).mono ?_)
  rintro v1 h1 ⟨rfl, rfl⟩
  simp only [T.tv, seval]
theorem genSplit_any {h : Heap} (l : List UInt8) (hl : l.length ≤ 4294967296) :
    HCalls Tryz.prog 81 #[str l, str [47], .int .i64 0, .int .i64 (-1)] h fun v h' => Ext h h' ∧ Sl h' v ((pieces [] l).map str) := by
  refine C.s_genSplit_calls (args := [str l, str [47], .int .i64 0, .int .i64 (-1)]) rfl ?_
  have f0 : ¬ ((-1 : Int) = 0) := by decide
  have f1 : ¬ (([47] : List UInt8) = []) := by decide
  have f2 : (-1 : Int) < 0 := by decide
  simp only [C.s_genSplit_gos, T.tv, seval, f0, f1, f2]
  refine eff_callF rfl ((count_any l).mono ?_)
  rintro v1 h1 ⟨rfl, rfl⟩
  obtain ⟨n, hn⟩ : ∃ n, n = l.count 47 := ⟨_, rfl⟩
  have hnl : n ≤ l.length := by rw [hn]; exact List.count_le_length
  rw [← hn]
  have f3 : (if (l.length : Int) + 1 < (n : Int) + 1 then (l.length : Int) + 1 else (n : Int) + 1) = ((n + 1 : Nat) : Int) := by rw [if_neg (by omega)]; omega
  simp (disch := omega) only [C.s_genSplit_gos, T.tv, seval, f3]
  refine eff_make T.slT_65 rfl rfl (by omega) (by omega) (by omega) ?_
  intro cs z ii hii hzz hcs
  have hsz : cs.size = n + 1 := by rw [hcs, size_madeCells]; omega
  clear hcs hzz hii
  rw [show ((n + 1 : Nat) : Int).toNat = n + 1 by omega]
  have E := Ext.push h1 (.cells cs 9)
  have b0 : (h1.push (.cells cs 9))[h1.size]? = some (.cells cs 9 (0, 0)) := by simp
  generalize h1.push (.cells cs 9) = h2 at *
  obtain ⟨g, hg⟩ : ∃ x, x = h1.size := ⟨_, rfl⟩
  rw [← hg] at b0 ⊢
  have f4 : IntKind.i64.wrap (((n + 1 : Nat) : Int) - 1) = (n : Int) := by rw [wrap_i64 (by omega) (by omega)]; omega
  simp only [C.s_genSplit_gos, T.tv, seval, f4]
  refine loop_intro [0, 1, 2, 3, 9, 10] (fun m ρ hc => ∃ (i : Nat) (done : List (List UInt8)) (r : List UInt8) (cells : Array Value), m = n - i ∧ i ≤ n ∧
    ρ = [(0, str r), (1, str [47]), (2, .int .i64 0), (3, .int .i64 (n : Int)), (9, .slice (some ⟨g, 0, none⟩) (n + 1) (n + 1)), (10, .int .i64 (i : Int))] ∧ Ext h1 hc ∧
    hc[g]? = some (.cells cells 9 (0, 0)) ∧ cells.size = n + 1 ∧ done.length = i ∧ cells.toList.take i = done.map str ∧ pieces [] l = done ++ pieces [] r ∧ r.length ≤ l.length) ?_ ?_
  · simp only [T.tv, seval]
    exact ⟨_, 0, [], l, cs, rfl, Nat.zero_le _, rfl, E, b0, hsz, rfl, by simp, by simp, Nat.le_refl _⟩
  rintro m ρ hc ⟨i, done, r, cells, rfl, hi, rfl, hx, hb, hcs, hdl, htk, hpc, hrl⟩
  have hcnt : r.count 47 = n - i := by
    have e1 := pieces_len (l := l) (acc := [])
    have e2 := pieces_len (l := r) (acc := [])
    rw [hpc, List.length_append, e2, hdl] at e1
    omega
  have store : ∀ v : List UInt8, ∃ cells' : Array Value, (setAt hc ⟨g, i, none⟩ (str v))[g]? = some (.cells cells' 9 (0, 0)) ∧ cells'.size = n + 1 ∧ cells'.toList.take (i + 1) = (done ++ [v]).map str ∧ Ext h1 (setAt hc ⟨g, i, none⟩ (str v)) := by
    intro v
    refine ⟨_, setAt_get (o := i) hb (str v), by simp [hcs], ?_, Fr.trans (T := fun _ => False) hx (Fr.set (S := fun k => k = g) hc ⟨g, i, none⟩ (str v) fun _ => rfl) (fun _ _ h => h) fun k hk hS => by omega⟩
    rw [Array.toList_setIfInBounds, List.take_add_one, List.take_set_of_le (Nat.le_refl _), htk]
    simp [hcs, show i < n + 1 by omega]
  have hz : frozenAt hc ⟨g, i, none⟩ = false := by unfold frozenAt; rw [hb]; simp
  have hil : i < cells.size := by omega
  have hc0 : cellAt hc ⟨g, i, none⟩ = some (cells[i]) := by rw [cellAt_of hb]; simp [hil]
  by_cases hlt : i < n
  · have hlt' : (i : Int) < (n : Int) := by omega
    simp only [C.s_genSplit_gos, T.tv, seval, hlt']
    refine eff_callF rfl ((index_any r).mono ?_)
    rintro v3 h3 ⟨rfl, rfl⟩
    rcases ib_spec 47 r with ⟨_, hno⟩ | ⟨k, hk, hib, hat, hnot⟩
    · exact absurd (List.count_eq_zero.2 hno) (by omega)
    rw [hib]
    have g0 : ¬ (k : Int) < 0 := by omega
    have g1 : (k : Int) ≤ (r.length : Int) := by omega
    have g2 : IntKind.i64.wrap ((k : Int) + 0) = (k : Int) := by rw [Int.add_zero, wrap_i64 (by omega) (by omega)]
    have g3 : (i : Int) < ((n + 1 : Nat) : Int) := by omega
    have g4 : IntKind.i64.wrap ((k : Int) + ((1 : Nat) : Int)) = ((k + 1 : Nat) : Int) := by rw [wrap_i64 (by omega) (by omega)]; omega
    simp (disch := omega) only [C.s_genSplit_gos, T.tv, seval, g0, g2]
    obtain ⟨cells', s1, s2, s3, s4⟩ := store (r.take k)
    refine eff_store1_z (v := str (r.take k)) (b := g) (o := i) T.zr_9 rfl rfl rfl rfl rfl hc0 hz ?_
    generalize setAt h3 ⟨g, i, none⟩ (str (r.take k)) = h4 at *
    have g5 : ((k + 1 : Nat) : Int) ≤ (r.length : Int) := by omega
    simp (disch := omega) only [C.s_genSplit_gos, T.tv, seval, g4]
    refine ⟨n - (i + 1), by omega, i + 1, done ++ [r.take k], r.drop (k + 1), cells', rfl, by omega, rfl, s4, s1, s2, by simp [hdl], s3, ?_, by rw [List.length_drop]; omega⟩
    rw [hpc, pieces_at hat hnot]; simp
  · have hlt' : ¬ (i : Int) < (n : Int) := by omega
    have hin : i = n := by omega
    have g3 : (i : Int) < ((n + 1 : Nat) : Int) := by omega
    simp (disch := omega) only [C.s_genSplit_gos, T.tv, seval, hlt']
    obtain ⟨cells', s1, s2, s3, s4⟩ := store r
    refine eff_store1_z (v := str r) (b := g) (o := i) T.zr_9 rfl rfl rfl rfl rfl hc0 hz ?_
    generalize setAt hc ⟨g, i, none⟩ (str r) = h4 at *
    simp (disch := omega) only [C.s_genSplit_gos, T.tv, seval]
    refine ⟨s4, ?_⟩
    have hno : (47 : UInt8) ∉ r := List.count_eq_zero.1 (by omega)
    have hp : pieces [] l = done ++ [r] := by rw [hpc, pieces_none hno]; simp
    rw [hp]
    have hlen : ((i : Int) + 1).toNat - 0 = ((done ++ [r]).map str).length := by rw [List.length_map, List.length_append, hdl, List.length_singleton]; omega
    rw [hlen]
    refine ⟨_, _, rfl, .inr ⟨g, 0, ?_, fun j v hv => ?_⟩⟩
    · unfold slA
      split
      · rfl
      · simp [Addr.add]
    · rw [Nat.zero_add, cellAt_of s1]
      rw [← s3, List.getElem?_take] at hv
      split at hv
      · simpa using hv
      · cases hv
theorem split_any {h : Heap} (l : List UInt8) (hl : l.length ≤ 4294967296) :
    HCalls Tryz.prog 65 #[str l, str [47]] h fun v h' => Ext h h' ∧ Sl h' v ((pieces [] l).map str) := by
  refine C.s_Split_calls (args := [str l, str [47]]) rfl ?_
  simp only [C.s_Split_gos, T.tv, seval]
  refine eff_callF rfl ((genSplit_any l hl).mono ?_)
  rintro v1 h1 ⟨hx, hs⟩
  simp only [T.tv, seval]
  exact ⟨hx, hs⟩
end Go.Proofs.YtflocjbhcjhenaaGreatDoor
