/- Operands of instructions, plainly, and by the program. No condition. -/
import Derived.Test.YtgdmoimclelfhaaDoorEB
namespace Go.Proofs.YtgdmoimclelfhaaDoor
open Go.Vc
set_option maxRecDepth 100000
set_option linter.unusedSimpArgs false
set_option linter.unusedVariables false

/-! ### Plainly -/
def strS (p : List Cst) (k : Nat) : List UInt8 := if isS p k 1 = true then (p.getD k Cst.zero).text else []
def isI (p : List Cst) (A : Int) (t : Nat) : Bool := decide (0 ≤ A) && isS p A.toNat t
def nameI (p : List Cst) (A : Int) : List UInt8 := strS p (p.getD A.toNat Cst.zero).a
def slotsP (ts : List (List UInt8)) : Nat := (ts.map slotP).sum
def calledP (op : Nat) (B : Int) (p : List Cst) (b : Nat) : Bool :=
  isS p b 12 && (!(decide (memP (strS p (p.getD b Cst.zero).a) true = 3) || (decide (memP (strS p (p.getD b Cst.zero).a) true = 2) && decide (op ≠ 183))) &&
    ((methP (strS p (p.getD b Cst.zero).b)).isSome && (decide (op ≠ 185) || decide (((1 + slotsP (mT (strS p (p.getD b Cst.zero).b)) : Nat) : Int) = B))))
def operP (op : Nat) (A B : Int) (p : List Cst) : Bool :=
  if op = 18 ∨ op = 19 then [3, 4, 8].any (isI p A)
  else if op = 20 then [5, 6].any (isI p A)
  else if 178 ≤ op ∧ op ≤ 181 then [9].any (isI p A)
  else if 182 ≤ op ∧ op ≤ 184 then [10].any (isI p A) && calledP op B p (p.getD A.toNat Cst.zero).b
  else if op = 185 then [11].any (isI p A) && calledP op B p (p.getD A.toNat Cst.zero).b
  else if op = 187 then [7].any (isI p A) && decide (nbr (nameI p A) = 0)
  else if op = 189 then [7].any (isI p A) && decide (nbr (nameI p A) < 255)
  else if op = 192 ∨ op = 193 then [7].any (isI p A)
  else if op = 197 then [7].any (isI p A) && decide (B ≤ (nbr (nameI p A) : Int))
  else true
theorem strS_len {p : List Cst} (H : ∀ c ∈ p, c.text.length ≤ 4294967296) (k : Nat) : (strS p k).length ≤ 4294967296 := by
  unfold strS
  split
  · rename_i h
    unfold isS at h
    simp only [Bool.and_eq_true, decide_eq_true_eq] at h
    exact H _ (by simp [h.1])
  · simp
theorem isS_lt {p : List Cst} {k t : Nat} (h : isS p k t = true) : 0 < k ∧ k < p.length := by
  unfold isS at h
  simp only [Bool.and_eq_true, decide_eq_true_eq] at h
  exact ⟨h.2.1, h.1⟩
def u16n (A : Int) : Nat := (A % 65536).toNat
theorem u16n_lt (A : Int) : u16n A < 65536 := by unfold u16n; omega
theorem u16n_wrap (A : Int) : IntKind.u16.wrap A = ((u16n A : Nat) : Int) := by
  unfold u16n
  simp only [IntKind.wrap, IntKind.signed, IntKind.bits]
  first | (simp; done) | (simp; omega) | omega
theorem isI_eq {p : List Cst} (hp : p.length ≤ 65536) (A : Int) (t : Nat) : isI p A t = (decide (((u16n A : Nat) : Int) = A) && isS p (u16n A) t) := by
  unfold isI u16n
  by_cases h0 : 0 ≤ A
  · by_cases h1 : A < 65536
    · rw [decide_eq_true h0, decide_eq_true (by omega), show (A % 65536).toNat = A.toNat by omega]
    · rw [decide_eq_false (show ¬ (((A % 65536).toNat : Nat) : Int) = A by omega), Bool.false_and]
      have : ¬ A.toNat < p.length := by omega
      unfold isS
      rw [decide_eq_false this]; simp
  · rw [decide_eq_false h0, decide_eq_false (show ¬ (((A % 65536).toNat : Nat) : Int) = A by omega)]
    simp

theorem dims_any {h : Heap} (l : List UInt8) (hl : l.length ≤ 4294967296) : HCalls Tryd.prog 22 #[str l] h fun v h' => h' = h ∧ v = .int .i64 (nbr l : Nat) := by
  refine C.code_dims_calls (args := [str l]) rfl ?_
  simp (disch := first | omega | assumption) only [C.code_dims_gos, T.tv, ↓reduceIte, Nat.reduceEqDiff, reduceCtorEq, Nat.reduceLeDiff, Nat.reducePow, Int.reducePow, Int.reduceToNat, Nat.reduceAdd]
  refine loop_intro [0, 3] (fun m ρ hc => ∃ i : Nat, m = l.length - i ∧ i ≤ l.length ∧ ρ = [(0, str l), (3, .int .i64 (i : Int))] ∧ hc = h ∧ nbr l = i + nbr (l.drop i)) ?_ ?_
  · simp (disch := first | omega | assumption) only [C.code_dims_gos, T.tv, ↓reduceIte, Nat.reduceEqDiff, reduceCtorEq, Nat.reduceLeDiff, Nat.reducePow, Int.reducePow, Int.reduceToNat, Nat.reduceAdd]
    exact ⟨_, 0, rfl, Nat.zero_le _, rfl, by simp⟩
  rintro m ρ hc ⟨i, rfl, hi, rfl, rfl, hn⟩
  by_cases hlt : i < l.length
  · have hlt' : (i : Int) < (l.length : Int) := by omega
    have hd : l.drop i = l.getD i 0 :: l.drop (i + 1) := by rw [List.drop_eq_getElem_cons hlt]; simp [hlt]
    by_cases hb : l.getD i 0 = 91
    · have hb' : ((l.getD i 0).toNat : Int) = 91 := by rw [hb]; rfl
      have w1 : IntKind.i64.wrap ((i : Int) + 1) = ((i + 1 : Nat) : Int) := by rw [wrap_i64 (by omega) (by omega)]; omega
      simp (disch := first | omega | assumption) only [C.code_dims_gos, T.tv, ↓reduceIte, Nat.reduceEqDiff, reduceCtorEq, Nat.reduceLeDiff, Nat.reducePow, Int.reducePow, Int.reduceToNat, Nat.reduceAdd, hlt', hb', w1, decide_true, decide_false]
      refine ⟨l.length - (i + 1), by omega, i + 1, rfl, by omega, rfl, ?_⟩
      rw [hn, hd, nbr, if_pos hb]; omega
    · have hb' : ¬ ((l.getD i 0).toNat : Int) = 91 := by
        intro e; apply hb; apply UInt8.toNat_inj.1; show _ = 91; omega
      have hni : nbr l = i := by rw [hn, hd, nbr, if_neg hb]; rfl
      rw [hni]
      simp (disch := first | omega | assumption) only [C.code_dims_gos, T.tv, ↓reduceIte, Nat.reduceEqDiff, reduceCtorEq, Nat.reduceLeDiff, Nat.reducePow, Int.reducePow, Int.reduceToNat, Nat.reduceAdd, hlt', hb', decide_true, decide_false]
  · have hil : i = l.length := by omega
    subst hil
    have hlt' : ¬ (l.length : Int) < (l.length : Int) := by omega
    have hni : nbr l = l.length := by rw [hn, List.drop_length]; rfl
    rw [hni]
    simp (disch := first | omega | assumption) only [C.code_dims_gos, T.tv, ↓reduceIte, Nat.reduceEqDiff, reduceCtorEq, Nat.reduceLeDiff, Nat.reducePow, Int.reducePow, Int.reduceToNat, Nat.reduceAdd, hlt', decide_true, decide_false]

section
variable {p : List Cst} {vp : Value} {g1 g2 g3 : Nat} {A : Int}
theorem cis_any {h : Heap} {tv : Value} (ts : List Nat) (hlen : ts.length ≤ 1000) (hts : Sl h tv (ts.map fun t : Nat => .int .u8 (t : Int)))
    (c1 : cellAt h ⟨g1, 0, none⟩ = some (.int .u16 ((u16n A : Nat) : Int))) (c2 : cellAt h ⟨g2, 3, none⟩ = some (.int .i64 A)) (c3 : cellAt h ⟨g3, 0, none⟩ = some vp) (hp : p.length ≤ 65536) (hs : SlN h 5 vp p.length (flatS p)) :
    HCalls Tryd.prog 17 #[tv, .pointer (some ⟨g1, 0, none⟩), .pointer (some ⟨g2, 0, none⟩), .pointer (some ⟨g3, 0, none⟩)] h fun v h' => h' = h ∧ v = .bool (ts.any (isI p A)) := by
  refine C.code_is_calls (args := [tv, .pointer (some ⟨g1, 0, none⟩), .pointer (some ⟨g2, 0, none⟩), .pointer (some ⟨g3, 0, none⟩)]) rfl ?_
  have hts' := hts
  obtain ⟨a, c, rfl, _⟩ := hts'
  rw [List.length_map]
  simp (disch := first | omega | assumption) only [C.code_is_gos, T.tv, ↓reduceIte, Nat.reduceEqDiff, reduceCtorEq, Nat.reduceLeDiff, Nat.reducePow, Int.reducePow, Int.reduceToNat, Nat.reduceAdd]
  refine loop_intro [1, 2, 3, 8, 9, 10] (fun m ρ hc => ∃ i : Nat, m = ts.length - i ∧ i ≤ ts.length ∧
    ρ = [(1, .pointer (some ⟨g1, 0, none⟩)), (2, .pointer (some ⟨g2, 0, none⟩)), (3, .pointer (some ⟨g3, 0, none⟩)), (8, .slice a ts.length c), (9, .int .i64 (ts.length : Int)), (10, .int .i64 (i : Int))] ∧ hc = h ∧ (ts.take i).any (isI p A) = false) ?_ ?_
  · simp (disch := first | omega | assumption) only [C.code_is_gos, T.tv, ↓reduceIte, Nat.reduceEqDiff, reduceCtorEq, Nat.reduceLeDiff, Nat.reducePow, Int.reducePow, Int.reduceToNat, Nat.reduceAdd]
    exact ⟨_, 0, rfl, Nat.zero_le _, rfl, by simp⟩
  rintro m ρ hc ⟨i, rfl, hi, rfl, rfl, hno⟩
  by_cases hlt : i < ts.length
  · have hlt' : (i : Int) < (ts.length : Int) := by omega
    obtain ⟨b, o, c', heq, _, hcell⟩ := hts.at (i := i) (by simpa using hlt)
    rw [List.length_map] at heq
    cases heq
    have hcell' : cellAt hc ⟨b, o + i, none⟩ = some (.int .u8 ((ts.getD i 0 : Nat) : Int)) := by rw [hcell]; simp [hlt]
    have hst : ts.take (i + 1) = ts.take i ++ [ts.getD i 0] := by rw [List.take_add_one]; simp [hlt]
    have hmem : ts.getD i 0 ∈ ts := by simp [hlt]
    have w1 : IntKind.i64.wrap ((i : Int) + 1) = ((i + 1 : Nat) : Int) := by rw [wrap_i64 (by omega) (by omega)]; omega
    have w2 : IntKind.i64.wrap ((u16n A : Nat) : Int) = ((u16n A : Nat) : Int) := by have := u16n_lt A; rw [wrap_i64 (by omega) (by omega)]
    have hisI := isI_eq hp A (ts.getD i 0)
    generalize ts.getD i 0 = t at *
    have nxt : isI p A t = false → ∃ m' < ts.length - i, ∃ j : Nat, m' = ts.length - j ∧ j ≤ ts.length ∧
        ([(1, .pointer (some ⟨g1, 0, none⟩)), (2, .pointer (some ⟨g2, 0, none⟩)), (3, .pointer (some ⟨g3, 0, none⟩)), (8, .slice (some ⟨b, o, none⟩) ts.length c), (9, .int .i64 (ts.length : Int)), (10, .int .i64 ((i + 1 : Nat) : Int))] : Env) =
        [(1, .pointer (some ⟨g1, 0, none⟩)), (2, .pointer (some ⟨g2, 0, none⟩)), (3, .pointer (some ⟨g3, 0, none⟩)), (8, .slice (some ⟨b, o, none⟩) ts.length c), (9, .int .i64 (ts.length : Int)), (10, .int .i64 (j : Int))] ∧ (ts.take j).any (isI p A) = false := by
      intro hf
      refine ⟨ts.length - (i + 1), by omega, i + 1, rfl, by omega, rfl, ?_⟩
      rw [hst, List.any_append, hno]
      simp [hf]
    by_cases hk : ((u16n A : Nat) : Int) = A
    · rw [decide_eq_true hk, Bool.true_and] at hisI
      have hdk : decide (((u16n A : Nat) : Int) = A) = true := decide_eq_true hk
      simp (disch := first | omega | assumption) only [C.code_is_gos, T.tv, ↓reduceIte, Nat.reduceEqDiff, reduceCtorEq, Nat.reduceLeDiff, Nat.reducePow, Int.reducePow, Int.reduceToNat, Nat.reduceAdd, hlt', hcell', c1, c2, c3, w2, hdk]
      refine eff_callF rfl ((is_any (u16n A) t (u16n_lt A) hs).mono ?_)
      rintro v1 h1 ⟨rfl, rfl⟩
      rw [← hisI]
      cases hb : isI p A t with
      | true =>
        simp (disch := first | omega | assumption) only [C.code_is_gos, T.tv, ↓reduceIte, Nat.reduceEqDiff, reduceCtorEq, Nat.reduceLeDiff, Nat.reducePow, Int.reducePow, Int.reduceToNat, Nat.reduceAdd]
        have : ts.any (isI p A) = true := List.any_eq_true.2 ⟨t, hmem, hb⟩
        rw [this]
      | false =>
        simp (disch := first | omega | assumption) only [C.code_is_gos, T.tv, ↓reduceIte, Nat.reduceEqDiff, reduceCtorEq, Nat.reduceLeDiff, Nat.reducePow, Int.reducePow, Int.reduceToNat, Nat.reduceAdd, w1]
        exact nxt hb
    · rw [decide_eq_false hk, Bool.false_and] at hisI
      have hdk : decide (((u16n A : Nat) : Int) = A) = false := decide_eq_false hk
      simp (disch := first | omega | assumption) only [C.code_is_gos, T.tv, ↓reduceIte, Nat.reduceEqDiff, reduceCtorEq, Nat.reduceLeDiff, Nat.reducePow, Int.reducePow, Int.reduceToNat, Nat.reduceAdd, hlt', hcell', c1, c2, c3, w2, hdk, w1]
      exact nxt hisI
  · have hlt' : ¬ (i : Int) < (ts.length : Int) := by omega
    rw [List.take_of_length_le (by omega)] at hno
    rw [hno]
    simp (disch := first | omega | assumption) only [C.code_is_gos, T.tv, ↓reduceIte, Nat.reduceEqDiff, reduceCtorEq, Nat.reduceLeDiff, Nat.reducePow, Int.reducePow, Int.reduceToNat, Nat.reduceAdd, hlt', decide_true, decide_false]
theorem cclass_any {h : Heap} {k : Nat} (hk : k < p.length) (hk6 : k < 65536) (hf : ∀ c ∈ p, c.Fit)
    (c1 : cellAt h ⟨g1, 0, none⟩ = some (.int .u16 (k : Int))) (c3 : cellAt h ⟨g3, 0, none⟩ = some vp) (hs : SlN h 5 vp p.length (flatS p)) :
    HCalls Tryd.prog 19 #[.pointer (some ⟨g3, 0, none⟩), .pointer (some ⟨g1, 0, none⟩)] h fun v h' => h' = h ∧ v = str (strS p (p.getD k Cst.zero).a) := by
  refine C.code_class_calls (args := [.pointer (some ⟨g3, 0, none⟩), .pointer (some ⟨g1, 0, none⟩)]) rfl ?_
  have hk' : (k : Int) < (p.length : Int) := by omega
  obtain ⟨b, o, c', rfl, hrd, _⟩ := hs.at hk
  rw [flatS_at hk] at hrd
  have hfa : (p.getD k Cst.zero).a < 65536 := (hf _ (by simp [hk])).a
  generalize p.getD k Cst.zero = x at *
  have c4 : cellAt h ⟨b, o + k * 5 + 3, none⟩ = some (.int .u16 (x.a : Int)) := hrd 3 _ rfl
  simp (disch := first | omega | assumption) only [C.code_class_gos, T.tv, ↓reduceIte, Nat.reduceEqDiff, reduceCtorEq, Nat.reduceLeDiff, Nat.reducePow, Int.reducePow, Int.reduceToNat, Nat.reduceAdd, c1, c3, hk', c4]
  refine eff_callF rfl ((string_any x.a hfa hs).mono ?_)
  rintro v1 h1 ⟨rfl, rfl⟩
  simp (disch := first | omega | assumption) only [C.code_class_gos, T.tv, ↓reduceIte, Nat.reduceEqDiff, reduceCtorEq, Nat.reduceLeDiff, Nat.reducePow, Int.reducePow, Int.reduceToNat, Nat.reduceAdd, c1, c3, hk', c4]
  rfl
end
end Go.Proofs.YtgdmoimclelfhaaDoor
