/- Lists of types compared. -/
import Derived.Test.YtohkbpnblkkdgaaMV
import Derived.Test.YtohkbpnblkkdgaaCd
namespace Go.Proofs.Ytohkbpnblkkdgaa
open Go.Vc
set_option maxRecDepth 100000
set_option linter.unusedSimpArgs false
set_option linter.unusedVariables false



set_option maxHeartbeats 1000000 in
theorem equal_any {h : Heap} (a b : List VT) (va vb : Value) (n m : Nat) (hna : a.length = n) (hmb : b.length = m) (hs : SlN h 3 va n (flatV a)) (ht : SlN h 3 vb m (flatV b)) (hlen : n ≤ 9223372036854775806) :
    HCalls Try.prog 71 #[va, vb] h fun r h' => h' = h ∧ r = .bool (decide (a = b)) := by
  refine C.slices_Equal_calls (args := [va, vb]) rfl ?_
  subst hna hmb
  have hs' := hs
  have ht' := ht
  obtain ⟨_, a1, c1, rfl, _⟩ := hs'
  obtain ⟨_, a2, c2, rfl, _⟩ := ht'
  by_cases hl : a.length = b.length
  case neg =>
    have hl' : ¬ (a.length : Int) = b.length := by omega
    have hne : decide (a = b) = false := decide_eq_false (fun h => hl (by rw [h]))
    rw [hne]
    simp (disch := first | omega | assumption) only [C.slices_Equal_gos, vs, Go.Vc.vk, T.ts, ↓reduceIte, Nat.reduceEqDiff, reduceCtorEq, Nat.reduceLeDiff, Nat.reducePow, Int.reducePow, Int.reduceToNat, Nat.reduceAdd, eq_false hl', decide_false]
  have hl' : (a.length : Int) = b.length := by omega
  simp (disch := first | omega | assumption) only [C.slices_Equal_gos, vs, Go.Vc.vk, T.ts, ↓reduceIte, Nat.reduceEqDiff, reduceCtorEq, Nat.reduceLeDiff, Nat.reducePow, Int.reducePow, Int.reduceToNat, Nat.reduceAdd, eq_true hl']
  refine loop_intro [0, 1, 12, 13] (fun m ρ hc => ∃ i : Nat, m = a.length - i ∧ i ≤ a.length ∧ ρ = [(0, .slice a1 a.length c1), (1, .slice a2 b.length c2), (12, .int .i64 a.length), (13, .int .i64 i)] ∧ hc = h ∧ a.take i = b.take i) ?_ ?_
  · simp (disch := first | omega | assumption) only [C.slices_Equal_gos, vs, Go.Vc.vk, T.ts, ↓reduceIte, Nat.reduceEqDiff, reduceCtorEq, Nat.reduceLeDiff, Nat.reducePow, Int.reducePow, Int.reduceToNat, Nat.reduceAdd, hl']
    exact ⟨_, 0, rfl, Nat.zero_le _, by first | rfl | (simp only [List.cons.injEq, Prod.mk.injEq, Value.int.injEq, true_and, and_true]; first | omega | exact ⟨by omega, rfl⟩), by simp⟩
  · rintro m ρ hc ⟨i, rfl, hi, rfl, rfl, heqi⟩
    rcases Nat.lt_or_ge i a.length with hlt | hge
    · have hlt' : (i : Int) < a.length := by omega
      have hltb : i < b.length := by omega
      have hltb' : (i : Int) < b.length := by omega
      obtain ⟨b1, o1, c1', heq, hrd, _⟩ := hs.at hlt
      obtain ⟨b2, o2, c2', heq2, hrd2, _⟩ := ht.at hltb
      cases heq
      cases heq2
      rw [flatV_at hlt] at hrd
      rw [flatV_at hltb] at hrd2
      have hta := take_snoc hlt
      have htb := take_snoc hltb
      have hdec : a.getD i VT.zero ≠ b.getD i VT.zero → a ≠ b := fun hne he => hne (by rw [he])
      generalize a.getD i VT.zero = k at *
      generalize b.getD i VT.zero = k2 at *
      have hld := ld_agg T.ag_25 hrd rfl
      have hld2 := ld_agg T.ag_25 hrd2 rfl
      have hq := fun x y => bin_row_neq (x := x) (y := y) (h := hc) (vt_eqa k) (vt_eqb k k2)
      simp only [vt_row] at hq
      by_cases hk : k = k2
      · have hd : decide (k = k2) = true := decide_eq_true hk
        rw [hd] at hq
        simp (disch := first | omega | assumption) only [C.slices_Equal_gos, vs, Go.Vc.vk, T.ts, ↓reduceIte, Nat.reduceEqDiff, reduceCtorEq, Nat.reduceLeDiff, Nat.reducePow, Int.reducePow, Int.reduceToNat, Nat.reduceAdd, hlt', hltb', hld, hld2, hq]
        exact ⟨a.length - (i + 1), by omega, i + 1, rfl, by omega, by simp, by rw [hta, htb, heqi, hk]⟩
      · have hd : decide (k = k2) = false := decide_eq_false hk
        rw [hd] at hq
        have hne : decide (a = b) = false := decide_eq_false (hdec hk)
        rw [hne]
        simp (disch := first | omega | assumption) only [C.slices_Equal_gos, vs, Go.Vc.vk, T.ts, ↓reduceIte, Nat.reduceEqDiff, reduceCtorEq, Nat.reduceLeDiff, Nat.reducePow, Int.reducePow, Int.reduceToNat, Nat.reduceAdd, hlt', hltb', hld, hld2, hq]
    · have hlt' : ¬ (i : Int) < a.length := by omega
      have e1 : a = b := by
        rw [List.take_of_length_le hge, List.take_of_length_le (by omega)] at heqi
        exact heqi
      have hd : decide (a = b) = true := decide_eq_true e1
      rw [hd]
      simp (disch := first | omega | assumption) only [C.slices_Equal_gos, vs, Go.Vc.vk, T.ts, ↓reduceIte, Nat.reduceEqDiff, reduceCtorEq, Nat.reduceLeDiff, Nat.reducePow, Int.reducePow, Int.reduceToNat, Nat.reduceAdd, hlt']


end Go.Proofs.Ytohkbpnblkkdgaa
