/- The decoder of instructions: more operands. -/
import Derived.Test.YtjpcpkhegjndeaaND3
namespace Go.Proofs.Ytjpcpkhegjndeaa
open Go.Vc
set_option maxRecDepth 100000
set_option linter.unusedSimpArgs false
set_option linter.unusedVariables false

theorem XR.mono {h : Heap} {base base' q : Nat} {x : In} (H : XR h base q x) (hb : base' ≤ base) : XR h base' q x := by
  obtain ⟨vk, vt, h1, h2, h3, h4⟩ := H
  exact ⟨vk, vt, h1, h2.mono hb, h3.mono hb, h4⟩
section
variable {h : Heap} {g q : Nat} {l : List UInt8} {s : RS}
theorem DS.start {x : In} (hk : x.keys = []) (ht : x.tgts = []) (H : Rdr h g l s) (hq : h[q]? = some (.cells (InV x (.slice none 0 0) (.slice none 0 0)).toArray 35 (0, 0))) :
    DS h (h.push (.cells #[.pointer (some ⟨g, 0, none⟩)] 52)) g q h.size l x s :=
  ⟨Fr.mono (Ext.push h _) (fun _ _ h => h.elim), H.fr (Ext.push h _) id, ⟨_, _, push_blk hq, by rw [hk]; exact Own.nil, by rw [ht]; exact Own.nil, by intro k hk; simp [Value.ownBlock] at hk⟩, by simp⟩
set_option maxHeartbeats 8000000 in
theorem dmore_any (x : In) (a f : Nat) (hf : f = 0 ∨ f = 10 ∨ f = 11 ∨ f = 12 ∨ f = 13 ∨ f = 14) (hl : l.length ≤ 1073741824) (ha : x.at' = (a : Int)) (hal : a ≤ l.length) (hk : x.keys = []) (ht : x.tgts = [])
    (H : Rdr h g l s) (hq : h[q]? = some (.cells (InV x (.slice none 0 0) (.slice none 0 0)).toArray 35 (0, 0))) :
    HCalls Try.prog 37 #[.agg #[.pointer (some ⟨g, 0, none⟩)], .pointer (some ⟨q, 0, none⟩), .int .i64 f] h fun _ h' =>
      Fr (fun k => k = g ∨ k = q) h h' ∧ Rdr h' g l (opsD x a f l s).2 ∧ XR h' h.size q (opsD x a f l s).1 := by
  refine C.dec_more_calls (args := [.agg #[.pointer (some ⟨g, 0, none⟩)], .pointer (some ⟨q, 0, none⟩), .int .i64 f]) rfl ?_
  generalize hY : opsD x a f l s = Y
  unfold opsD at hY
  simp (disch := first | omega | assumption) only [C.dec_more_gos, vs, Go.Vc.vk, T.ts, ↓reduceIte, Nat.reduceEqDiff, reduceCtorEq, Nat.reduceLeDiff, Nat.reducePow, Int.reducePow, Int.reduceToNat, Nat.reduceAdd]
  refine eff_box ?_
  have D0 := DS.start hk ht H hq
  have q0 := push_blk (o' := .cells #[.pointer (some ⟨g, 0, none⟩)] 52) hq
  have hs0 : h.size ≤ (h.push (.cells #[.pointer (some ⟨g, 0, none⟩)] 52)).size := by simp
  simp (disch := first | omega | assumption) only [C.dec_more_gos, vs, Go.Vc.vk, T.ts, ↓reduceIte, Nat.reduceEqDiff, reduceCtorEq, Nat.reduceLeDiff, Nat.reducePow, Int.reducePow, Int.reduceToNat, Nat.reduceAdd]
  generalize h.push (.cells #[.pointer (some ⟨g, 0, none⟩)] 52) = h1 at *
  have fx0 := D0.cells
  rw [ha] at fx0
  rcases hf with rfl | rfl | rfl | rfl | rfl | rfl
  · simp only [Nat.reduceEqDiff, if_false, false_or, or_false] at hY
    subst hY
    rw [show ((0 : Nat) : Int) = 0 from rfl]
    simp (disch := first | omega | assumption) only [C.dec_more_gos, vs, Go.Vc.vk, T.ts, ↓reduceIte, Nat.reduceEqDiff, reduceCtorEq, Nat.reduceLeDiff, Nat.reducePow, Int.reducePow, Int.reduceToNat, Nat.reduceAdd, fx0, Int.reduceEq, decide_true, decide_false]
    exact ⟨D0.fr, D0.rd, D0.xr⟩
  · simp only [Nat.reduceEqDiff, if_false, if_true, true_or] at hY
    rw [show ((10 : Nat) : Int) = 10 from rfl]
    simp (disch := first | omega | assumption) only [C.dec_more_gos, vs, Go.Vc.vk, T.ts, ↓reduceIte, Nat.reduceEqDiff, reduceCtorEq, Nat.reduceLeDiff, Nat.reducePow, Int.reducePow, Int.reduceToNat, Nat.reduceAdd, fx0, Int.reduceEq, decide_true, decide_false]
    refine eff_call_of ?_
    simp (disch := first | omega | assumption) only [C.dec_more_gos, vs, Go.Vc.vk, T.ts, ↓reduceIte, Nat.reduceEqDiff, reduceCtorEq, Nat.reduceLeDiff, Nat.reducePow, Int.reducePow, Int.reduceToNat, Nat.reduceAdd]
    refine (dcho_any x a 10 (Or.inl rfl) hl ha hal hk ht D0.rd q0).mono ?_
    intro v2 h2 hp2
    rw [hY] at hp2
    simp (disch := first | omega | assumption) only [C.dec_more_gos, vs, Go.Vc.vk, T.ts, ↓reduceIte, Nat.reduceEqDiff, reduceCtorEq, Nat.reduceLeDiff, Nat.reducePow, Int.reducePow, Int.reduceToNat, Nat.reduceAdd]
    exact ⟨Fr.trans D0.fr hp2.1 (fun _ _ h => h) (fun _ _ h => h), hp2.2.1, hp2.2.2.mono hs0⟩
  · simp only [Nat.reduceEqDiff, if_false, if_true, or_true] at hY
    rw [show ((11 : Nat) : Int) = 11 from rfl]
    simp (disch := first | omega | assumption) only [C.dec_more_gos, vs, Go.Vc.vk, T.ts, ↓reduceIte, Nat.reduceEqDiff, reduceCtorEq, Nat.reduceLeDiff, Nat.reducePow, Int.reducePow, Int.reduceToNat, Nat.reduceAdd, fx0, Int.reduceEq, decide_true, decide_false]
    refine eff_call_of ?_
    simp (disch := first | omega | assumption) only [C.dec_more_gos, vs, Go.Vc.vk, T.ts, ↓reduceIte, Nat.reduceEqDiff, reduceCtorEq, Nat.reduceLeDiff, Nat.reducePow, Int.reducePow, Int.reduceToNat, Nat.reduceAdd]
    refine (dcho_any x a 11 (Or.inr rfl) hl ha hal hk ht D0.rd q0).mono ?_
    intro v2 h2 hp2
    rw [hY] at hp2
    simp (disch := first | omega | assumption) only [C.dec_more_gos, vs, Go.Vc.vk, T.ts, ↓reduceIte, Nat.reduceEqDiff, reduceCtorEq, Nat.reduceLeDiff, Nat.reducePow, Int.reducePow, Int.reduceToNat, Nat.reduceAdd]
    exact ⟨Fr.trans D0.fr hp2.1 (fun _ _ h => h) (fun _ _ h => h), hp2.2.1, hp2.2.2.mono hs0⟩
  · simp only [Nat.reduceEqDiff, if_false, if_true, or_false, false_or] at hY
    rw [show ((12 : Nat) : Int) = 12 from rfl]
    simp (disch := first | omega | assumption) only [C.dec_more_gos, vs, Go.Vc.vk, T.ts, ↓reduceIte, Nat.reduceEqDiff, reduceCtorEq, Nat.reduceLeDiff, Nat.reducePow, Int.reducePow, Int.reduceToNat, Nat.reduceAdd, fx0, Int.reduceEq, decide_true, decide_false]
    refine eff_call_of ?_
    simp (disch := first | omega | assumption) only [C.dec_more_gos, vs, Go.Vc.vk, T.ts, ↓reduceIte, Nat.reduceEqDiff, reduceCtorEq, Nat.reduceLeDiff, Nat.reducePow, Int.reducePow, Int.reduceToNat, Nat.reduceAdd]
    refine (num_any 2 hl (by omega) D0.rd).mono ?_
    intro v2 h2 hp2
    have D2 := D0.step hp2.1 hp2.2.1
    have hv2 := hp2.2.2
    clear hp2
    have fx2 := D2.cells
    rw [ha] at fx2
    simp (disch := first | omega | assumption) only [C.dec_more_gos, vs, Go.Vc.vk, T.ts, ↓reduceIte, Nat.reduceEqDiff, reduceCtorEq, Nat.reduceLeDiff, Nat.reducePow, Int.reducePow, Int.reduceToNat, Nat.reduceAdd, fx2, hv2]
    refine eff_call_of ?_
    simp (disch := first | omega | assumption) only [C.dec_more_gos, vs, Go.Vc.vk, T.ts, ↓reduceIte, Nat.reduceEqDiff, reduceCtorEq, Nat.reduceLeDiff, Nat.reducePow, Int.reducePow, Int.reduceToNat, Nat.reduceAdd]
    refine (num_any 1 hl (by omega) D2.rd).mono ?_
    intro v3 h3 hp3
    have D3 := D2.step hp3.1 hp3.2.1
    have hv3 := hp3.2.2
    clear hp3
    have fx3 := D3.cells
    rw [ha] at fx3
    have bn : (numS l 1 (numS l 2 s).2).1 < 256 := numS_lt
    generalize numS l 2 s = A at *
    obtain ⟨av, s2⟩ := A
    simp only at *
    generalize numS l 1 s2 = B at *
    obtain ⟨bv, s3⟩ := B
    simp only at *
    simp (disch := first | omega | assumption) only [C.dec_more_gos, vs, Go.Vc.vk, T.ts, ↓reduceIte, Nat.reduceEqDiff, reduceCtorEq, Nat.reduceLeDiff, Nat.reducePow, Int.reducePow, Int.reduceToNat, Nat.reduceAdd, hv2, hv3, fx3]
    refine eff_store1_z T.zr_3 rfl rfl rfl rfl rfl fx3.2.2.2.1 (D3.notfz 3) ?_
    have D4 := D3.set 3 (.int .i64 av) { x with A := av } rfl rfl (fun _ _ => rfl)
    generalize setAt h3 ⟨q, 3, none⟩ _ = h4 at *
    have fx4 := D4.cells
    rw [ha] at fx4
    simp (disch := first | omega | assumption) only [C.dec_more_gos, vs, Go.Vc.vk, T.ts, ↓reduceIte, Nat.reduceEqDiff, reduceCtorEq, Nat.reduceLeDiff, Nat.reducePow, Int.reducePow, Int.reduceToNat, Nat.reduceAdd, hv3, fx4]
    refine eff_store1_z T.zr_3 rfl rfl rfl rfl rfl fx4.2.2.2.2.1 (D4.notfz 4) ?_
    have D5 := D4.set 4 (.int .i64 bv) { x with A := av, B := bv } rfl rfl (fun _ _ => rfl)
    generalize setAt h4 ⟨q, 4, none⟩ _ = h5 at *
    have fx5 := D5.cells
    rw [ha] at fx5
    simp (disch := first | omega | assumption) only [C.dec_more_gos, vs, Go.Vc.vk, T.ts, ↓reduceIte, Nat.reduceEqDiff, reduceCtorEq, Nat.reduceLeDiff, Nat.reducePow, Int.reducePow, Int.reduceToNat, Nat.reduceAdd, fx5]
    refine eff_call_of ?_
    simp (disch := first | omega | assumption) only [C.dec_more_gos, vs, Go.Vc.vk, T.ts, ↓reduceIte, Nat.reduceEqDiff, reduceCtorEq, Nat.reduceLeDiff, Nat.reducePow, Int.reducePow, Int.reduceToNat, Nat.reduceAdd]
    refine (num_any 1 hl (by omega) D5.rd).mono ?_
    intro v6 h6 hp6
    have D6 := D5.step hp6.1 hp6.2.1
    have hv6 := hp6.2.2
    clear hp6
    have fx6 := D6.cells
    rw [ha] at fx6
    generalize numS l 1 s3 = Cc at *
    obtain ⟨cv, s6⟩ := Cc
    simp only at *
    by_cases hc0 : cv = 0
    · have hc0' : (cv : Int) = 0 := by omega
      by_cases hb0 : bv = 0
      · have hb0' : (bv : Int) = 0 := by omega
        rw [if_pos (Or.inr hb0)] at hY
        subst hY
        simp (disch := first | omega | assumption) only [C.dec_more_gos, vs, Go.Vc.vk, T.ts, ↓reduceIte, Nat.reduceEqDiff, reduceCtorEq, Nat.reduceLeDiff, Nat.reducePow, Int.reducePow, Int.reduceToNat, Nat.reduceAdd, hv6, fx6, eq_true hc0', eq_true hb0']
        refine eff_call_of ?_
        simp (disch := first | omega | assumption) only [C.dec_more_gos, vs, Go.Vc.vk, T.ts, ↓reduceIte, Nat.reduceEqDiff, reduceCtorEq, Nat.reduceLeDiff, Nat.reducePow, Int.reducePow, Int.reduceToNat, Nat.reduceAdd]
        refine (fail_any 15 a D6.rd).mono ?_
        intro v7 h7 hp7
        have D7 := D6.step hp7.1 hp7.2
        clear hp7
        simp (disch := first | omega | assumption) only [C.dec_more_gos, vs, Go.Vc.vk, T.ts, ↓reduceIte, Nat.reduceEqDiff, reduceCtorEq, Nat.reduceLeDiff, Nat.reducePow, Int.reducePow, Int.reduceToNat, Nat.reduceAdd]
        exact ⟨D7.fr, D7.rd, D7.xr⟩
      · have hb0' : ¬ (bv : Int) = 0 := by omega
        rw [if_neg (by simp [hc0, hb0])] at hY
        subst hY
        simp (disch := first | omega | assumption) only [C.dec_more_gos, vs, Go.Vc.vk, T.ts, ↓reduceIte, Nat.reduceEqDiff, reduceCtorEq, Nat.reduceLeDiff, Nat.reducePow, Int.reducePow, Int.reduceToNat, Nat.reduceAdd, hv6, fx6, eq_true hc0', eq_false hb0']
        exact ⟨D6.fr, D6.rd, D6.xr⟩
    · have hc0' : ¬ (cv : Int) = 0 := by omega
      rw [if_pos (Or.inl hc0)] at hY
      subst hY
      simp (disch := first | omega | assumption) only [C.dec_more_gos, vs, Go.Vc.vk, T.ts, ↓reduceIte, Nat.reduceEqDiff, reduceCtorEq, Nat.reduceLeDiff, Nat.reducePow, Int.reducePow, Int.reduceToNat, Nat.reduceAdd, hv6, fx6, eq_false hc0']
      refine eff_call_of ?_
      simp (disch := first | omega | assumption) only [C.dec_more_gos, vs, Go.Vc.vk, T.ts, ↓reduceIte, Nat.reduceEqDiff, reduceCtorEq, Nat.reduceLeDiff, Nat.reducePow, Int.reducePow, Int.reduceToNat, Nat.reduceAdd]
      refine (fail_any 15 a D6.rd).mono ?_
      intro v7 h7 hp7
      have D7 := D6.step hp7.1 hp7.2
      clear hp7
      simp (disch := first | omega | assumption) only [C.dec_more_gos, vs, Go.Vc.vk, T.ts, ↓reduceIte, Nat.reduceEqDiff, reduceCtorEq, Nat.reduceLeDiff, Nat.reducePow, Int.reducePow, Int.reduceToNat, Nat.reduceAdd]
      exact ⟨D7.fr, D7.rd, D7.xr⟩
  · simp only [Nat.reduceEqDiff, if_false, if_true, or_false, false_or] at hY
    rw [show ((13 : Nat) : Int) = 13 from rfl]
    simp (disch := first | omega | assumption) only [C.dec_more_gos, vs, Go.Vc.vk, T.ts, ↓reduceIte, Nat.reduceEqDiff, reduceCtorEq, Nat.reduceLeDiff, Nat.reducePow, Int.reducePow, Int.reduceToNat, Nat.reduceAdd, fx0, Int.reduceEq, decide_true, decide_false]
    refine eff_call_of ?_
    simp (disch := first | omega | assumption) only [C.dec_more_gos, vs, Go.Vc.vk, T.ts, ↓reduceIte, Nat.reduceEqDiff, reduceCtorEq, Nat.reduceLeDiff, Nat.reducePow, Int.reducePow, Int.reduceToNat, Nat.reduceAdd]
    refine (num_any 1 hl (by omega) D0.rd).mono ?_
    intro v2 h2 hp2
    have D2 := D0.step hp2.1 hp2.2.1
    have hv2 := hp2.2.2
    clear hp2
    have fx2 := D2.cells
    rw [ha] at fx2
    generalize numS l 1 s = A at *
    obtain ⟨av, s2⟩ := A
    simp only at *
    simp (disch := first | omega | assumption) only [C.dec_more_gos, vs, Go.Vc.vk, T.ts, ↓reduceIte, Nat.reduceEqDiff, reduceCtorEq, Nat.reduceLeDiff, Nat.reducePow, Int.reducePow, Int.reduceToNat, Nat.reduceAdd, hv2, fx2]
    refine eff_store1_z T.zr_3 rfl rfl rfl rfl rfl fx2.2.2.2.1 (D2.notfz 3) ?_
    have D4 := D2.set 3 (.int .i64 av) { x with A := av } rfl rfl (fun _ _ => rfl)
    generalize setAt h2 ⟨q, 3, none⟩ _ = h4 at *
    have fx4 := D4.cells
    rw [ha] at fx4
    by_cases g1 : av < 4
    · have g1' : (av : Int) < 4 := by omega
      rw [if_pos (Or.inl g1)] at hY
      subst hY
      simp (disch := first | omega | assumption) only [C.dec_more_gos, vs, Go.Vc.vk, T.ts, ↓reduceIte, Nat.reduceEqDiff, reduceCtorEq, Nat.reduceLeDiff, Nat.reducePow, Int.reducePow, Int.reduceToNat, Nat.reduceAdd, fx4, g1']
      refine eff_call_of ?_
      simp (disch := first | omega | assumption) only [C.dec_more_gos, vs, Go.Vc.vk, T.ts, ↓reduceIte, Nat.reduceEqDiff, reduceCtorEq, Nat.reduceLeDiff, Nat.reducePow, Int.reducePow, Int.reduceToNat, Nat.reduceAdd]
      refine (fail_any 15 a D4.rd).mono ?_
      intro v7 h7 hp7
      have D7 := D4.step hp7.1 hp7.2
      clear hp7
      simp (disch := first | omega | assumption) only [C.dec_more_gos, vs, Go.Vc.vk, T.ts, ↓reduceIte, Nat.reduceEqDiff, reduceCtorEq, Nat.reduceLeDiff, Nat.reducePow, Int.reducePow, Int.reduceToNat, Nat.reduceAdd]
      exact ⟨D7.fr, D7.rd, D7.xr⟩
    · have g1' : ¬ (av : Int) < 4 := by omega
      by_cases g2 : 11 < av
      · have g2' : (11 : Int) < (av : Int) := by omega
        rw [if_pos (Or.inr g2)] at hY
        subst hY
        simp (disch := first | omega | assumption) only [C.dec_more_gos, vs, Go.Vc.vk, T.ts, ↓reduceIte, Nat.reduceEqDiff, reduceCtorEq, Nat.reduceLeDiff, Nat.reducePow, Int.reducePow, Int.reduceToNat, Nat.reduceAdd, fx4, g1', g2']
        refine eff_call_of ?_
        simp (disch := first | omega | assumption) only [C.dec_more_gos, vs, Go.Vc.vk, T.ts, ↓reduceIte, Nat.reduceEqDiff, reduceCtorEq, Nat.reduceLeDiff, Nat.reducePow, Int.reducePow, Int.reduceToNat, Nat.reduceAdd]
        refine (fail_any 15 a D4.rd).mono ?_
        intro v7 h7 hp7
        have D7 := D4.step hp7.1 hp7.2
        clear hp7
        simp (disch := first | omega | assumption) only [C.dec_more_gos, vs, Go.Vc.vk, T.ts, ↓reduceIte, Nat.reduceEqDiff, reduceCtorEq, Nat.reduceLeDiff, Nat.reducePow, Int.reducePow, Int.reduceToNat, Nat.reduceAdd]
        exact ⟨D7.fr, D7.rd, D7.xr⟩
      · have g2' : ¬ (11 : Int) < (av : Int) := by omega
        rw [if_neg (by omega)] at hY
        subst hY
        simp (disch := first | omega | assumption) only [C.dec_more_gos, vs, Go.Vc.vk, T.ts, ↓reduceIte, Nat.reduceEqDiff, reduceCtorEq, Nat.reduceLeDiff, Nat.reducePow, Int.reducePow, Int.reduceToNat, Nat.reduceAdd, fx4, g1', g2']
        exact ⟨D4.fr, D4.rd, D4.xr⟩
  · simp only [Nat.reduceEqDiff, if_false, if_true, or_false, false_or] at hY
    rw [show ((14 : Nat) : Int) = 14 from rfl]
    simp (disch := first | omega | assumption) only [C.dec_more_gos, vs, Go.Vc.vk, T.ts, ↓reduceIte, Nat.reduceEqDiff, reduceCtorEq, Nat.reduceLeDiff, Nat.reducePow, Int.reducePow, Int.reduceToNat, Nat.reduceAdd, fx0, Int.reduceEq, decide_true, decide_false]
    refine eff_call_of ?_
    simp (disch := first | omega | assumption) only [C.dec_more_gos, vs, Go.Vc.vk, T.ts, ↓reduceIte, Nat.reduceEqDiff, reduceCtorEq, Nat.reduceLeDiff, Nat.reducePow, Int.reducePow, Int.reduceToNat, Nat.reduceAdd]
    refine (num_any 2 hl (by omega) D0.rd).mono ?_
    intro v2 h2 hp2
    have D2 := D0.step hp2.1 hp2.2.1
    have hv2 := hp2.2.2
    clear hp2
    have fx2 := D2.cells
    rw [ha] at fx2
    simp (disch := first | omega | assumption) only [C.dec_more_gos, vs, Go.Vc.vk, T.ts, ↓reduceIte, Nat.reduceEqDiff, reduceCtorEq, Nat.reduceLeDiff, Nat.reducePow, Int.reducePow, Int.reduceToNat, Nat.reduceAdd, fx2, hv2]
    refine eff_call_of ?_
    simp (disch := first | omega | assumption) only [C.dec_more_gos, vs, Go.Vc.vk, T.ts, ↓reduceIte, Nat.reduceEqDiff, reduceCtorEq, Nat.reduceLeDiff, Nat.reducePow, Int.reducePow, Int.reduceToNat, Nat.reduceAdd]
    refine (num_any 1 hl (by omega) D2.rd).mono ?_
    intro v3 h3 hp3
    have D3 := D2.step hp3.1 hp3.2.1
    have hv3 := hp3.2.2
    clear hp3
    have fx3 := D3.cells
    rw [ha] at fx3
    generalize numS l 2 s = A at *
    obtain ⟨av, s2⟩ := A
    simp only at *
    generalize numS l 1 s2 = B at *
    obtain ⟨bv, s3⟩ := B
    simp only at *
    simp (disch := first | omega | assumption) only [C.dec_more_gos, vs, Go.Vc.vk, T.ts, ↓reduceIte, Nat.reduceEqDiff, reduceCtorEq, Nat.reduceLeDiff, Nat.reducePow, Int.reducePow, Int.reduceToNat, Nat.reduceAdd, hv2, hv3, fx3]
    refine eff_store1_z T.zr_3 rfl rfl rfl rfl rfl fx3.2.2.2.1 (D3.notfz 3) ?_
    have D4 := D3.set 3 (.int .i64 av) { x with A := av } rfl rfl (fun _ _ => rfl)
    generalize setAt h3 ⟨q, 3, none⟩ _ = h4 at *
    have fx4 := D4.cells
    rw [ha] at fx4
    simp (disch := first | omega | assumption) only [C.dec_more_gos, vs, Go.Vc.vk, T.ts, ↓reduceIte, Nat.reduceEqDiff, reduceCtorEq, Nat.reduceLeDiff, Nat.reducePow, Int.reducePow, Int.reduceToNat, Nat.reduceAdd, hv3, fx4]
    refine eff_store1_z T.zr_3 rfl rfl rfl rfl rfl fx4.2.2.2.2.1 (D4.notfz 4) ?_
    have D5 := D4.set 4 (.int .i64 bv) { x with A := av, B := bv } rfl rfl (fun _ _ => rfl)
    generalize setAt h4 ⟨q, 4, none⟩ _ = h5 at *
    have fx5 := D5.cells
    rw [ha] at fx5
    by_cases hb0 : bv = 0
    · have hb0' : (bv : Int) = 0 := by omega
      rw [if_pos hb0] at hY
      subst hY
      simp (disch := first | omega | assumption) only [C.dec_more_gos, vs, Go.Vc.vk, T.ts, ↓reduceIte, Nat.reduceEqDiff, reduceCtorEq, Nat.reduceLeDiff, Nat.reducePow, Int.reducePow, Int.reduceToNat, Nat.reduceAdd, fx5, eq_true hb0']
      refine eff_call_of ?_
      simp (disch := first | omega | assumption) only [C.dec_more_gos, vs, Go.Vc.vk, T.ts, ↓reduceIte, Nat.reduceEqDiff, reduceCtorEq, Nat.reduceLeDiff, Nat.reducePow, Int.reducePow, Int.reduceToNat, Nat.reduceAdd]
      refine (fail_any 15 a D5.rd).mono ?_
      intro v7 h7 hp7
      have D7 := D5.step hp7.1 hp7.2
      clear hp7
      simp (disch := first | omega | assumption) only [C.dec_more_gos, vs, Go.Vc.vk, T.ts, ↓reduceIte, Nat.reduceEqDiff, reduceCtorEq, Nat.reduceLeDiff, Nat.reducePow, Int.reducePow, Int.reduceToNat, Nat.reduceAdd]
      exact ⟨D7.fr, D7.rd, D7.xr⟩
    · have hb0' : ¬ (bv : Int) = 0 := by omega
      rw [if_neg hb0] at hY
      subst hY
      simp (disch := first | omega | assumption) only [C.dec_more_gos, vs, Go.Vc.vk, T.ts, ↓reduceIte, Nat.reduceEqDiff, reduceCtorEq, Nat.reduceLeDiff, Nat.reducePow, Int.reducePow, Int.reduceToNat, Nat.reduceAdd, fx5, eq_false hb0']
      exact ⟨D5.fr, D5.rd, D5.xr⟩
end
end Go.Proofs.Ytjpcpkhegjndeaa
