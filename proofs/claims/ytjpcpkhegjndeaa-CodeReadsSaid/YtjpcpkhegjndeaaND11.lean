/- The decoder of instructions, by the reference: one instruction, whole. -/
import Derived.Test.YtjpcpkhegjndeaaND10
namespace Go.Proofs.Ytjpcpkhegjndeaa
open Go.Vc
set_option maxRecDepth 100000
set_option linter.unusedSimpArgs false
set_option linter.unusedVariables false

theorem oneR_nf (l : List UInt8) (p : Nat) (o : Nat × RS) (hb : formS o.1 = 15 → formS (numS l 1 o.2).1 ≠ 6 ∧ formS (numS l 1 o.2).1 ≠ 7 → False) :
    oneR l p o = if formS o.1 = 15 then opsD (ins0 p (numS l 1 o.2).1 true) p (formS (numS l 1 o.2).1) l (numS l 1 o.2).2 else opsD (ins0 p o.1 false) p (formS o.1) l o.2 := by
  unfold oneR
  by_cases h : formS o.1 = 15
  · rw [if_pos h, if_pos h, if_neg (fun hh => hb h hh)]
  · rw [if_neg h, if_neg h]
theorem ops0 (x : In) (a : Nat) (l : List UInt8) (s : RS) : opsD x a 0 l s = (x, s) := rfl
theorem letS_w1 : ∀ f, f < 16 → (([letS f] : List UInt8) = [119] ↔ f = 15) := by decide +kernel
theorem letS_l1 : ∀ f, f < 16 → (([letS f] : List UInt8) = [108] ↔ f = 6) := by decide +kernel
theorem letS_n1 : ∀ f, f < 16 → (([letS f] : List UInt8) = [110] ↔ f = 7) := by decide +kernel
section
variable {h : Heap} {g : Nat} {l : List UInt8} {s : RS}
set_option maxHeartbeats 8000000 in
theorem cone_any (hl : l.length ≤ 1073741824) (H : Cutr h g l s) :
    HCalls Try.prog 26 #[.pointer (some ⟨g, 0, none⟩)] h (OneC h g l (oneD l s)) := by
  refine C.cut_one_calls (args := [.pointer (some ⟨g, 0, none⟩)]) rfl ?_
  rw [oneD_eq]
  have hgl := H.lt
  have hpl := H.2
  simp (disch := first | omega | assumption) only [C.cut_one_gos, vs, Go.Vc.vk, T.ts, ↓reduceIte, Nat.reduceEqDiff, reduceCtorEq, Nat.reduceLeDiff, Nat.reducePow, Int.reducePow, Int.reduceToNat, Nat.reduceAdd]
  refine eff_alloc_z T.zr_35 ?_
  have E1 := Ext.push h (.cells #[.int .i64 0, .int .u8 0, .bool false, .int .i64 0, .int .i64 0, .int .i64 0, .slice none 0 0, .slice none 0 0] 35)
  have r1 : (h.push (.cells #[.int .i64 0, .int .u8 0, .bool false, .int .i64 0, .int .i64 0, .int .i64 0, .slice none 0 0, .slice none 0 0] 35))[h.size]? = some (.cells #[.int .i64 0, .int .u8 0, .bool false, .int .i64 0, .int .i64 0, .int .i64 0, .slice none 0 0, .slice none 0 0] 35 (0, 0)) := by simp
  have s1 : (h.push (.cells #[.int .i64 0, .int .u8 0, .bool false, .int .i64 0, .int .i64 0, .int .i64 0, .slice none 0 0, .slice none 0 0] 35)).size = h.size + 1 := by simp
  have H1 := H.fr E1 id
  have c1 := H1.c1
  simp (disch := first | omega | assumption) only [C.cut_one_gos, vs, Go.Vc.vk, T.ts, ↓reduceIte, Nat.reduceEqDiff, reduceCtorEq, Nat.reduceLeDiff, Nat.reducePow, Int.reducePow, Int.reduceToNat, Nat.reduceAdd, c1]
  generalize h.push (.cells #[.int .i64 0, .int .u8 0, .bool false, .int .i64 0, .int .i64 0, .int .i64 0, .slice none 0 0, .slice none 0 0] 35) = h1 at *
  refine eff_alloc_z T.zr_35 ?_
  simp (disch := first | omega | assumption) only [C.cut_one_gos, vs, Go.Vc.vk, T.ts, ↓reduceIte, Nat.reduceEqDiff, reduceCtorEq, Nat.reduceLeDiff, Nat.reducePow, Int.reducePow, Int.reduceToNat, Nat.reduceAdd]
  refine eff_store_new_z T.zr_35 rfl rfl rfl (by simp [Value.cells, oneCell]) rfl ?_
  intro h3 x3 hlt3 hrd3 b3
  change h3[h1.size]? = some (.cells (InV (ins0 s.p 0 false) (.slice none 0 0) (.slice none 0 0)).toArray 35 (0, 0)) at b3
  rw [s1] at b3 ⊢
  have D0 : ER' h h3 g (h.size + 1) h.size l (ins0 s.p 0 false) s :=
    ⟨⟨Fr.mono (E1.trans x3) (fun _ _ h => h.elim), H1.fr x3 id, ⟨_, _, b3, Own.nil, Own.nil, by intro k hk; simp [Value.ownBlock] at hk⟩⟩, Fr_blk x3 r1 id, by omega, by omega, by omega⟩
  obtain ⟨q, hq⟩ : ∃ q, q = h.size + 1 := ⟨_, rfl⟩
  obtain ⟨rb, hrb⟩ : ∃ rb, rb = h.size := ⟨_, rfl⟩
  have D0' : ER' h h3 g q rb l (ins0 s.p 0 false) s := by rw [hq, hrb]; exact D0
  have q0 : h3[q]? = some (.cells (InV (ins0 s.p 0 false) (.slice none 0 0) (.slice none 0 0)).toArray 35 (0, 0)) := by rw [hq]; exact b3
  rw [← hq, ← hrb]
  clear D0 b3 hrd3 r1 s1 H1 c1 x3 E1 hq hrb hlt3
  simp (disch := first | omega | assumption) only [C.cut_one_gos, vs, Go.Vc.vk, T.ts, ↓reduceIte, Nat.reduceEqDiff, reduceCtorEq, Nat.reduceLeDiff, Nat.reducePow, Int.reducePow, Int.reduceToNat, Nat.reduceAdd]
  refine eff_call_of ?_
  simp (disch := first | omega | assumption) only [C.cut_one_gos, vs, Go.Vc.vk, T.ts, ↓reduceIte, Nat.reduceEqDiff, reduceCtorEq, Nat.reduceLeDiff, Nat.reducePow, Int.reducePow, Int.reduceToNat, Nat.reduceAdd]
  refine (cnum_any 1 hl (by omega) D0'.d.rd).mono ?_
  intro v4 h4 hp4
  have D4 := D0'.step hp4.1 hp4.2.1
  have hv4 := hp4.2.2
  have q4 := Fr_blk hp4.1 q0 D0'.d.gq
  clear hp4
  have bn : (numS l 1 s).1 < 256 := numS_lt
  generalize numS l 1 s = T at *
  obtain ⟨op, s4⟩ := T
  simp only at hv4 D4 bn
  have hfl := formS_lt op bn
  have hfq := frm_eq op bn
  simp (disch := first | omega | assumption) only [C.cut_one_gos, vs, Go.Vc.vk, T.ts, ↓reduceIte, Nat.reduceEqDiff, reduceCtorEq, Nat.reduceLeDiff, Nat.reducePow, Int.reducePow, Int.reduceToNat, Nat.reduceAdd, hv4]
  refine eff_call_of ?_
  simp (disch := first | omega | assumption) only [C.cut_one_gos, vs, Go.Vc.vk, T.ts, ↓reduceIte, Nat.reduceEqDiff, reduceCtorEq, Nat.reduceLeDiff, Nat.reducePow, Int.reducePow, Int.reduceToNat, Nat.reduceAdd]
  refine (rform_any op bn h4).mono ?_
  intro v5 h5 hp5
  have e5 := hp5.1
  subst e5
  have hv5 := hp5.2
  rw [hfq] at hv5
  clear hp5 hfq
  by_cases hw : formS op = 15
  case neg =>
    have hw' : (([letS (formS op)] : List UInt8) = [119]) = False := eq_false (fun e => hw ((letS_w1 _ hfl).1 e))
    have hwr : IntKind.u8.wrap (op : Int) = (op : Int) := wrap_u8 (by omega) (by omega)
    have hY : oneR l s.p (op, s4) = opsD (ins0 s.p op false) s.p (formS op) l s4 := by
      unfold oneR; rw [if_neg hw]
    rw [hY]
    have fx4 := D4.d.cells
    simp (disch := first | omega | assumption) only [C.cut_one_gos, vs, Go.Vc.vk, T.ts, ↓reduceIte, Nat.reduceEqDiff, reduceCtorEq, Nat.reduceLeDiff, Nat.reducePow, Int.reducePow, Int.reduceToNat, Nat.reduceAdd, hv4, hv5, hw', hwr]
    refine eff_store1_z T.zr_5 rfl rfl rfl rfl rfl fx4.2.1 (D4.d.notfz 1) ?_
    have D6 := D4.set 1 (.int .u8 op) (ins0 s.p op false) rfl rfl (fun _ _ => rfl)
    have q6 := setAt_get (o := 1) q4 (.int .u8 op)
    generalize setAt _ ⟨q, 1, none⟩ _ = h6 at *
    have h14 := c14_any (ins0 s.p op false) s.p (formS op) h6 1 (.int .i64 op) (.bool false) undef (by omega) rfl hl rfl hpl rfl rfl D6 q6
    simp (disch := first | omega | assumption) only [C.cut_one_gos, vs, Go.Vc.vk, T.ts, ↓reduceIte, Nat.reduceEqDiff, reduceCtorEq, Nat.reduceLeDiff, Nat.reducePow, Int.reducePow, Int.reduceToNat, Nat.reduceAdd]
    exact h14
  have hw' : (([letS (formS op)] : List UInt8) = [119]) = True := eq_true ((letS_w1 _ hfl).2 hw)
  have fx4 := D4.d.cells
  simp (disch := first | omega | assumption) only [C.cut_one_gos, vs, Go.Vc.vk, T.ts, ↓reduceIte, Nat.reduceEqDiff, reduceCtorEq, Nat.reduceLeDiff, Nat.reducePow, Int.reducePow, Int.reduceToNat, Nat.reduceAdd, hv4, hv5, hw']
  refine eff_store1_z T.zr_4 rfl rfl rfl rfl rfl fx4.2.2.1 (D4.d.notfz 2) ?_
  have D6 := D4.set 2 (.bool true) (ins0 s.p 0 true) rfl rfl (fun _ _ => rfl)
  have q6 := setAt_get (o := 2) q4 (.bool true)
  generalize setAt _ ⟨q, 2, none⟩ _ = h6 at *
  simp (disch := first | omega | assumption) only [C.cut_one_gos, vs, Go.Vc.vk, T.ts, ↓reduceIte, Nat.reduceEqDiff, reduceCtorEq, Nat.reduceLeDiff, Nat.reducePow, Int.reducePow, Int.reduceToNat, Nat.reduceAdd]
  refine eff_call_of ?_
  simp (disch := first | omega | assumption) only [C.cut_one_gos, vs, Go.Vc.vk, T.ts, ↓reduceIte, Nat.reduceEqDiff, reduceCtorEq, Nat.reduceLeDiff, Nat.reducePow, Int.reducePow, Int.reduceToNat, Nat.reduceAdd]
  refine (cnum_any 1 hl (by omega) D6.d.rd).mono ?_
  intro v7 h7 hp7
  have D7 := D6.step hp7.1 hp7.2.1
  have hv7 := hp7.2.2
  have q7 := Fr_blk hp7.1 q6 D6.d.gq
  clear hp7
  have bn2 : (numS l 1 s4).1 < 256 := numS_lt
  have hYd : oneR l s.p (op, s4) = if formS (numS l 1 s4).1 ≠ 6 ∧ formS (numS l 1 s4).1 ≠ 7 then (ins0 s.p (numS l 1 s4).1 true, failS 14 s.p (numS l 1 s4).2) else opsD (ins0 s.p (numS l 1 s4).1 true) s.p (formS (numS l 1 s4).1) l (numS l 1 s4).2 := by
    unfold oneR; rw [if_pos hw]
  rw [hYd]
  clear hYd
  generalize numS l 1 s4 = T2 at *
  obtain ⟨op2, s7⟩ := T2
  simp only at hv7 D7 bn2 ⊢
  have hfl2 := formS_lt op2 bn2
  have hfq2 := frm_eq op2 bn2
  have hwr : IntKind.u8.wrap (op2 : Int) = (op2 : Int) := wrap_u8 (by omega) (by omega)
  simp (disch := first | omega | assumption) only [C.cut_one_gos, vs, Go.Vc.vk, T.ts, ↓reduceIte, Nat.reduceEqDiff, reduceCtorEq, Nat.reduceLeDiff, Nat.reducePow, Int.reducePow, Int.reduceToNat, Nat.reduceAdd, hv7]
  refine eff_call_of ?_
  simp (disch := first | omega | assumption) only [C.cut_one_gos, vs, Go.Vc.vk, T.ts, ↓reduceIte, Nat.reduceEqDiff, reduceCtorEq, Nat.reduceLeDiff, Nat.reducePow, Int.reducePow, Int.reduceToNat, Nat.reduceAdd]
  refine (rform_any op2 bn2 h7).mono ?_
  intro v8 h8 hp8
  have e8 := hp8.1
  subst e8
  have hv8 := hp8.2
  rw [hfq2] at hv8
  clear hp8 hfq2
  by_cases hbad : formS op2 ≠ 6 ∧ formS op2 ≠ 7
  · rw [if_pos hbad]
    have g6 : (([letS (formS op2)] : List UInt8) = [108]) = False := eq_false (fun e => hbad.1 ((letS_l1 _ hfl2).1 e))
    have g7 : (([letS (formS op2)] : List UInt8) = [110]) = False := eq_false (fun e => hbad.2 ((letS_n1 _ hfl2).1 e))
    have fx7 := D7.d.cells
    have e0 : (ins0 s.p 0 true).at' = (s.p : Int) := rfl
    rw [e0] at fx7
    simp (disch := first | omega | assumption) only [C.cut_one_gos, vs, Go.Vc.vk, T.ts, ↓reduceIte, Nat.reduceEqDiff, reduceCtorEq, Nat.reduceLeDiff, Nat.reducePow, Int.reducePow, Int.reduceToNat, Nat.reduceAdd, hv7, hv8, fx7, g6, g7]
    refine eff_call_of ?_
    simp (disch := first | omega | assumption) only [C.cut_one_gos, vs, Go.Vc.vk, T.ts, ↓reduceIte, Nat.reduceEqDiff, reduceCtorEq, Nat.reduceLeDiff, Nat.reducePow, Int.reducePow, Int.reduceToNat, Nat.reduceAdd]
    refine (cfail_any 14 s.p D7.d.rd).mono ?_
    intro v9 h9 hp9
    have D9 := D7.step hp9.1 hp9.2
    have q9 := Fr_blk hp9.1 q7 D7.d.gq
    clear hp9
    have fx9 := D9.d.cells
    simp (disch := first | omega | assumption) only [C.cut_one_gos, vs, Go.Vc.vk, T.ts, ↓reduceIte, Nat.reduceEqDiff, reduceCtorEq, Nat.reduceLeDiff, Nat.reducePow, Int.reducePow, Int.reduceToNat, Nat.reduceAdd, hwr]
    refine eff_store1_z T.zr_5 rfl rfl rfl rfl rfl fx9.2.1 (D9.d.notfz 1) ?_
    have D10 := D9.set 1 (.int .u8 op2) (ins0 s.p op2 true) rfl rfl (fun _ _ => rfl)
    have q10 := setAt_get (o := 1) q9 (.int .u8 op2)
    generalize setAt _ ⟨q, 1, none⟩ _ = h10 at *
    have h14 := c14_any (ins0 s.p op2 true) s.p 0 h10 2 (.int .i64 op2) (.bool true) (.bool true) (by omega) rfl hl rfl hpl rfl rfl D10 q10
    rw [ops0] at h14
    simp (disch := first | omega | assumption) only [C.cut_one_gos, vs, Go.Vc.vk, T.ts, ↓reduceIte, Nat.reduceEqDiff, reduceCtorEq, Nat.reduceLeDiff, Nat.reducePow, Int.reducePow, Int.reduceToNat, Nat.reduceAdd]
    exact h14
  · rw [if_neg hbad]
    have g67 : ((([letS (formS op2)] : List UInt8) = [108]) = True) ∨ (((([letS (formS op2)] : List UInt8) = [108]) = False) ∧ ((([letS (formS op2)] : List UInt8) = [110]) = True)) := by
      by_cases h6 : formS op2 = 6
      · exact Or.inl (eq_true ((letS_l1 _ hfl2).2 h6))
      · exact Or.inr ⟨eq_false (fun e => h6 ((letS_l1 _ hfl2).1 e)), eq_true ((letS_n1 _ hfl2).2 (by omega))⟩
    have fx7 := D7.d.cells
    rcases g67 with fc | fc
    all_goals
      simp (disch := first | omega | assumption) only [C.cut_one_gos, vs, Go.Vc.vk, T.ts, ↓reduceIte, Nat.reduceEqDiff, reduceCtorEq, Nat.reduceLeDiff, Nat.reducePow, Int.reducePow, Int.reduceToNat, Nat.reduceAdd, hv7, hv8, fx7, fc, hwr]
      refine eff_store1_z T.zr_5 rfl rfl rfl rfl rfl fx7.2.1 (D7.d.notfz 1) ?_
      have D10 := D7.set 1 (.int .u8 op2) (ins0 s.p op2 true) rfl rfl (fun _ _ => rfl)
      have q10 := setAt_get (o := 1) q7 (.int .u8 op2)
      generalize setAt _ ⟨q, 1, none⟩ _ = h10 at *
      have h14 := c14_any (ins0 s.p op2 true) s.p (formS op2) h10 2 (.int .i64 op2) (.bool true) (.bool false) (by omega) rfl hl rfl hpl rfl rfl D10 q10
      simp (disch := first | omega | assumption) only [C.cut_one_gos, vs, Go.Vc.vk, T.ts, ↓reduceIte, Nat.reduceEqDiff, reduceCtorEq, Nat.reduceLeDiff, Nat.reducePow, Int.reducePow, Int.reduceToNat, Nat.reduceAdd]
      exact h14
end
end Go.Proofs.Ytjpcpkhegjndeaa
