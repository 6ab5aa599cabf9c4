/- A reference's space made; the program's space and the reference's side by side; one step of both. No condition. -/
import Derived.Test.YtidkokdkldfglaaWD
import Derived.Test.YtidkokdkldfglaaWH
import Derived.Test.YtidkokdkldfglaaUQ
namespace Go.Proofs.Ytidkokdkldfglaa
open Go.Vc
set_option maxRecDepth 100000
set_option linter.unusedSimpArgs false
set_option linter.unusedVariables false

def m00 (n : Nat) : Ms := ⟨[nul3], List.replicate 16 0, n, 0, fun _ => none, fun _ => none⟩
theorem ri0 {n : Nat} (hn : n ≤ 16384) : RI (m00 n) (a0 n) := by
  have one : ∀ (k : Nat) c, k ≠ 0 → (m00 n).L[k]? ≠ some c := fun k c h0 h => by
    obtain ⟨j, rfl⟩ : ∃ j, k = j + 1 := ⟨k - 1, by omega⟩
    cases h
  have A : AInv (a0 n) := by
    refine ⟨by simp [a0], fun r hr => ?_, fun k th hk x hx => ?_, rfl, fun k th hk => ?_⟩
    · rw [List.eq_of_mem_replicate hr]; exact Nat.zero_lt_one
    · match k with
      | 0 => cases hk; cases hx
      | k + 1 => cases hk
    · match k with
      | 0 => cases hk; exact ⟨Nat.zero_le _, Nat.zero_le _⟩
      | k + 1 => cases hk
  refine ⟨A, rfl, rfl, rfl, hn, fun k c th h0 hc => absurd hc (one k c h0), fun k c h0 hc => absurd hc (one k c h0), fun c hc => ?_, fun i j c d g hi hj hc => absurd hc (one i c hi), fun i j c d g hi hj hc => absurd hc (one i c hi), ⟨0, total0 n, Nat.le_refl _⟩, Nat.zero_le _⟩
  cases hc; exact ⟨rfl, rfl, rfl, rfl⟩
theorem mNew_any {h : Heap} {n : Nat} (hn : n ≤ 16384) : HCalls Try.prog 16 #[.int .i64 (n : Int)] h fun v h' => Ext h h' ∧ ∃ p m, v = ptr p.M 0 ∧ GdM h.size h' p m (a0 n) := by
  refine C.m_New_calls (args := [.int .i64 (n : Int)]) rfl ?_
  simp (disch := first | omega | assumption) only [C.m_New_gos, T.tv, ↓reduceIte, Nat.reduceEqDiff, reduceCtorEq, Nat.reduceLeDiff, Nat.reducePow, Int.reducePow, Int.reduceToNat, Nat.reduceAdd]
  refine eff_lits T.slT_58 rfl rfl (by decide) ?_
  simp (disch := first | omega | assumption) only [C.m_New_gos, T.tv, ↓reduceIte, Nat.reduceEqDiff, reduceCtorEq, Nat.reduceLeDiff, Nat.reducePow, Int.reducePow, Int.reduceToNat, Nat.reduceAdd]
  have e16 : (16 : Int) = ((16 : Nat) : Int) := rfl
  refine eff_mkint (n := 16) rfl rfl (by omega) ?_
  simp (disch := first | omega | assumption) only [C.m_New_gos, T.tv, ↓reduceIte, Nat.reduceEqDiff, reduceCtorEq, Nat.reduceLeDiff, Nat.reducePow, Int.reducePow, Int.reduceToNat, Nat.reduceAdd, Array.size_push]
  refine eff_box ?_
  simp (disch := first | omega | assumption) only [C.m_New_gos, T.tv, ↓reduceIte, Nat.reduceEqDiff, reduceCtorEq, Nat.reduceLeDiff, Nat.reducePow, Int.reducePow, Int.reduceToNat, Nat.reduceAdd, Array.size_push]
  have E : Ext h (((h.push (.cells #[.slice none 0 0, .slice none 0 0, .bool false] 65 (0, 0))).push (.cells ((List.replicate 16 0).map intV).toArray 3 (0, 0))).push
      (.cells #[.slice (some ⟨h.size, 0, none⟩) 1 1, .slice (some ⟨h.size + 1, 0, none⟩) 16 16, .int .i64 (n : Int), .int .i64 0] 61 (0, 0))) := ((Ext.push _ _).trans (Ext.push _ _)).trans (Ext.push _ _)
  refine ⟨E, ⟨h.size + 1 + 1, h.size, 1, h.size + 1⟩, m00 n, rfl, ⟨?_, ri0 hn, E.size⟩⟩
  have hrp : (((h.push (.cells #[.slice none 0 0, .slice none 0 0, .bool false] 65 (0, 0))).push (.cells ((List.replicate 16 0).map intV).toArray 3 (0, 0))).push
      (.cells #[.slice (some ⟨h.size, 0, none⟩) 1 1, .slice (some ⟨h.size + 1, 0, none⟩) 16 16, .int .i64 (n : Int), .int .i64 0] 61 (0, 0)))[h.size + 1]? = some (.cells ((List.replicate 16 0).map intV).toArray 3 (0, 0)) := push3_1
  exact ⟨push3_2, ⟨rfl, .inr ⟨h.size, 1, _, (0, 0), rfl, Nat.le_refl _, push3_0, fun j _ => by simp, Nat.le_refl _, by decide, rfl, rfl⟩⟩, hrp, fun g l hg => (by cases hg), fun g l hg => (by cases hg), (by show h.size ≤ h.size + 1 + 1; omega), (by show h.size ≤ h.size + 1; omega)⟩
theorem GdM.base {base base' : Nat} {h : Heap} {p : Pm} {m : Ms} {a : AS} (G : GdM base h p m a) (hb : base' ≤ base) : GdM base' h p m a :=
  ⟨⟨G.r.mp, G.r.lo.mono hb, G.r.rp, fun g l hg => ⟨Nat.le_trans hb (G.r.rs g l hg).1, (G.r.rs g l hg).2⟩, fun g l hg => ⟨Nat.le_trans hb (G.r.ws g l hg).1, (G.r.ws g l hg).2⟩, Nat.le_trans hb G.r.bs.1, Nat.le_trans hb G.r.bs.2⟩, G.i, Nat.le_trans hb G.b⟩
/-- The program's space and the reference's, apart. -/
structure Two (h0 hc : Heap) (wb : Nat) (pa : Ph) (sa : St) (A : AS) (pm : Pm) (m : Ms) (B : AS) : Prop where
  a : Gd h0.size hc pa sa A
  b : GdM h0.size hc pm m B
  d : ∀ k, foot pa sa k → ¬ footM pm m k
  w : hc[wb]? = some (.cells #[ptr pa.S 0, ptr pm.M 0] 29 (0, 0))
  wa : ¬ foot pa sa wb
  wm : ¬ footM pm m wb
  x : Ext h0 hc
section
variable {h0 hc h' : Heap} {wb : Nat} {pa : Ph} {sa : St} {A A' B B' : AS} {pm : Pm} {m : Ms}
theorem Two.wl (T : Two h0 hc wb pa sa A pm m B) : wb < hc.size := (Array.getElem?_eq_some_iff.1 T.w).1
theorem Two.left (T : Two h0 hc wb pa sa A pm m B) (N : Nx h0.size hc h' pa sa A') : ∃ pa' sa', Two h0 h' wb pa' sa' A' pm m B ∧ pa'.S = pa.S ∧ ∀ k, k < hc.size → ¬ foot pa sa k → h'[k]? = hc[k]? := by
  obtain ⟨p', s', S, pk, I, M, er⟩ := N
  have sm : ∀ k, k < hc.size → ¬ foot pa sa k → h'[k]? = hc[k]? := fun k hk hf => S.fr.same k hk hf
  refine ⟨p', s', ⟨⟨S.rep, I, M, by rw [er]; exact T.a.ro, Nat.le_trans T.a.b S.fr.size⟩, ⟨T.b.r.fr S.fr fun k hk hf => T.d k hf hk, T.b.i, Nat.le_trans T.b.b S.fr.size⟩, fun k hk hm => ?_, ?_, fun hf => ?_, T.wm, Fr.trans T.x S.fr (fun _ _ h => h) fun k hk hf => by have := (T.a.r.lt hf).1; omega⟩, pk.1, sm⟩
  · rcases S.nw k hk with h | h
    · exact T.d k h hm
    · have := (T.b.r.lt hm).2; omega
  · rw [sm wb T.wl T.wa, pk.1]; exact T.w
  · rcases S.nw wb hf with h | h
    · exact T.wa h
    · have := T.wl; omega
theorem Two.right (T : Two h0 hc wb pa sa A pm m B) (N : NxM h0.size hc h' pm m B') : ∃ pm' m', Two h0 h' wb pa sa A pm' m' B' ∧ pm'.M = pm.M ∧ ∀ k, k < hc.size → ¬ footM pm m k → h'[k]? = hc[k]? := by
  obtain ⟨p', s', S, pk, I⟩ := N
  have sm : ∀ k, k < hc.size → ¬ footM pm m k → h'[k]? = hc[k]? := fun k hk hf => S.fr.same k hk hf
  refine ⟨p', s', ⟨⟨T.a.r.fr S.fr fun k hk hf => T.d k hk hf, T.a.i, T.a.m, T.a.ro, Nat.le_trans T.a.b S.fr.size⟩, ⟨S.rep, I, Nat.le_trans T.b.b S.fr.size⟩, fun k hk hm => ?_, ?_, T.wa, fun hf => ?_, Fr.trans T.x S.fr (fun _ _ h => h) fun k hk hf => by have := (T.b.r.lt hf).1; omega⟩, pk, sm⟩
  · rcases S.nw k hm with h | h
    · exact T.d k hk h
    · have := (T.a.r.lt hk).2; omega
  · rw [sm wb T.wl T.wm, pk]; exact T.w
  · rcases S.nw wb hf with h | h
    · exact T.wm h
    · have := T.wl; omega
theorem Two.ext (T : Two h0 hc wb pa sa A pm m B) (E : Ext hc h') : Two h0 h' wb pa sa A pm m B :=
  ⟨T.a.ext E, ⟨T.b.r.ext E, T.b.i, Nat.le_trans T.b.b E.size⟩, T.d, by rw [E.same wb T.wl _root_.id]; exact T.w, T.wa, T.wm, T.x.trans E⟩
theorem Two.w0 (T : Two h0 hc wb pa sa A pm m B) : cellAt hc ⟨wb, 0, none⟩ = some (ptr pa.S 0) := by rw [cellAt_of T.w]; rfl
theorem Two.w1 (T : Two h0 hc wb pa sa A pm m B) : cellAt hc ⟨wb, 1, none⟩ = some (ptr pm.M 0) := by rw [cellAt_of T.w]; rfl
theorem ans_len (a : AS) (o : OpP) : (ans a o).1.things.length ≤ a.things.length + 1 := by
  unfold ans
  split
  · unfold aMake
    split
    · exact Nat.le_succ _
    · split
      · exact Nat.le_succ _
      · split
        · show (a.things ++ [_]).length ≤ _; simp
        · exact Nat.le_succ _
  split
  · unfold aCopy; split <;> exact Nat.le_succ _
  split
  · unfold aDrop; split <;> exact Nat.le_succ _
  split
  · unfold aPut; split
    · show (a.things.set _ _).length ≤ _; rw [List.length_set]; exact Nat.le_succ _
    · exact Nat.le_succ _
  split
  · unfold aGet; split <;> exact Nat.le_succ _
  split
  · unfold aSet; split
    · show (a.things.set _ _).length ≤ _; rw [List.length_set]; exact Nat.le_succ _
    · exact Nat.le_succ _
  split
  · exact Nat.le_succ _
  split <;> exact Nat.le_succ _
set_option maxHeartbeats 4000000 in
theorem step_any (T0 : Two h0 hc wb pa sa A pm m A) (hk : m.L.length ≤ 16385) (o : OpP) : HCalls Try.prog 6 #[ptr wb 0, .agg o.row.toArray] hc fun v h' => (∃ pa' sa' pm' m', Two h0 h' wb pa' sa' (ans A o).1 pm' m' (ans A o).1) ∧ v = .bool true := by
  refine C.law5_step_calls (args := [ptr wb 0, .agg o.row.toArray]) rfl ?_
  simp (disch := first | omega | assumption) only [C.law5_step_gos, T.tv, ↓reduceIte, Nat.reduceEqDiff, reduceCtorEq, Nat.reduceLeDiff, Nat.reducePow, Int.reducePow, Int.reduceToNat, Nat.reduceAdd]
  refine eff_box ?_
  have X := Ext.push hc (.cells o.row.toArray 32 (0, 0))
  have T1 := T0.ext X
  have hb : (hc.push (.cells o.row.toArray 32 (0, 0)))[hc.size]? = some (.cells o.row.toArray 32 (0, 0)) := by simp
  obtain ⟨b, hbb⟩ : ∃ b, b = hc.size := ⟨_, rfl⟩
  simp (disch := first | omega | assumption) only [C.law5_step_gos, T.tv, ↓reduceIte, Nat.reduceEqDiff, reduceCtorEq, Nat.reduceLeDiff, Nat.reducePow, Int.reducePow, Int.reduceToNat, Nat.reduceAdd]
  rw [← hbb]
  rw [← hbb] at hb
  have ba : ¬ foot pa sa b := fun h => by have := (T0.a.r.lt h).2; omega
  have bm : ¬ footM pm m b := fun h => by have := (T0.b.r.lt h).2; omega
  generalize hc.push (.cells o.row.toArray 32 (0, 0)) = h1 at *
  have bl : b < h1.size := (Array.getElem?_eq_some_iff.1 hb).1
  have cells : ∀ g : Heap, g[b]? = some (.cells o.row.toArray 32 (0, 0)) → cellAt g ⟨b, 0, none⟩ = some (.int .i64 o.k) ∧ cellAt g ⟨b, 1, none⟩ = some (.int .i64 o.a) ∧ cellAt g ⟨b, 2, none⟩ = some (.int .i64 o.b) ∧ cellAt g ⟨b, 3, none⟩ = some (.int .i64 o.c) ∧ cellAt g ⟨b, 4, none⟩ = some (wordV o.x) :=
    fun g hg => ⟨by rw [cellAt_of hg]; rfl, by rw [cellAt_of hg]; rfl, by rw [cellAt_of hg]; rfl, by rw [cellAt_of hg]; rfl, by rw [cellAt_of hg]; rfl⟩
  obtain ⟨f0, f1, f2, f3, f4⟩ := cells h1 hb
  have w0 := T1.w0
  have w1 := T1.w1
  generalize hans : ans A o = R
  unfold ans at hans
  by_cases c1 : o.k = 1
  · rw [if_pos c1] at hans
    subst hans
    simp (disch := first | omega | assumption) only [C.law5_step_gos, T.tv, ↓reduceIte, Nat.reduceEqDiff, reduceCtorEq, Nat.reduceLeDiff, Nat.reducePow, Int.reducePow, Int.reduceToNat, Nat.reduceAdd, f0, f1, f2, f3, f4, w0, w1, c1, Int.reduceEq]
    refine eff_callF rfl ((sMake_any T1.a).mono ?_)
    rintro v h2 ⟨N, rfl⟩
    obtain ⟨pa', sa', T2, e2, K2⟩ := T1.left N
    obtain ⟨g0, g1, g2, g3, g4⟩ := cells h2 (by rw [K2 b bl ba]; exact hb)
    have u0 := T2.w0
    have u1 := T2.w1
    rw [e2] at u0
    simp (disch := first | omega | assumption) only [C.law5_step_gos, T.tv, ↓reduceIte, Nat.reduceEqDiff, reduceCtorEq, Nat.reduceLeDiff, Nat.reducePow, Int.reducePow, Int.reduceToNat, Nat.reduceAdd, g0, g1, g2, g3, g4, u0, u1]
    refine eff_callF rfl ((mMake_any T2.b hk).mono ?_)
    rintro v h3 ⟨M, rfl⟩
    obtain ⟨pm', m', T3, e3, K3⟩ := T2.right M
    simp (disch := first | omega | assumption) only [C.law5_step_gos, T.tv, ↓reduceIte, Nat.reduceEqDiff, reduceCtorEq, Nat.reduceLeDiff, Nat.reducePow, Int.reducePow, Int.reduceToNat, Nat.reduceAdd]
    first | exact ⟨_, _, _, _, T3⟩ | exact ⟨⟨_, _, _, _, T3⟩, rfl⟩
  by_cases c2 : o.k = 2
  · rw [if_neg c1, if_pos c2] at hans
    subst hans
    simp (disch := first | omega | assumption) only [C.law5_step_gos, T.tv, ↓reduceIte, Nat.reduceEqDiff, reduceCtorEq, Nat.reduceLeDiff, Nat.reducePow, Int.reducePow, Int.reduceToNat, Nat.reduceAdd, f0, f1, f2, f3, f4, w0, w1, c2, Int.reduceEq]
    refine eff_callF rfl ((sCopy_any T1.a).mono ?_)
    rintro v h2 ⟨N, rfl⟩
    obtain ⟨pa', sa', T2, e2, K2⟩ := T1.left N
    obtain ⟨g0, g1, g2, g3, g4⟩ := cells h2 (by rw [K2 b bl ba]; exact hb)
    have u0 := T2.w0
    have u1 := T2.w1
    rw [e2] at u0
    simp (disch := first | omega | assumption) only [C.law5_step_gos, T.tv, ↓reduceIte, Nat.reduceEqDiff, reduceCtorEq, Nat.reduceLeDiff, Nat.reducePow, Int.reducePow, Int.reduceToNat, Nat.reduceAdd, g0, g1, g2, g3, g4, u0, u1]
    refine eff_callF rfl ((mCopy_any T2.b).mono ?_)
    rintro v h3 ⟨M, rfl⟩
    obtain ⟨pm', m', T3, e3, K3⟩ := T2.right M
    simp (disch := first | omega | assumption) only [C.law5_step_gos, T.tv, ↓reduceIte, Nat.reduceEqDiff, reduceCtorEq, Nat.reduceLeDiff, Nat.reducePow, Int.reducePow, Int.reduceToNat, Nat.reduceAdd]
    first | exact ⟨_, _, _, _, T3⟩ | exact ⟨⟨_, _, _, _, T3⟩, rfl⟩
  by_cases c3 : o.k = 3
  · rw [if_neg c1, if_neg c2, if_pos c3] at hans
    subst hans
    simp (disch := first | omega | assumption) only [C.law5_step_gos, T.tv, ↓reduceIte, Nat.reduceEqDiff, reduceCtorEq, Nat.reduceLeDiff, Nat.reducePow, Int.reducePow, Int.reduceToNat, Nat.reduceAdd, f0, f1, f2, f3, f4, w0, w1, c3, Int.reduceEq]
    refine eff_callF rfl ((sDrop_any T1.a).mono ?_)
    rintro v h2 ⟨N, rfl⟩
    obtain ⟨pa', sa', T2, e2, K2⟩ := T1.left N
    obtain ⟨g0, g1, g2, g3, g4⟩ := cells h2 (by rw [K2 b bl ba]; exact hb)
    have u0 := T2.w0
    have u1 := T2.w1
    rw [e2] at u0
    simp (disch := first | omega | assumption) only [C.law5_step_gos, T.tv, ↓reduceIte, Nat.reduceEqDiff, reduceCtorEq, Nat.reduceLeDiff, Nat.reducePow, Int.reducePow, Int.reduceToNat, Nat.reduceAdd, g0, g1, g2, g3, g4, u0, u1]
    refine eff_callF rfl ((mDrop_any T2.b).mono ?_)
    rintro v h3 ⟨M, rfl⟩
    obtain ⟨pm', m', T3, e3, K3⟩ := T2.right M
    simp (disch := first | omega | assumption) only [C.law5_step_gos, T.tv, ↓reduceIte, Nat.reduceEqDiff, reduceCtorEq, Nat.reduceLeDiff, Nat.reducePow, Int.reducePow, Int.reduceToNat, Nat.reduceAdd]
    first | exact ⟨_, _, _, _, T3⟩ | exact ⟨⟨_, _, _, _, T3⟩, rfl⟩
  by_cases c4 : o.k = 4
  · rw [if_neg c1, if_neg c2, if_neg c3, if_pos c4] at hans
    subst hans
    simp (disch := first | omega | assumption) only [C.law5_step_gos, T.tv, ↓reduceIte, Nat.reduceEqDiff, reduceCtorEq, Nat.reduceLeDiff, Nat.reducePow, Int.reducePow, Int.reduceToNat, Nat.reduceAdd, f0, f1, f2, f3, f4, w0, w1, c4, Int.reduceEq]
    refine eff_callF rfl ((sPut_any T1.a).mono ?_)
    rintro v h2 ⟨N, rfl⟩
    obtain ⟨pa', sa', T2, e2, K2⟩ := T1.left N
    obtain ⟨g0, g1, g2, g3, g4⟩ := cells h2 (by rw [K2 b bl ba]; exact hb)
    have u0 := T2.w0
    have u1 := T2.w1
    rw [e2] at u0
    simp (disch := first | omega | assumption) only [C.law5_step_gos, T.tv, ↓reduceIte, Nat.reduceEqDiff, reduceCtorEq, Nat.reduceLeDiff, Nat.reducePow, Int.reducePow, Int.reduceToNat, Nat.reduceAdd, g0, g1, g2, g3, g4, u0, u1]
    refine eff_callF rfl ((mPut_any T2.b).mono ?_)
    rintro v h3 ⟨M, rfl⟩
    obtain ⟨pm', m', T3, e3, K3⟩ := T2.right M
    simp (disch := first | omega | assumption) only [C.law5_step_gos, T.tv, ↓reduceIte, Nat.reduceEqDiff, reduceCtorEq, Nat.reduceLeDiff, Nat.reducePow, Int.reducePow, Int.reduceToNat, Nat.reduceAdd]
    first | exact ⟨_, _, _, _, T3⟩ | exact ⟨⟨_, _, _, _, T3⟩, rfl⟩
  by_cases c5 : o.k = 5
  · rw [if_neg c1, if_neg c2, if_neg c3, if_neg c4, if_pos c5] at hans
    subst hans
    simp (disch := first | omega | assumption) only [C.law5_step_gos, T.tv, ↓reduceIte, Nat.reduceEqDiff, reduceCtorEq, Nat.reduceLeDiff, Nat.reducePow, Int.reducePow, Int.reduceToNat, Nat.reduceAdd, f0, f1, f2, f3, f4, w0, w1, c5, Int.reduceEq]
    refine eff_callF rfl ((sGet_any T1.a).mono ?_)
    rintro v h2 ⟨N, rfl⟩
    obtain ⟨pa', sa', T2, e2, K2⟩ := T1.left N
    obtain ⟨g0, g1, g2, g3, g4⟩ := cells h2 (by rw [K2 b bl ba]; exact hb)
    have u0 := T2.w0
    have u1 := T2.w1
    rw [e2] at u0
    simp (disch := first | omega | assumption) only [C.law5_step_gos, T.tv, ↓reduceIte, Nat.reduceEqDiff, reduceCtorEq, Nat.reduceLeDiff, Nat.reducePow, Int.reducePow, Int.reduceToNat, Nat.reduceAdd, g0, g1, g2, g3, g4, u0, u1]
    refine eff_callF rfl ((mGet_any T2.b).mono ?_)
    rintro v h3 ⟨M, rfl⟩
    obtain ⟨pm', m', T3, e3, K3⟩ := T2.right M
    simp (disch := first | omega | assumption) only [C.law5_step_gos, T.tv, ↓reduceIte, Nat.reduceEqDiff, reduceCtorEq, Nat.reduceLeDiff, Nat.reducePow, Int.reducePow, Int.reduceToNat, Nat.reduceAdd]
    first | exact ⟨_, _, _, _, T3⟩ | exact ⟨⟨_, _, _, _, T3⟩, rfl⟩
  by_cases c6 : o.k = 6
  · rw [if_neg c1, if_neg c2, if_neg c3, if_neg c4, if_neg c5, if_pos c6] at hans
    subst hans
    simp (disch := first | omega | assumption) only [C.law5_step_gos, T.tv, ↓reduceIte, Nat.reduceEqDiff, reduceCtorEq, Nat.reduceLeDiff, Nat.reducePow, Int.reducePow, Int.reduceToNat, Nat.reduceAdd, f0, f1, f2, f3, f4, w0, w1, c6, Int.reduceEq]
    refine eff_callF rfl ((sSet_any T1.a).mono ?_)
    rintro v h2 ⟨N, rfl⟩
    obtain ⟨pa', sa', T2, e2, K2⟩ := T1.left N
    obtain ⟨g0, g1, g2, g3, g4⟩ := cells h2 (by rw [K2 b bl ba]; exact hb)
    have u0 := T2.w0
    have u1 := T2.w1
    rw [e2] at u0
    simp (disch := first | omega | assumption) only [C.law5_step_gos, T.tv, ↓reduceIte, Nat.reduceEqDiff, reduceCtorEq, Nat.reduceLeDiff, Nat.reducePow, Int.reducePow, Int.reduceToNat, Nat.reduceAdd, g0, g1, g2, g3, g4, u0, u1]
    refine eff_callF rfl ((mSet_any T2.b).mono ?_)
    rintro v h3 ⟨M, rfl⟩
    obtain ⟨pm', m', T3, e3, K3⟩ := T2.right M
    simp (disch := first | omega | assumption) only [C.law5_step_gos, T.tv, ↓reduceIte, Nat.reduceEqDiff, reduceCtorEq, Nat.reduceLeDiff, Nat.reducePow, Int.reducePow, Int.reduceToNat, Nat.reduceAdd]
    first | exact ⟨_, _, _, _, T3⟩ | exact ⟨⟨_, _, _, _, T3⟩, rfl⟩
  by_cases c7 : o.k = 7
  · rw [if_neg c1, if_neg c2, if_neg c3, if_neg c4, if_neg c5, if_neg c6, if_pos c7] at hans
    subst hans
    simp (disch := first | omega | assumption) only [C.law5_step_gos, T.tv, ↓reduceIte, Nat.reduceEqDiff, reduceCtorEq, Nat.reduceLeDiff, Nat.reducePow, Int.reducePow, Int.reduceToNat, Nat.reduceAdd, f0, f1, f2, f3, f4, w0, w1, c7, Int.reduceEq]
    refine eff_callF rfl ((sWord_any T1.a).mono ?_)
    rintro v h2 ⟨rfl, rfl⟩
    simp (disch := first | omega | assumption) only [C.law5_step_gos, T.tv, ↓reduceIte, Nat.reduceEqDiff, reduceCtorEq, Nat.reduceLeDiff, Nat.reducePow, Int.reducePow, Int.reduceToNat, Nat.reduceAdd, f0, f1, f2, f3, f4, w0, w1]
    refine eff_callF rfl ((mWord_any T1.b).mono ?_)
    rintro v h3 ⟨rfl, rfl⟩
    simp (disch := first | omega | assumption) only [C.law5_step_gos, T.tv, ↓reduceIte, Nat.reduceEqDiff, reduceCtorEq, Nat.reduceLeDiff, Nat.reducePow, Int.reducePow, Int.reduceToNat, Nat.reduceAdd, wordV]
    first | exact ⟨_, _, _, _, T1⟩ | exact ⟨⟨_, _, _, _, T1⟩, rfl⟩
  by_cases c8 : o.k = 8
  · rw [if_neg c1, if_neg c2, if_neg c3, if_neg c4, if_neg c5, if_neg c6, if_neg c7, if_pos c8] at hans
    subst hans
    simp (disch := first | omega | assumption) only [C.law5_step_gos, T.tv, ↓reduceIte, Nat.reduceEqDiff, reduceCtorEq, Nat.reduceLeDiff, Nat.reducePow, Int.reducePow, Int.reduceToNat, Nat.reduceAdd, f0, f1, f2, f3, f4, w0, w1, c8, Int.reduceEq]
    refine eff_callF rfl ((sSame_any T1.a).mono ?_)
    rintro v h2 ⟨rfl, rfl⟩
    simp (disch := first | omega | assumption) only [C.law5_step_gos, T.tv, ↓reduceIte, Nat.reduceEqDiff, reduceCtorEq, Nat.reduceLeDiff, Nat.reducePow, Int.reducePow, Int.reduceToNat, Nat.reduceAdd, f0, f1, f2, f3, f4, w0, w1]
    refine eff_callF rfl ((mSame_any T1.b).mono ?_)
    rintro v h3 ⟨rfl, rfl⟩
    simp (disch := first | omega | assumption) only [C.law5_step_gos, T.tv, ↓reduceIte, Nat.reduceEqDiff, reduceCtorEq, Nat.reduceLeDiff, Nat.reducePow, Int.reducePow, Int.reduceToNat, Nat.reduceAdd, wordV]
    first | exact ⟨_, _, _, _, T1⟩ | exact ⟨⟨_, _, _, _, T1⟩, rfl⟩
  rw [if_neg c1, if_neg c2, if_neg c3, if_neg c4, if_neg c5, if_neg c6, if_neg c7, if_neg c8] at hans
  subst hans
  by_cases c9 : o.k = 9
  · simp (disch := first | omega | assumption) only [C.law5_step_gos, T.tv, ↓reduceIte, Nat.reduceEqDiff, reduceCtorEq, Nat.reduceLeDiff, Nat.reducePow, Int.reducePow, Int.reduceToNat, Nat.reduceAdd, f0, f1, f2, f3, f4, w0, w1, c9, Int.reduceEq]
    refine eff_callF rfl ((sMinor_any T1.a).mono ?_)
    rintro v h2 ⟨N, rfl⟩
    obtain ⟨pa', sa', T2, e2, K2⟩ := T1.left N
    simp (disch := first | omega | assumption) only [C.law5_step_gos, T.tv, ↓reduceIte, Nat.reduceEqDiff, reduceCtorEq, Nat.reduceLeDiff, Nat.reducePow, Int.reducePow, Int.reduceToNat, Nat.reduceAdd]
    first | exact ⟨_, _, _, _, T2⟩ | exact ⟨⟨_, _, _, _, T2⟩, rfl⟩
  by_cases c10 : o.k = 10
  · simp (disch := first | omega | assumption) only [C.law5_step_gos, T.tv, ↓reduceIte, Nat.reduceEqDiff, reduceCtorEq, Nat.reduceLeDiff, Nat.reducePow, Int.reducePow, Int.reduceToNat, Nat.reduceAdd, f0, f1, f2, f3, f4, w0, w1, c10, Int.reduceEq]
    refine eff_callF rfl ((sMajor_any T1.a).mono ?_)
    rintro v h2 ⟨N, n1, t1, rfl⟩
    obtain ⟨pa', sa', T2, e2, K2⟩ := T1.left N
    obtain ⟨g0, g1, g2, g3, g4⟩ := cells h2 (by rw [K2 b bl ba]; exact hb)
    have u0 := T2.w0
    have u1 := T2.w1
    rw [e2] at u0
    simp (disch := first | omega | assumption) only [C.law5_step_gos, T.tv, ↓reduceIte, Nat.reduceEqDiff, reduceCtorEq, Nat.reduceLeDiff, Nat.reducePow, Int.reducePow, Int.reduceToNat, Nat.reduceAdd, g0, g1, g2, g3, g4, u0, u1]
    refine eff_callF rfl ((mMajor_any T2.b hk).mono ?_)
    rintro v h3 ⟨n2, m2, t2, rfl, S, I, _, _⟩
    obtain ⟨pm', m', T3, e3, K3⟩ := T2.right ⟨_, _, S, rfl, I⟩
    have e := t1.uniq t2
    subst e
    simp (disch := first | omega | assumption) only [C.law5_step_gos, T.tv, ↓reduceIte, Nat.reduceEqDiff, reduceCtorEq, Nat.reduceLeDiff, Nat.reducePow, Int.reducePow, Int.reduceToNat, Nat.reduceAdd]
    first | exact ⟨_, _, _, _, T3⟩ | exact ⟨⟨_, _, _, _, T3⟩, rfl⟩
  simp (disch := first | omega | assumption) only [C.law5_step_gos, T.tv, ↓reduceIte, Nat.reduceEqDiff, reduceCtorEq, Nat.reduceLeDiff, Nat.reducePow, Int.reducePow, Int.reduceToNat, Nat.reduceAdd, f0, f1, f2, f3, f4, c1, c2, c3, c4, c5, c6, c7, c8, c9, c10, Int.reduceEq]
  first | exact ⟨_, _, _, _, T1⟩ | exact ⟨⟨_, _, _, _, T1⟩, rfl⟩
end
end Go.Proofs.Ytidkokdkldfglaa
