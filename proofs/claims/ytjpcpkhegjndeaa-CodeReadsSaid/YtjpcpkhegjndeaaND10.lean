/- The decoder of instructions, by the reference: one instruction. -/
import Derived.Test.YtjpcpkhegjndeaaND9
namespace Go.Proofs.Ytjpcpkhegjndeaa
open Go.Vc
set_option maxRecDepth 100000
set_option linter.unusedSimpArgs false
set_option linter.unusedVariables false

def OneC (h : Heap) (g : Nat) (l : List UInt8) (r : In × RS) : Value → Heap → Prop := fun v h' => Fr (fun k => k = g) h h' ∧ Cutr h' g l r.2 ∧
  ∃ vk vt, v = .agg (InV r.1 vk vt).toArray ∧ Own h' h.size 3 1 vk r.1.keys.length (intsV r.1.keys) ∧ Own h' h.size 3 1 vt r.1.tgts.length (intsV r.1.tgts) ∧ ∀ k, vk.ownBlock = some k → ¬ vt.ownBlock = some k
structure ER' (h h' : Heap) (g q rb : Nat) (l : List UInt8) (x : In) (s : RS) : Prop where
  d : CS h h' g q l x s
  rk : h'[rb]? = some (.cells #[.int .i64 0, .int .u8 0, .bool false, .int .i64 0, .int .i64 0, .int .i64 0, .slice none 0 0, .slice none 0 0] 35 (0, 0))
  ne : rb ≠ q
  hq : h.size ≤ q
  hr : h.size ≤ rb
section
variable {h h1 h2 : Heap} {g q rb : Nat} {l : List UInt8} {x : In} {s s' : RS}
theorem ER'.rg (H : ER' h h1 g q rb l x s) : rb ≠ g := by
  intro e; subst e
  exact absurd (blk_ty H.rk H.d.rd.1) (by decide)
theorem ER'.step (H : ER' h h1 g q rb l x s) (f : Fr (fun k => k = g) h1 h2) (r : Cutr h2 g l s') : ER' h h2 g q rb l x s' := ⟨H.d.step f r, Fr_blk f H.rk H.rg, H.ne, H.hq, H.hr⟩
theorem ER'.set (H : ER' h h1 g q rb l x s) (o : Nat) (v : Value) (x' : In) (hk : x'.keys = x.keys) (ht : x'.tgts = x.tgts) (hv : ∀ vk vt, (InV x vk vt).toArray.setIfInBounds o v = (InV x' vk vt).toArray) :
    ER' h (setAt h1 ⟨q, o, none⟩ v) g q rb l x' s :=
  ⟨H.d.set o v x' hk ht hv, Fr_blk (Fr.set (S := fun k => k = q) h1 ⟨q, o, none⟩ v fun _ => rfl) H.rk H.ne, H.ne, H.hq, H.hr⟩
theorem ER'.tg1 (H : ER' h h1 g q rb l x s) (n : Int) :
    ER' h (setAt (h1.push (.cells #[.int .i64 n] 3)) ⟨q, 7, none⟩ (.slice (some ⟨h1.size, 0, none⟩) 1 1)) g q rb l { x with tgts := [n] } s :=
  ⟨H.d.tg1 n, Fr_blk (Fr.set (S := fun k => k = q) _ ⟨q, 7, none⟩ _ fun _ => rfl) (push_blk H.rk) H.ne, H.ne, H.hq, H.hr⟩
theorem ER'.more (H : ER' h h1 g q rb l x s) {x' : In} (f : Fr (fun k => k = g ∨ k = q) h1 h2) (r : Cutr h2 g l s') (xr : XR h2 h1.size q x') : ER' h h2 g q rb l x' s' :=
  ⟨⟨Fr.trans H.d.fr f (fun _ _ h => h) (fun _ _ h => h), r, xr.mono H.d.size⟩, Fr_blk f H.rk (fun hh => hh.elim H.rg H.ne), H.ne, H.hq, H.hr⟩
theorem ER'.fin (H : ER' h h1 g q rb l x s) {vk vt : Value} (hq : h1[q]? = some (.cells (InV x vk vt).toArray 35 (0, 0))) (ok : Own h1 h.size 3 1 vk x.keys.length (intsV x.keys)) (ot : Own h1 h.size 3 1 vt x.tgts.length (intsV x.tgts)) (dj : ∀ k, vk.ownBlock = some k → ¬ vt.ownBlock = some k)
    (f : Fr (fun k => k = rb) h1 h2) (hb : h2[rb]? = some (.cells (InV x vk vt).toArray 35 (0, 0))) :
    ∃ v, ld Try.prog 35 ⟨rb, 0, none⟩ h2 = some v ∧ OneC h g l (x, s) v h2 := by
  have h1q := H.hq
  have h1r := H.hr
  refine ⟨_, ld_agg T.ag_35 (Rd_block hb) rfl, Fr.trans H.d.fr f (fun k hk hs => by omega) (fun k hk hs => by omega), H.d.rd.fr f (Ne.symm H.rg), vk, vt, rfl, ?_, ?_, dj⟩
  · exact ok.fr f fun k hk hS => by subst hS; exact Own_ne ok H.rk (by decide) hk
  · exact ot.fr f fun k hk hS => by subst hS; exact Own_ne ot H.rk (by decide) hk
set_option maxHeartbeats 16000000 in
theorem c14_any (x : In) (a f : Nat) (hc : Heap) (sz : Nat) (u4 u17 u28 : Value) (hf : f = 1 ∨ f = 2 ∨ f = 3 ∨ f = 4 ∨ f = 5 ∨ f = 6 ∨ f = 7 ∨ f = 8 ∨ f = 9 ∨ f = 0 ∨ f = 10 ∨ f = 11 ∨ f = 12 ∨ f = 13 ∨ f = 14) (hsz : (if x.wide = true then 2 else 1) = sz) (hl : l.length ≤ 1073741824) (ha : x.at' = (a : Int)) (hal : a ≤ l.length) (hk : x.keys = []) (ht : x.tgts = [])
    (D : ER' h hc g q rb l x s) (hq : hc[q]? = some (.cells (InV x (.slice none 0 0) (.slice none 0 0)).toArray 35 (0, 0))) :
    Cd.vc Try.prog C.cut_one_t0 (retQ Try.prog [(2, some 35)] (OneC h g l (opsD x a f l s)))
      [(0, .pointer (some ⟨g, 0, none⟩)), (2, .pointer (some ⟨rb, 0, none⟩)), (3, .pointer (some ⟨q, 0, none⟩)), (4, u4), (5, str [letS f]), (6, .int .i64 sz), (17, u17), (28, u28), (36, undef), (37, undef), (43, undef), (48, undef), (53, undef), (70, undef), (75, undef), (80, undef), (86, undef), (96, undef), (105, undef), (114, undef), (134, undef), (139, undef)] hc := by
  generalize hY : opsD x a f l s = Y
  have hY0 := hY
  unfold opsD at hY
  rw [C.cut_one_t0_go]
  have fx0 := D.d.cells
  rw [ha] at fx0
  have hsz2 : sz = 1 ∨ sz = 2 := by rw [← hsz]; split <;> simp
  rw [hsz] at hY
  clear hsz
  rcases hf with rfl | rfl | rfl | rfl | rfl | rfl | rfl | rfl | rfl | rfl | rfl | rfl | rfl | rfl | rfl
  · simp only [Nat.reduceEqDiff, if_false, if_true, or_false, false_or, true_or, or_true] at hY
    rw [show [letS 1] = ([120] : List UInt8) from rfl]
    have L : ((([120] : List UInt8) = [98]) = False) ∧ ((([120] : List UInt8) = [115]) = False) ∧ ((([120] : List UInt8) = [99]) = False) ∧ ((([120] : List UInt8) = [97]) = False) ∧ ((([120] : List UInt8) = [105]) = False) ∧ ((([120] : List UInt8) = [108]) = False) ∧ ((([120] : List UInt8) = [110]) = False) ∧ ((([120] : List UInt8) = [106]) = False) ∧ ((([120] : List UInt8) = [74]) = False) ∧ ((([120] : List UInt8) = [102]) = False) ∧ ((([120] : List UInt8) = [109]) = False) ∧ ((([120] : List UInt8) = [116]) = False) ∧ ((([120] : List UInt8) = [107]) = False) := ⟨eq_false (by decide), eq_false (by decide), eq_false (by decide), eq_false (by decide), eq_false (by decide), eq_false (by decide), eq_false (by decide), eq_false (by decide), eq_false (by decide), eq_false (by decide), eq_false (by decide), eq_false (by decide), eq_false (by decide)⟩
    simp (disch := first | omega | assumption) only [C.cut_one_gos, vs, Go.Vc.vk, T.ts, ↓reduceIte, Nat.reduceEqDiff, reduceCtorEq, Nat.reduceLeDiff, Nat.reducePow, Int.reducePow, Int.reduceToNat, Nat.reduceAdd, L, fx0, decide_true, decide_false]
    refine eff_call_of ?_
    simp (disch := first | omega | assumption) only [C.cut_one_gos, vs, Go.Vc.vk, T.ts, ↓reduceIte, Nat.reduceEqDiff, reduceCtorEq, Nat.reduceLeDiff, Nat.reducePow, Int.reducePow, Int.reduceToNat, Nat.reduceAdd]
    refine (cfail_any 14 a D.d.rd).mono ?_
    intro v1 h1 hp1
    have D1 := D.step hp1.1 hp1.2
    clear hp1
    have fx1 := D1.d.cells
    rw [ha] at fx1
    have D9 := D1
    subst hY
    obtain ⟨vk9, vt9, q9, ok9, ot9, dj9⟩ := id D9.d.xr
    have hld := ld_agg T.ag_35 (Rd_block q9) rfl
    simp only [InV] at hld
    simp (disch := first | omega | assumption) only [C.cut_one_gos, vs, Go.Vc.vk, T.ts, ↓reduceIte, Nat.reduceEqDiff, reduceCtorEq, Nat.reduceLeDiff, Nat.reducePow, Int.reducePow, Int.reduceToNat, Nat.reduceAdd, L, hld, decide_false]
    refine eff_storeN_z T.zr_35 rfl rfl rfl ?_ D9.rk rfl ?_
    · intro u hu
      obtain ⟨_, ak, kk, rfl, _⟩ := ok9.slN
      obtain ⟨_, at7, kt, rfl, _⟩ := ot9.slN
      simp [Value.cells] at hu
      rcases hu with rfl | rfl | rfl | rfl | rfl | rfl | rfl | rfl <;> rfl
    intro h10 f10 b10
    obtain ⟨v, hv1, hv2⟩ := D9.fin q9 ok9 ot9 dj9 f10 b10
    simp (disch := first | omega | assumption) only [C.cut_one_gos, vs, Go.Vc.vk, T.ts, ↓reduceIte, Nat.reduceEqDiff, reduceCtorEq, Nat.reduceLeDiff, Nat.reducePow, Int.reducePow, Int.reduceToNat, Nat.reduceAdd, hv1]
    exact hv2
  · simp only [Nat.reduceEqDiff, if_false, if_true, or_false, false_or, true_or, or_true] at hY
    rw [show [letS 2] = ([98] : List UInt8) from rfl]
    have L : ((([98] : List UInt8) = [120]) = False) ∧ ((([98] : List UInt8) = [115]) = False) ∧ ((([98] : List UInt8) = [99]) = False) ∧ ((([98] : List UInt8) = [97]) = False) ∧ ((([98] : List UInt8) = [105]) = False) ∧ ((([98] : List UInt8) = [108]) = False) ∧ ((([98] : List UInt8) = [110]) = False) ∧ ((([98] : List UInt8) = [106]) = False) ∧ ((([98] : List UInt8) = [74]) = False) ∧ ((([98] : List UInt8) = [102]) = False) ∧ ((([98] : List UInt8) = [109]) = False) ∧ ((([98] : List UInt8) = [116]) = False) ∧ ((([98] : List UInt8) = [107]) = False) := ⟨eq_false (by decide), eq_false (by decide), eq_false (by decide), eq_false (by decide), eq_false (by decide), eq_false (by decide), eq_false (by decide), eq_false (by decide), eq_false (by decide), eq_false (by decide), eq_false (by decide), eq_false (by decide), eq_false (by decide)⟩
    simp (disch := first | omega | assumption) only [C.cut_one_gos, vs, Go.Vc.vk, T.ts, ↓reduceIte, Nat.reduceEqDiff, reduceCtorEq, Nat.reduceLeDiff, Nat.reducePow, Int.reducePow, Int.reduceToNat, Nat.reduceAdd, L, fx0, decide_true, decide_false]
    refine eff_call_of ?_
    simp (disch := first | omega | assumption) only [C.cut_one_gos, vs, Go.Vc.vk, T.ts, ↓reduceIte, Nat.reduceEqDiff, reduceCtorEq, Nat.reduceLeDiff, Nat.reducePow, Int.reducePow, Int.reduceToNat, Nat.reduceAdd]
    refine (csgn_any 1 (by omega) hl D.d.rd).mono ?_
    intro v1 h1 hp1
    have D1 := D.step hp1.1 hp1.2.1
    have hv1 := hp1.2.2
    clear hp1
    have fx1 := D1.d.cells
    rw [ha] at fx1
    generalize sgnD l 1 s = T1 at *
    obtain ⟨av, s2⟩ := T1
    simp only at *
    simp (disch := first | omega | assumption) only [C.cut_one_gos, vs, Go.Vc.vk, T.ts, ↓reduceIte, Nat.reduceEqDiff, reduceCtorEq, Nat.reduceLeDiff, Nat.reducePow, Int.reducePow, Int.reduceToNat, Nat.reduceAdd, L, fx1, decide_true, decide_false, hv1]
    refine eff_store1_z T.zr_3 rfl rfl rfl rfl rfl fx1.2.2.2.1 (D1.d.notfz 3) ?_
    have D2 := D1.set 3 (.int .i64 av) { x with A := av } rfl rfl (fun _ _ => rfl)
    generalize setAt _ ⟨q, 3, none⟩ _ = h2 at *
    have fx2 := D2.d.cells
    rw [ha] at fx2
    have D9 := D2
    subst hY
    obtain ⟨vk9, vt9, q9, ok9, ot9, dj9⟩ := id D9.d.xr
    have hld := ld_agg T.ag_35 (Rd_block q9) rfl
    simp only [InV] at hld
    simp (disch := first | omega | assumption) only [C.cut_one_gos, vs, Go.Vc.vk, T.ts, ↓reduceIte, Nat.reduceEqDiff, reduceCtorEq, Nat.reduceLeDiff, Nat.reducePow, Int.reducePow, Int.reduceToNat, Nat.reduceAdd, L, hld, decide_false]
    refine eff_storeN_z T.zr_35 rfl rfl rfl ?_ D9.rk rfl ?_
    · intro u hu
      obtain ⟨_, ak, kk, rfl, _⟩ := ok9.slN
      obtain ⟨_, at7, kt, rfl, _⟩ := ot9.slN
      simp [Value.cells] at hu
      rcases hu with rfl | rfl | rfl | rfl | rfl | rfl | rfl | rfl <;> rfl
    intro h10 f10 b10
    obtain ⟨v, hv1, hv2⟩ := D9.fin q9 ok9 ot9 dj9 f10 b10
    simp (disch := first | omega | assumption) only [C.cut_one_gos, vs, Go.Vc.vk, T.ts, ↓reduceIte, Nat.reduceEqDiff, reduceCtorEq, Nat.reduceLeDiff, Nat.reducePow, Int.reducePow, Int.reduceToNat, Nat.reduceAdd, hv1]
    exact hv2
  · simp only [Nat.reduceEqDiff, if_false, if_true, or_false, false_or, true_or, or_true] at hY
    rw [show [letS 3] = ([115] : List UInt8) from rfl]
    have L : ((([115] : List UInt8) = [120]) = False) ∧ ((([115] : List UInt8) = [98]) = False) ∧ ((([115] : List UInt8) = [99]) = False) ∧ ((([115] : List UInt8) = [97]) = False) ∧ ((([115] : List UInt8) = [105]) = False) ∧ ((([115] : List UInt8) = [108]) = False) ∧ ((([115] : List UInt8) = [110]) = False) ∧ ((([115] : List UInt8) = [106]) = False) ∧ ((([115] : List UInt8) = [74]) = False) ∧ ((([115] : List UInt8) = [102]) = False) ∧ ((([115] : List UInt8) = [109]) = False) ∧ ((([115] : List UInt8) = [116]) = False) ∧ ((([115] : List UInt8) = [107]) = False) := ⟨eq_false (by decide), eq_false (by decide), eq_false (by decide), eq_false (by decide), eq_false (by decide), eq_false (by decide), eq_false (by decide), eq_false (by decide), eq_false (by decide), eq_false (by decide), eq_false (by decide), eq_false (by decide), eq_false (by decide)⟩
    simp (disch := first | omega | assumption) only [C.cut_one_gos, vs, Go.Vc.vk, T.ts, ↓reduceIte, Nat.reduceEqDiff, reduceCtorEq, Nat.reduceLeDiff, Nat.reducePow, Int.reducePow, Int.reduceToNat, Nat.reduceAdd, L, fx0, decide_true, decide_false]
    refine eff_call_of ?_
    simp (disch := first | omega | assumption) only [C.cut_one_gos, vs, Go.Vc.vk, T.ts, ↓reduceIte, Nat.reduceEqDiff, reduceCtorEq, Nat.reduceLeDiff, Nat.reducePow, Int.reducePow, Int.reduceToNat, Nat.reduceAdd]
    refine (csgn_any 2 (by omega) hl D.d.rd).mono ?_
    intro v1 h1 hp1
    have D1 := D.step hp1.1 hp1.2.1
    have hv1 := hp1.2.2
    clear hp1
    have fx1 := D1.d.cells
    rw [ha] at fx1
    generalize sgnD l 2 s = T1 at *
    obtain ⟨av, s2⟩ := T1
    simp only at *
    simp (disch := first | omega | assumption) only [C.cut_one_gos, vs, Go.Vc.vk, T.ts, ↓reduceIte, Nat.reduceEqDiff, reduceCtorEq, Nat.reduceLeDiff, Nat.reducePow, Int.reducePow, Int.reduceToNat, Nat.reduceAdd, L, fx1, decide_true, decide_false, hv1]
    refine eff_store1_z T.zr_3 rfl rfl rfl rfl rfl fx1.2.2.2.1 (D1.d.notfz 3) ?_
    have D2 := D1.set 3 (.int .i64 av) { x with A := av } rfl rfl (fun _ _ => rfl)
    generalize setAt _ ⟨q, 3, none⟩ _ = h2 at *
    have fx2 := D2.d.cells
    rw [ha] at fx2
    have D9 := D2
    subst hY
    obtain ⟨vk9, vt9, q9, ok9, ot9, dj9⟩ := id D9.d.xr
    have hld := ld_agg T.ag_35 (Rd_block q9) rfl
    simp only [InV] at hld
    simp (disch := first | omega | assumption) only [C.cut_one_gos, vs, Go.Vc.vk, T.ts, ↓reduceIte, Nat.reduceEqDiff, reduceCtorEq, Nat.reduceLeDiff, Nat.reducePow, Int.reducePow, Int.reduceToNat, Nat.reduceAdd, L, hld, decide_false]
    refine eff_storeN_z T.zr_35 rfl rfl rfl ?_ D9.rk rfl ?_
    · intro u hu
      obtain ⟨_, ak, kk, rfl, _⟩ := ok9.slN
      obtain ⟨_, at7, kt, rfl, _⟩ := ot9.slN
      simp [Value.cells] at hu
      rcases hu with rfl | rfl | rfl | rfl | rfl | rfl | rfl | rfl <;> rfl
    intro h10 f10 b10
    obtain ⟨v, hv1, hv2⟩ := D9.fin q9 ok9 ot9 dj9 f10 b10
    simp (disch := first | omega | assumption) only [C.cut_one_gos, vs, Go.Vc.vk, T.ts, ↓reduceIte, Nat.reduceEqDiff, reduceCtorEq, Nat.reduceLeDiff, Nat.reducePow, Int.reducePow, Int.reduceToNat, Nat.reduceAdd, hv1]
    exact hv2
  · simp only [Nat.reduceEqDiff, if_false, if_true, or_false, false_or, true_or, or_true] at hY
    rw [show [letS 4] = ([99] : List UInt8) from rfl]
    have L : ((([99] : List UInt8) = [120]) = False) ∧ ((([99] : List UInt8) = [98]) = False) ∧ ((([99] : List UInt8) = [115]) = False) ∧ ((([99] : List UInt8) = [97]) = False) ∧ ((([99] : List UInt8) = [105]) = False) ∧ ((([99] : List UInt8) = [108]) = False) ∧ ((([99] : List UInt8) = [110]) = False) ∧ ((([99] : List UInt8) = [106]) = False) ∧ ((([99] : List UInt8) = [74]) = False) ∧ ((([99] : List UInt8) = [102]) = False) ∧ ((([99] : List UInt8) = [109]) = False) ∧ ((([99] : List UInt8) = [116]) = False) ∧ ((([99] : List UInt8) = [107]) = False) := ⟨eq_false (by decide), eq_false (by decide), eq_false (by decide), eq_false (by decide), eq_false (by decide), eq_false (by decide), eq_false (by decide), eq_false (by decide), eq_false (by decide), eq_false (by decide), eq_false (by decide), eq_false (by decide), eq_false (by decide)⟩
    simp (disch := first | omega | assumption) only [C.cut_one_gos, vs, Go.Vc.vk, T.ts, ↓reduceIte, Nat.reduceEqDiff, reduceCtorEq, Nat.reduceLeDiff, Nat.reducePow, Int.reducePow, Int.reduceToNat, Nat.reduceAdd, L, fx0, decide_true, decide_false]
    refine eff_call_of ?_
    simp (disch := first | omega | assumption) only [C.cut_one_gos, vs, Go.Vc.vk, T.ts, ↓reduceIte, Nat.reduceEqDiff, reduceCtorEq, Nat.reduceLeDiff, Nat.reducePow, Int.reducePow, Int.reduceToNat, Nat.reduceAdd]
    refine (cnum_any 1 hl (by omega) D.d.rd).mono ?_
    intro v1 h1 hp1
    have D1 := D.step hp1.1 hp1.2.1
    have hv1 := hp1.2.2
    clear hp1
    have fx1 := D1.d.cells
    rw [ha] at fx1
    generalize numS l 1 s = T1 at *
    obtain ⟨av, s2⟩ := T1
    simp only at *
    simp (disch := first | omega | assumption) only [C.cut_one_gos, vs, Go.Vc.vk, T.ts, ↓reduceIte, Nat.reduceEqDiff, reduceCtorEq, Nat.reduceLeDiff, Nat.reducePow, Int.reducePow, Int.reduceToNat, Nat.reduceAdd, L, fx1, decide_true, decide_false, hv1]
    refine eff_store1_z T.zr_3 rfl rfl rfl rfl rfl fx1.2.2.2.1 (D1.d.notfz 3) ?_
    have D2 := D1.set 3 (.int .i64 av) { x with A := av } rfl rfl (fun _ _ => rfl)
    generalize setAt _ ⟨q, 3, none⟩ _ = h2 at *
    have fx2 := D2.d.cells
    rw [ha] at fx2
    have D9 := D2
    subst hY
    obtain ⟨vk9, vt9, q9, ok9, ot9, dj9⟩ := id D9.d.xr
    have hld := ld_agg T.ag_35 (Rd_block q9) rfl
    simp only [InV] at hld
    simp (disch := first | omega | assumption) only [C.cut_one_gos, vs, Go.Vc.vk, T.ts, ↓reduceIte, Nat.reduceEqDiff, reduceCtorEq, Nat.reduceLeDiff, Nat.reducePow, Int.reducePow, Int.reduceToNat, Nat.reduceAdd, L, hld, decide_false]
    refine eff_storeN_z T.zr_35 rfl rfl rfl ?_ D9.rk rfl ?_
    · intro u hu
      obtain ⟨_, ak, kk, rfl, _⟩ := ok9.slN
      obtain ⟨_, at7, kt, rfl, _⟩ := ot9.slN
      simp [Value.cells] at hu
      rcases hu with rfl | rfl | rfl | rfl | rfl | rfl | rfl | rfl <;> rfl
    intro h10 f10 b10
    obtain ⟨v, hv1, hv2⟩ := D9.fin q9 ok9 ot9 dj9 f10 b10
    simp (disch := first | omega | assumption) only [C.cut_one_gos, vs, Go.Vc.vk, T.ts, ↓reduceIte, Nat.reduceEqDiff, reduceCtorEq, Nat.reduceLeDiff, Nat.reducePow, Int.reducePow, Int.reduceToNat, Nat.reduceAdd, hv1]
    exact hv2
  · simp only [Nat.reduceEqDiff, if_false, if_true, or_false, false_or, true_or, or_true] at hY
    rw [show [letS 5] = ([105] : List UInt8) from rfl]
    have L : ((([105] : List UInt8) = [120]) = False) ∧ ((([105] : List UInt8) = [98]) = False) ∧ ((([105] : List UInt8) = [115]) = False) ∧ ((([105] : List UInt8) = [99]) = False) ∧ ((([105] : List UInt8) = [97]) = False) ∧ ((([105] : List UInt8) = [108]) = False) ∧ ((([105] : List UInt8) = [110]) = False) ∧ ((([105] : List UInt8) = [106]) = False) ∧ ((([105] : List UInt8) = [74]) = False) ∧ ((([105] : List UInt8) = [102]) = False) ∧ ((([105] : List UInt8) = [109]) = False) ∧ ((([105] : List UInt8) = [116]) = False) ∧ ((([105] : List UInt8) = [107]) = False) := ⟨eq_false (by decide), eq_false (by decide), eq_false (by decide), eq_false (by decide), eq_false (by decide), eq_false (by decide), eq_false (by decide), eq_false (by decide), eq_false (by decide), eq_false (by decide), eq_false (by decide), eq_false (by decide), eq_false (by decide)⟩
    simp (disch := first | omega | assumption) only [C.cut_one_gos, vs, Go.Vc.vk, T.ts, ↓reduceIte, Nat.reduceEqDiff, reduceCtorEq, Nat.reduceLeDiff, Nat.reducePow, Int.reducePow, Int.reduceToNat, Nat.reduceAdd, L, fx0, decide_true, decide_false]
    refine eff_call_of ?_
    simp (disch := first | omega | assumption) only [C.cut_one_gos, vs, Go.Vc.vk, T.ts, ↓reduceIte, Nat.reduceEqDiff, reduceCtorEq, Nat.reduceLeDiff, Nat.reducePow, Int.reducePow, Int.reduceToNat, Nat.reduceAdd]
    refine (cnum_any 2 hl (by omega) D.d.rd).mono ?_
    intro v1 h1 hp1
    have D1 := D.step hp1.1 hp1.2.1
    have hv1 := hp1.2.2
    clear hp1
    have fx1 := D1.d.cells
    rw [ha] at fx1
    generalize numS l 2 s = T1 at *
    obtain ⟨av, s2⟩ := T1
    simp only at *
    simp (disch := first | omega | assumption) only [C.cut_one_gos, vs, Go.Vc.vk, T.ts, ↓reduceIte, Nat.reduceEqDiff, reduceCtorEq, Nat.reduceLeDiff, Nat.reducePow, Int.reducePow, Int.reduceToNat, Nat.reduceAdd, L, fx1, decide_true, decide_false, hv1]
    refine eff_store1_z T.zr_3 rfl rfl rfl rfl rfl fx1.2.2.2.1 (D1.d.notfz 3) ?_
    have D2 := D1.set 3 (.int .i64 av) { x with A := av } rfl rfl (fun _ _ => rfl)
    generalize setAt _ ⟨q, 3, none⟩ _ = h2 at *
    have fx2 := D2.d.cells
    rw [ha] at fx2
    have D9 := D2
    subst hY
    obtain ⟨vk9, vt9, q9, ok9, ot9, dj9⟩ := id D9.d.xr
    have hld := ld_agg T.ag_35 (Rd_block q9) rfl
    simp only [InV] at hld
    simp (disch := first | omega | assumption) only [C.cut_one_gos, vs, Go.Vc.vk, T.ts, ↓reduceIte, Nat.reduceEqDiff, reduceCtorEq, Nat.reduceLeDiff, Nat.reducePow, Int.reducePow, Int.reduceToNat, Nat.reduceAdd, L, hld, decide_false]
    refine eff_storeN_z T.zr_35 rfl rfl rfl ?_ D9.rk rfl ?_
    · intro u hu
      obtain ⟨_, ak, kk, rfl, _⟩ := ok9.slN
      obtain ⟨_, at7, kt, rfl, _⟩ := ot9.slN
      simp [Value.cells] at hu
      rcases hu with rfl | rfl | rfl | rfl | rfl | rfl | rfl | rfl <;> rfl
    intro h10 f10 b10
    obtain ⟨v, hv1, hv2⟩ := D9.fin q9 ok9 ot9 dj9 f10 b10
    simp (disch := first | omega | assumption) only [C.cut_one_gos, vs, Go.Vc.vk, T.ts, ↓reduceIte, Nat.reduceEqDiff, reduceCtorEq, Nat.reduceLeDiff, Nat.reducePow, Int.reducePow, Int.reduceToNat, Nat.reduceAdd, hv1]
    exact hv2
  · simp only [Nat.reduceEqDiff, if_false, if_true, or_false, false_or, true_or, or_true] at hY
    rw [show [letS 6] = ([108] : List UInt8) from rfl]
    have L : ((([108] : List UInt8) = [120]) = False) ∧ ((([108] : List UInt8) = [98]) = False) ∧ ((([108] : List UInt8) = [115]) = False) ∧ ((([108] : List UInt8) = [99]) = False) ∧ ((([108] : List UInt8) = [97]) = False) ∧ ((([108] : List UInt8) = [105]) = False) ∧ ((([108] : List UInt8) = [110]) = False) ∧ ((([108] : List UInt8) = [106]) = False) ∧ ((([108] : List UInt8) = [74]) = False) ∧ ((([108] : List UInt8) = [102]) = False) ∧ ((([108] : List UInt8) = [109]) = False) ∧ ((([108] : List UInt8) = [116]) = False) ∧ ((([108] : List UInt8) = [107]) = False) := ⟨eq_false (by decide), eq_false (by decide), eq_false (by decide), eq_false (by decide), eq_false (by decide), eq_false (by decide), eq_false (by decide), eq_false (by decide), eq_false (by decide), eq_false (by decide), eq_false (by decide), eq_false (by decide), eq_false (by decide)⟩
    simp (disch := first | omega | assumption) only [C.cut_one_gos, vs, Go.Vc.vk, T.ts, ↓reduceIte, Nat.reduceEqDiff, reduceCtorEq, Nat.reduceLeDiff, Nat.reducePow, Int.reducePow, Int.reduceToNat, Nat.reduceAdd, L, fx0, decide_true, decide_false]
    refine eff_call_of ?_
    simp (disch := first | omega | assumption) only [C.cut_one_gos, vs, Go.Vc.vk, T.ts, ↓reduceIte, Nat.reduceEqDiff, reduceCtorEq, Nat.reduceLeDiff, Nat.reducePow, Int.reducePow, Int.reduceToNat, Nat.reduceAdd]
    refine (cnum_any sz hl (by omega) D.d.rd).mono ?_
    intro v1 h1 hp1
    have D1 := D.step hp1.1 hp1.2.1
    have hv1 := hp1.2.2
    clear hp1
    have fx1 := D1.d.cells
    rw [ha] at fx1
    generalize numS l sz s = T1 at *
    obtain ⟨av, s2⟩ := T1
    simp only at *
    simp (disch := first | omega | assumption) only [C.cut_one_gos, vs, Go.Vc.vk, T.ts, ↓reduceIte, Nat.reduceEqDiff, reduceCtorEq, Nat.reduceLeDiff, Nat.reducePow, Int.reducePow, Int.reduceToNat, Nat.reduceAdd, L, fx1, decide_true, decide_false, hv1]
    refine eff_store1_z T.zr_3 rfl rfl rfl rfl rfl fx1.2.2.2.1 (D1.d.notfz 3) ?_
    have D2 := D1.set 3 (.int .i64 av) { x with A := av } rfl rfl (fun _ _ => rfl)
    generalize setAt _ ⟨q, 3, none⟩ _ = h2 at *
    have fx2 := D2.d.cells
    rw [ha] at fx2
    have D9 := D2
    subst hY
    obtain ⟨vk9, vt9, q9, ok9, ot9, dj9⟩ := id D9.d.xr
    have hld := ld_agg T.ag_35 (Rd_block q9) rfl
    simp only [InV] at hld
    simp (disch := first | omega | assumption) only [C.cut_one_gos, vs, Go.Vc.vk, T.ts, ↓reduceIte, Nat.reduceEqDiff, reduceCtorEq, Nat.reduceLeDiff, Nat.reducePow, Int.reducePow, Int.reduceToNat, Nat.reduceAdd, L, hld, decide_false]
    refine eff_storeN_z T.zr_35 rfl rfl rfl ?_ D9.rk rfl ?_
    · intro u hu
      obtain ⟨_, ak, kk, rfl, _⟩ := ok9.slN
      obtain ⟨_, at7, kt, rfl, _⟩ := ot9.slN
      simp [Value.cells] at hu
      rcases hu with rfl | rfl | rfl | rfl | rfl | rfl | rfl | rfl <;> rfl
    intro h10 f10 b10
    obtain ⟨v, hv1, hv2⟩ := D9.fin q9 ok9 ot9 dj9 f10 b10
    simp (disch := first | omega | assumption) only [C.cut_one_gos, vs, Go.Vc.vk, T.ts, ↓reduceIte, Nat.reduceEqDiff, reduceCtorEq, Nat.reduceLeDiff, Nat.reducePow, Int.reducePow, Int.reduceToNat, Nat.reduceAdd, hv1]
    exact hv2
  · simp only [Nat.reduceEqDiff, if_false, if_true, or_false, false_or, true_or, or_true] at hY
    rw [show [letS 7] = ([110] : List UInt8) from rfl]
    have L : ((([110] : List UInt8) = [120]) = False) ∧ ((([110] : List UInt8) = [98]) = False) ∧ ((([110] : List UInt8) = [115]) = False) ∧ ((([110] : List UInt8) = [99]) = False) ∧ ((([110] : List UInt8) = [97]) = False) ∧ ((([110] : List UInt8) = [105]) = False) ∧ ((([110] : List UInt8) = [108]) = False) ∧ ((([110] : List UInt8) = [106]) = False) ∧ ((([110] : List UInt8) = [74]) = False) ∧ ((([110] : List UInt8) = [102]) = False) ∧ ((([110] : List UInt8) = [109]) = False) ∧ ((([110] : List UInt8) = [116]) = False) ∧ ((([110] : List UInt8) = [107]) = False) := ⟨eq_false (by decide), eq_false (by decide), eq_false (by decide), eq_false (by decide), eq_false (by decide), eq_false (by decide), eq_false (by decide), eq_false (by decide), eq_false (by decide), eq_false (by decide), eq_false (by decide), eq_false (by decide), eq_false (by decide)⟩
    simp (disch := first | omega | assumption) only [C.cut_one_gos, vs, Go.Vc.vk, T.ts, ↓reduceIte, Nat.reduceEqDiff, reduceCtorEq, Nat.reduceLeDiff, Nat.reducePow, Int.reducePow, Int.reduceToNat, Nat.reduceAdd, L, fx0, decide_true, decide_false]
    refine eff_call_of ?_
    simp (disch := first | omega | assumption) only [C.cut_one_gos, vs, Go.Vc.vk, T.ts, ↓reduceIte, Nat.reduceEqDiff, reduceCtorEq, Nat.reduceLeDiff, Nat.reducePow, Int.reducePow, Int.reduceToNat, Nat.reduceAdd]
    refine (cnum_any sz hl (by omega) D.d.rd).mono ?_
    intro v1 h1 hp1
    have D1 := D.step hp1.1 hp1.2.1
    have hv1 := hp1.2.2
    clear hp1
    have fx1 := D1.d.cells
    rw [ha] at fx1
    generalize numS l sz s = T1 at *
    obtain ⟨av, s2⟩ := T1
    simp only at *
    simp (disch := first | omega | assumption) only [C.cut_one_gos, vs, Go.Vc.vk, T.ts, ↓reduceIte, Nat.reduceEqDiff, reduceCtorEq, Nat.reduceLeDiff, Nat.reducePow, Int.reducePow, Int.reduceToNat, Nat.reduceAdd, L, fx1, decide_true, decide_false, hv1]
    refine eff_store1_z T.zr_3 rfl rfl rfl rfl rfl fx1.2.2.2.1 (D1.d.notfz 3) ?_
    have D2 := D1.set 3 (.int .i64 av) { x with A := av } rfl rfl (fun _ _ => rfl)
    generalize setAt _ ⟨q, 3, none⟩ _ = h2 at *
    have fx2 := D2.d.cells
    rw [ha] at fx2
    simp (disch := first | omega | assumption) only [C.cut_one_gos, vs, Go.Vc.vk, T.ts, ↓reduceIte, Nat.reduceEqDiff, reduceCtorEq, Nat.reduceLeDiff, Nat.reducePow, Int.reducePow, Int.reduceToNat, Nat.reduceAdd, L, fx2, decide_true, decide_false, hv1]
    refine eff_call_of ?_
    simp (disch := first | omega | assumption) only [C.cut_one_gos, vs, Go.Vc.vk, T.ts, ↓reduceIte, Nat.reduceEqDiff, reduceCtorEq, Nat.reduceLeDiff, Nat.reducePow, Int.reducePow, Int.reduceToNat, Nat.reduceAdd]
    refine (csgn_any sz (by omega) hl D2.d.rd).mono ?_
    intro v3 h3 hp3
    have D3 := D2.step hp3.1 hp3.2.1
    have hv3 := hp3.2.2
    clear hp3
    have fx3 := D3.d.cells
    rw [ha] at fx3
    generalize sgnD l sz s2 = T3 at *
    obtain ⟨bv, s3⟩ := T3
    simp only at *
    simp (disch := first | omega | assumption) only [C.cut_one_gos, vs, Go.Vc.vk, T.ts, ↓reduceIte, Nat.reduceEqDiff, reduceCtorEq, Nat.reduceLeDiff, Nat.reducePow, Int.reducePow, Int.reduceToNat, Nat.reduceAdd, L, fx3, decide_true, decide_false, hv1, hv3]
    refine eff_store1_z T.zr_3 rfl rfl rfl rfl rfl fx3.2.2.2.2.1 (D3.d.notfz 4) ?_
    have D4 := D3.set 4 (.int .i64 bv) { x with A := av, B := bv } rfl rfl (fun _ _ => rfl)
    generalize setAt _ ⟨q, 4, none⟩ _ = h4 at *
    have fx4 := D4.d.cells
    rw [ha] at fx4
    have D9 := D4
    subst hY
    obtain ⟨vk9, vt9, q9, ok9, ot9, dj9⟩ := id D9.d.xr
    have hld := ld_agg T.ag_35 (Rd_block q9) rfl
    simp only [InV] at hld
    simp (disch := first | omega | assumption) only [C.cut_one_gos, vs, Go.Vc.vk, T.ts, ↓reduceIte, Nat.reduceEqDiff, reduceCtorEq, Nat.reduceLeDiff, Nat.reducePow, Int.reducePow, Int.reduceToNat, Nat.reduceAdd, L, hld, decide_false]
    refine eff_storeN_z T.zr_35 rfl rfl rfl ?_ D9.rk rfl ?_
    · intro u hu
      obtain ⟨_, ak, kk, rfl, _⟩ := ok9.slN
      obtain ⟨_, at7, kt, rfl, _⟩ := ot9.slN
      simp [Value.cells] at hu
      rcases hu with rfl | rfl | rfl | rfl | rfl | rfl | rfl | rfl <;> rfl
    intro h10 f10 b10
    obtain ⟨v, hv1, hv2⟩ := D9.fin q9 ok9 ot9 dj9 f10 b10
    simp (disch := first | omega | assumption) only [C.cut_one_gos, vs, Go.Vc.vk, T.ts, ↓reduceIte, Nat.reduceEqDiff, reduceCtorEq, Nat.reduceLeDiff, Nat.reducePow, Int.reducePow, Int.reduceToNat, Nat.reduceAdd, hv1]
    exact hv2
  · simp only [Nat.reduceEqDiff, if_false, if_true, or_false, false_or, true_or, or_true] at hY
    rw [show [letS 8] = ([106] : List UInt8) from rfl]
    have L : ((([106] : List UInt8) = [120]) = False) ∧ ((([106] : List UInt8) = [98]) = False) ∧ ((([106] : List UInt8) = [115]) = False) ∧ ((([106] : List UInt8) = [99]) = False) ∧ ((([106] : List UInt8) = [97]) = False) ∧ ((([106] : List UInt8) = [105]) = False) ∧ ((([106] : List UInt8) = [108]) = False) ∧ ((([106] : List UInt8) = [110]) = False) ∧ ((([106] : List UInt8) = [74]) = False) ∧ ((([106] : List UInt8) = [102]) = False) ∧ ((([106] : List UInt8) = [109]) = False) ∧ ((([106] : List UInt8) = [116]) = False) ∧ ((([106] : List UInt8) = [107]) = False) := ⟨eq_false (by decide), eq_false (by decide), eq_false (by decide), eq_false (by decide), eq_false (by decide), eq_false (by decide), eq_false (by decide), eq_false (by decide), eq_false (by decide), eq_false (by decide), eq_false (by decide), eq_false (by decide), eq_false (by decide)⟩
    have b0 := sgnD_fit l 2 s (by omega)
    simp (disch := first | omega | assumption) only [C.cut_one_gos, vs, Go.Vc.vk, T.ts, ↓reduceIte, Nat.reduceEqDiff, reduceCtorEq, Nat.reduceLeDiff, Nat.reducePow, Int.reducePow, Int.reduceToNat, Nat.reduceAdd, L, fx0, decide_true, decide_false]
    refine eff_call_of ?_
    simp (disch := first | omega | assumption) only [C.cut_one_gos, vs, Go.Vc.vk, T.ts, ↓reduceIte, Nat.reduceEqDiff, reduceCtorEq, Nat.reduceLeDiff, Nat.reducePow, Int.reducePow, Int.reduceToNat, Nat.reduceAdd]
    refine (csgn_any 2 (by omega) hl D.d.rd).mono ?_
    intro v1 h1 hp1
    have D1 := D.step hp1.1 hp1.2.1
    have hv1 := hp1.2.2
    clear hp1
    have fx1 := D1.d.cells
    rw [ha] at fx1
    generalize sgnD l 2 s = T1 at *
    obtain ⟨tv, s2⟩ := T1
    simp only at *
    simp (disch := first | omega | assumption) only [C.cut_one_gos, vs, Go.Vc.vk, T.ts, ↓reduceIte, Nat.reduceEqDiff, reduceCtorEq, Nat.reduceLeDiff, Nat.reducePow, Int.reducePow, Int.reduceToNat, Nat.reduceAdd, L, fx1, decide_true, decide_false, hv1]
    refine eff_lits T.slT_33 rfl rfl (by decide) ?_
    simp (disch := first | omega | assumption) only [C.cut_one_gos, vs, Go.Vc.vk, T.ts, ↓reduceIte, Nat.reduceEqDiff, reduceCtorEq, Nat.reduceLeDiff, Nat.reducePow, Int.reducePow, Int.reduceToNat, Nat.reduceAdd]
    obtain ⟨vk4, vt4, q4, own4k, own4t, _⟩ := D1.d.xr
    refine eff_store1_z T.zr_33 rfl rfl rfl rfl rfl (by rw [cellAt_of (push_blk q4)]; rfl) ((D1.d.push _).notfz 7) ?_
    have D2 := D1.tg1 ((a : Int) + tv)
    clear q4 own4k own4t
    generalize setAt _ ⟨q, 7, none⟩ _ = h2 at *
    have fx2 := D2.d.cells
    rw [ha] at fx2
    have D9 := D2
    subst hY
    obtain ⟨vk9, vt9, q9, ok9, ot9, dj9⟩ := id D9.d.xr
    have hld := ld_agg T.ag_35 (Rd_block q9) rfl
    simp only [InV] at hld
    simp (disch := first | omega | assumption) only [C.cut_one_gos, vs, Go.Vc.vk, T.ts, ↓reduceIte, Nat.reduceEqDiff, reduceCtorEq, Nat.reduceLeDiff, Nat.reducePow, Int.reducePow, Int.reduceToNat, Nat.reduceAdd, L, hld, decide_false]
    refine eff_storeN_z T.zr_35 rfl rfl rfl ?_ D9.rk rfl ?_
    · intro u hu
      obtain ⟨_, ak, kk, rfl, _⟩ := ok9.slN
      obtain ⟨_, at7, kt, rfl, _⟩ := ot9.slN
      simp [Value.cells] at hu
      rcases hu with rfl | rfl | rfl | rfl | rfl | rfl | rfl | rfl <;> rfl
    intro h10 f10 b10
    obtain ⟨v, hv1, hv2⟩ := D9.fin q9 ok9 ot9 dj9 f10 b10
    simp (disch := first | omega | assumption) only [C.cut_one_gos, vs, Go.Vc.vk, T.ts, ↓reduceIte, Nat.reduceEqDiff, reduceCtorEq, Nat.reduceLeDiff, Nat.reducePow, Int.reducePow, Int.reduceToNat, Nat.reduceAdd, hv1]
    exact hv2
  · simp only [Nat.reduceEqDiff, if_false, if_true, or_false, false_or, true_or, or_true] at hY
    rw [show [letS 9] = ([74] : List UInt8) from rfl]
    have L : ((([74] : List UInt8) = [120]) = False) ∧ ((([74] : List UInt8) = [98]) = False) ∧ ((([74] : List UInt8) = [115]) = False) ∧ ((([74] : List UInt8) = [99]) = False) ∧ ((([74] : List UInt8) = [97]) = False) ∧ ((([74] : List UInt8) = [105]) = False) ∧ ((([74] : List UInt8) = [108]) = False) ∧ ((([74] : List UInt8) = [110]) = False) ∧ ((([74] : List UInt8) = [106]) = False) ∧ ((([74] : List UInt8) = [102]) = False) ∧ ((([74] : List UInt8) = [109]) = False) ∧ ((([74] : List UInt8) = [116]) = False) ∧ ((([74] : List UInt8) = [107]) = False) := ⟨eq_false (by decide), eq_false (by decide), eq_false (by decide), eq_false (by decide), eq_false (by decide), eq_false (by decide), eq_false (by decide), eq_false (by decide), eq_false (by decide), eq_false (by decide), eq_false (by decide), eq_false (by decide), eq_false (by decide)⟩
    have b0 := sgnD_fit l 4 s (by omega)
    simp (disch := first | omega | assumption) only [C.cut_one_gos, vs, Go.Vc.vk, T.ts, ↓reduceIte, Nat.reduceEqDiff, reduceCtorEq, Nat.reduceLeDiff, Nat.reducePow, Int.reducePow, Int.reduceToNat, Nat.reduceAdd, L, fx0, decide_true, decide_false]
    refine eff_call_of ?_
    simp (disch := first | omega | assumption) only [C.cut_one_gos, vs, Go.Vc.vk, T.ts, ↓reduceIte, Nat.reduceEqDiff, reduceCtorEq, Nat.reduceLeDiff, Nat.reducePow, Int.reducePow, Int.reduceToNat, Nat.reduceAdd]
    refine (csgn_any 4 (by omega) hl D.d.rd).mono ?_
    intro v1 h1 hp1
    have D1 := D.step hp1.1 hp1.2.1
    have hv1 := hp1.2.2
    clear hp1
    have fx1 := D1.d.cells
    rw [ha] at fx1
    generalize sgnD l 4 s = T1 at *
    obtain ⟨tv, s2⟩ := T1
    simp only at *
    simp (disch := first | omega | assumption) only [C.cut_one_gos, vs, Go.Vc.vk, T.ts, ↓reduceIte, Nat.reduceEqDiff, reduceCtorEq, Nat.reduceLeDiff, Nat.reducePow, Int.reducePow, Int.reduceToNat, Nat.reduceAdd, L, fx1, decide_true, decide_false, hv1]
    refine eff_lits T.slT_33 rfl rfl (by decide) ?_
    simp (disch := first | omega | assumption) only [C.cut_one_gos, vs, Go.Vc.vk, T.ts, ↓reduceIte, Nat.reduceEqDiff, reduceCtorEq, Nat.reduceLeDiff, Nat.reducePow, Int.reducePow, Int.reduceToNat, Nat.reduceAdd]
    obtain ⟨vk4, vt4, q4, own4k, own4t, _⟩ := D1.d.xr
    refine eff_store1_z T.zr_33 rfl rfl rfl rfl rfl (by rw [cellAt_of (push_blk q4)]; rfl) ((D1.d.push _).notfz 7) ?_
    have D2 := D1.tg1 ((a : Int) + tv)
    clear q4 own4k own4t
    generalize setAt _ ⟨q, 7, none⟩ _ = h2 at *
    have fx2 := D2.d.cells
    rw [ha] at fx2
    have D9 := D2
    subst hY
    obtain ⟨vk9, vt9, q9, ok9, ot9, dj9⟩ := id D9.d.xr
    have hld := ld_agg T.ag_35 (Rd_block q9) rfl
    simp only [InV] at hld
    simp (disch := first | omega | assumption) only [C.cut_one_gos, vs, Go.Vc.vk, T.ts, ↓reduceIte, Nat.reduceEqDiff, reduceCtorEq, Nat.reduceLeDiff, Nat.reducePow, Int.reducePow, Int.reduceToNat, Nat.reduceAdd, L, hld, decide_false]
    refine eff_storeN_z T.zr_35 rfl rfl rfl ?_ D9.rk rfl ?_
    · intro u hu
      obtain ⟨_, ak, kk, rfl, _⟩ := ok9.slN
      obtain ⟨_, at7, kt, rfl, _⟩ := ot9.slN
      simp [Value.cells] at hu
      rcases hu with rfl | rfl | rfl | rfl | rfl | rfl | rfl | rfl <;> rfl
    intro h10 f10 b10
    obtain ⟨v, hv1, hv2⟩ := D9.fin q9 ok9 ot9 dj9 f10 b10
    simp (disch := first | omega | assumption) only [C.cut_one_gos, vs, Go.Vc.vk, T.ts, ↓reduceIte, Nat.reduceEqDiff, reduceCtorEq, Nat.reduceLeDiff, Nat.reducePow, Int.reducePow, Int.reduceToNat, Nat.reduceAdd, hv1]
    exact hv2
  · simp only [Nat.reduceEqDiff, if_false, if_true, or_false, false_or, true_or, or_true] at hY
    rw [show [letS 0] = ([46] : List UInt8) from rfl]
    have L : ((([46] : List UInt8) = [120]) = False) ∧ ((([46] : List UInt8) = [98]) = False) ∧ ((([46] : List UInt8) = [115]) = False) ∧ ((([46] : List UInt8) = [99]) = False) ∧ ((([46] : List UInt8) = [97]) = False) ∧ ((([46] : List UInt8) = [105]) = False) ∧ ((([46] : List UInt8) = [108]) = False) ∧ ((([46] : List UInt8) = [110]) = False) ∧ ((([46] : List UInt8) = [106]) = False) ∧ ((([46] : List UInt8) = [74]) = False) ∧ ((([46] : List UInt8) = [102]) = False) ∧ ((([46] : List UInt8) = [109]) = False) ∧ ((([46] : List UInt8) = [116]) = False) ∧ ((([46] : List UInt8) = [107]) = False) := ⟨eq_false (by decide), eq_false (by decide), eq_false (by decide), eq_false (by decide), eq_false (by decide), eq_false (by decide), eq_false (by decide), eq_false (by decide), eq_false (by decide), eq_false (by decide), eq_false (by decide), eq_false (by decide), eq_false (by decide), eq_false (by decide)⟩
    simp (disch := first | omega | assumption) only [C.cut_one_gos, vs, Go.Vc.vk, T.ts, ↓reduceIte, Nat.reduceEqDiff, reduceCtorEq, Nat.reduceLeDiff, Nat.reducePow, Int.reducePow, Int.reduceToNat, Nat.reduceAdd, L, fx0, decide_true, decide_false]
    have D9 := D
    subst hY
    obtain ⟨vk9, vt9, q9, ok9, ot9, dj9⟩ := id D9.d.xr
    have hld := ld_agg T.ag_35 (Rd_block q9) rfl
    simp only [InV] at hld
    simp (disch := first | omega | assumption) only [C.cut_one_gos, vs, Go.Vc.vk, T.ts, ↓reduceIte, Nat.reduceEqDiff, reduceCtorEq, Nat.reduceLeDiff, Nat.reducePow, Int.reducePow, Int.reduceToNat, Nat.reduceAdd, L, hld, decide_false]
    refine eff_storeN_z T.zr_35 rfl rfl rfl ?_ D9.rk rfl ?_
    · intro u hu
      obtain ⟨_, ak, kk, rfl, _⟩ := ok9.slN
      obtain ⟨_, at7, kt, rfl, _⟩ := ot9.slN
      simp [Value.cells] at hu
      rcases hu with rfl | rfl | rfl | rfl | rfl | rfl | rfl | rfl <;> rfl
    intro h10 f10 b10
    obtain ⟨v, hv1, hv2⟩ := D9.fin q9 ok9 ot9 dj9 f10 b10
    simp (disch := first | omega | assumption) only [C.cut_one_gos, vs, Go.Vc.vk, T.ts, ↓reduceIte, Nat.reduceEqDiff, reduceCtorEq, Nat.reduceLeDiff, Nat.reducePow, Int.reducePow, Int.reduceToNat, Nat.reduceAdd, hv1]
    exact hv2
  · simp only [Nat.reduceEqDiff, if_false, if_true, or_false, false_or, true_or, or_true] at hY
    rw [show [letS 10] = ([116] : List UInt8) from rfl]
    have L : ((([116] : List UInt8) = [120]) = False) ∧ ((([116] : List UInt8) = [98]) = False) ∧ ((([116] : List UInt8) = [115]) = False) ∧ ((([116] : List UInt8) = [99]) = False) ∧ ((([116] : List UInt8) = [97]) = False) ∧ ((([116] : List UInt8) = [105]) = False) ∧ ((([116] : List UInt8) = [108]) = False) ∧ ((([116] : List UInt8) = [110]) = False) ∧ ((([116] : List UInt8) = [106]) = False) ∧ ((([116] : List UInt8) = [74]) = False) ∧ ((([116] : List UInt8) = [102]) = False) ∧ ((([116] : List UInt8) = [109]) = False) ∧ ((([116] : List UInt8) = [107]) = False) := ⟨eq_false (by decide), eq_false (by decide), eq_false (by decide), eq_false (by decide), eq_false (by decide), eq_false (by decide), eq_false (by decide), eq_false (by decide), eq_false (by decide), eq_false (by decide), eq_false (by decide), eq_false (by decide), eq_false (by decide)⟩
    have hmore := rcho_any' x a 10 (by omega) hl ha hal hk ht D.d.rd hq
    have hYc : choD x a 10 l s = Y := hY
    rw [hYc] at hmore
    simp only [Nat.reduceEqDiff, decide_true, decide_false] at hmore
    clear hY hY0 hYc
    simp (disch := first | omega | assumption) only [C.cut_one_gos, vs, Go.Vc.vk, T.ts, ↓reduceIte, Nat.reduceEqDiff, reduceCtorEq, Nat.reduceLeDiff, Nat.reducePow, Int.reducePow, Int.reduceToNat, Nat.reduceAdd, L, fx0, decide_true, decide_false]
    refine eff_call_of ?_
    simp (disch := first | omega | assumption) only [C.cut_one_gos, vs, Go.Vc.vk, T.ts, ↓reduceIte, Nat.reduceEqDiff, reduceCtorEq, Nat.reduceLeDiff, Nat.reducePow, Int.reducePow, Int.reduceToNat, Nat.reduceAdd]
    refine (hmore).mono ?_
    intro v1 h1 hp1
    have D1 := D.more hp1.1 hp1.2.1 hp1.2.2
    obtain ⟨x9, s9⟩ := Y
    have D9 := D1
    obtain ⟨vk9, vt9, q9, ok9, ot9, dj9⟩ := id D9.d.xr
    have hld := ld_agg T.ag_35 (Rd_block q9) rfl
    simp only [InV] at hld
    simp (disch := first | omega | assumption) only [C.cut_one_gos, vs, Go.Vc.vk, T.ts, ↓reduceIte, Nat.reduceEqDiff, reduceCtorEq, Nat.reduceLeDiff, Nat.reducePow, Int.reducePow, Int.reduceToNat, Nat.reduceAdd, L, hld, decide_false]
    refine eff_storeN_z T.zr_35 rfl rfl rfl ?_ D9.rk rfl ?_
    · intro u hu
      obtain ⟨_, ak, kk, rfl, _⟩ := ok9.slN
      obtain ⟨_, at7, kt, rfl, _⟩ := ot9.slN
      simp [Value.cells] at hu
      rcases hu with rfl | rfl | rfl | rfl | rfl | rfl | rfl | rfl <;> rfl
    intro h10 f10 b10
    obtain ⟨v, hv1, hv2⟩ := D9.fin q9 ok9 ot9 dj9 f10 b10
    simp (disch := first | omega | assumption) only [C.cut_one_gos, vs, Go.Vc.vk, T.ts, ↓reduceIte, Nat.reduceEqDiff, reduceCtorEq, Nat.reduceLeDiff, Nat.reducePow, Int.reducePow, Int.reduceToNat, Nat.reduceAdd, hv1]
    exact hv2
  · simp only [Nat.reduceEqDiff, if_false, if_true, or_false, false_or, true_or, or_true] at hY
    rw [show [letS 11] = ([107] : List UInt8) from rfl]
    have L : ((([107] : List UInt8) = [120]) = False) ∧ ((([107] : List UInt8) = [98]) = False) ∧ ((([107] : List UInt8) = [115]) = False) ∧ ((([107] : List UInt8) = [99]) = False) ∧ ((([107] : List UInt8) = [97]) = False) ∧ ((([107] : List UInt8) = [105]) = False) ∧ ((([107] : List UInt8) = [108]) = False) ∧ ((([107] : List UInt8) = [110]) = False) ∧ ((([107] : List UInt8) = [106]) = False) ∧ ((([107] : List UInt8) = [74]) = False) ∧ ((([107] : List UInt8) = [102]) = False) ∧ ((([107] : List UInt8) = [109]) = False) ∧ ((([107] : List UInt8) = [116]) = False) := ⟨eq_false (by decide), eq_false (by decide), eq_false (by decide), eq_false (by decide), eq_false (by decide), eq_false (by decide), eq_false (by decide), eq_false (by decide), eq_false (by decide), eq_false (by decide), eq_false (by decide), eq_false (by decide), eq_false (by decide)⟩
    have hmore := rcho_any' x a 11 (by omega) hl ha hal hk ht D.d.rd hq
    have hYc : choD x a 11 l s = Y := hY
    rw [hYc] at hmore
    simp only [Nat.reduceEqDiff, decide_true, decide_false] at hmore
    clear hY hY0 hYc
    simp (disch := first | omega | assumption) only [C.cut_one_gos, vs, Go.Vc.vk, T.ts, ↓reduceIte, Nat.reduceEqDiff, reduceCtorEq, Nat.reduceLeDiff, Nat.reducePow, Int.reducePow, Int.reduceToNat, Nat.reduceAdd, L, fx0, decide_true, decide_false]
    refine eff_call_of ?_
    simp (disch := first | omega | assumption) only [C.cut_one_gos, vs, Go.Vc.vk, T.ts, ↓reduceIte, Nat.reduceEqDiff, reduceCtorEq, Nat.reduceLeDiff, Nat.reducePow, Int.reducePow, Int.reduceToNat, Nat.reduceAdd]
    refine (hmore).mono ?_
    intro v1 h1 hp1
    have D1 := D.more hp1.1 hp1.2.1 hp1.2.2
    obtain ⟨x9, s9⟩ := Y
    have D9 := D1
    obtain ⟨vk9, vt9, q9, ok9, ot9, dj9⟩ := id D9.d.xr
    have hld := ld_agg T.ag_35 (Rd_block q9) rfl
    simp only [InV] at hld
    simp (disch := first | omega | assumption) only [C.cut_one_gos, vs, Go.Vc.vk, T.ts, ↓reduceIte, Nat.reduceEqDiff, reduceCtorEq, Nat.reduceLeDiff, Nat.reducePow, Int.reducePow, Int.reduceToNat, Nat.reduceAdd, L, hld, decide_false]
    refine eff_storeN_z T.zr_35 rfl rfl rfl ?_ D9.rk rfl ?_
    · intro u hu
      obtain ⟨_, ak, kk, rfl, _⟩ := ok9.slN
      obtain ⟨_, at7, kt, rfl, _⟩ := ot9.slN
      simp [Value.cells] at hu
      rcases hu with rfl | rfl | rfl | rfl | rfl | rfl | rfl | rfl <;> rfl
    intro h10 f10 b10
    obtain ⟨v, hv1, hv2⟩ := D9.fin q9 ok9 ot9 dj9 f10 b10
    simp (disch := first | omega | assumption) only [C.cut_one_gos, vs, Go.Vc.vk, T.ts, ↓reduceIte, Nat.reduceEqDiff, reduceCtorEq, Nat.reduceLeDiff, Nat.reducePow, Int.reducePow, Int.reduceToNat, Nat.reduceAdd, hv1]
    exact hv2
  · simp only [Nat.reduceEqDiff, if_false, if_true, or_false, false_or, true_or, or_true] at hY
    rw [show [letS 12] = ([102] : List UInt8) from rfl]
    have L : ((([102] : List UInt8) = [120]) = False) ∧ ((([102] : List UInt8) = [98]) = False) ∧ ((([102] : List UInt8) = [115]) = False) ∧ ((([102] : List UInt8) = [99]) = False) ∧ ((([102] : List UInt8) = [97]) = False) ∧ ((([102] : List UInt8) = [105]) = False) ∧ ((([102] : List UInt8) = [108]) = False) ∧ ((([102] : List UInt8) = [110]) = False) ∧ ((([102] : List UInt8) = [106]) = False) ∧ ((([102] : List UInt8) = [74]) = False) ∧ ((([102] : List UInt8) = [109]) = False) ∧ ((([102] : List UInt8) = [116]) = False) ∧ ((([102] : List UInt8) = [107]) = False) := ⟨eq_false (by decide), eq_false (by decide), eq_false (by decide), eq_false (by decide), eq_false (by decide), eq_false (by decide), eq_false (by decide), eq_false (by decide), eq_false (by decide), eq_false (by decide), eq_false (by decide), eq_false (by decide), eq_false (by decide)⟩
    simp (disch := first | omega | assumption) only [C.cut_one_gos, vs, Go.Vc.vk, T.ts, ↓reduceIte, Nat.reduceEqDiff, reduceCtorEq, Nat.reduceLeDiff, Nat.reducePow, Int.reducePow, Int.reduceToNat, Nat.reduceAdd, L, fx0, decide_true, decide_false]
    refine eff_call_of ?_
    simp (disch := first | omega | assumption) only [C.cut_one_gos, vs, Go.Vc.vk, T.ts, ↓reduceIte, Nat.reduceEqDiff, reduceCtorEq, Nat.reduceLeDiff, Nat.reducePow, Int.reducePow, Int.reduceToNat, Nat.reduceAdd]
    refine (cnum_any 2 hl (by omega) D.d.rd).mono ?_
    intro v1 h1 hp1
    have D1 := D.step hp1.1 hp1.2.1
    have hv1 := hp1.2.2
    clear hp1
    have fx1 := D1.d.cells
    rw [ha] at fx1
    generalize numS l 2 s = T1 at *
    obtain ⟨av, s2⟩ := T1
    simp only at *
    simp (disch := first | omega | assumption) only [C.cut_one_gos, vs, Go.Vc.vk, T.ts, ↓reduceIte, Nat.reduceEqDiff, reduceCtorEq, Nat.reduceLeDiff, Nat.reducePow, Int.reducePow, Int.reduceToNat, Nat.reduceAdd, L, fx1, decide_true, decide_false, hv1]
    refine eff_store1_z T.zr_3 rfl rfl rfl rfl rfl fx1.2.2.2.1 (D1.d.notfz 3) ?_
    have D2 := D1.set 3 (.int .i64 av) { x with A := av } rfl rfl (fun _ _ => rfl)
    generalize setAt _ ⟨q, 3, none⟩ _ = h2 at *
    have fx2 := D2.d.cells
    rw [ha] at fx2
    simp (disch := first | omega | assumption) only [C.cut_one_gos, vs, Go.Vc.vk, T.ts, ↓reduceIte, Nat.reduceEqDiff, reduceCtorEq, Nat.reduceLeDiff, Nat.reducePow, Int.reducePow, Int.reduceToNat, Nat.reduceAdd, L, fx2, decide_true, decide_false, hv1]
    refine eff_call_of ?_
    simp (disch := first | omega | assumption) only [C.cut_one_gos, vs, Go.Vc.vk, T.ts, ↓reduceIte, Nat.reduceEqDiff, reduceCtorEq, Nat.reduceLeDiff, Nat.reducePow, Int.reducePow, Int.reduceToNat, Nat.reduceAdd]
    refine (cnum_any 1 hl (by omega) D2.d.rd).mono ?_
    intro v3 h3 hp3
    have D3 := D2.step hp3.1 hp3.2.1
    have hv3 := hp3.2.2
    clear hp3
    have fx3 := D3.d.cells
    rw [ha] at fx3
    generalize numS l 1 s2 = T3 at *
    obtain ⟨bv, s3⟩ := T3
    simp only at *
    simp (disch := first | omega | assumption) only [C.cut_one_gos, vs, Go.Vc.vk, T.ts, ↓reduceIte, Nat.reduceEqDiff, reduceCtorEq, Nat.reduceLeDiff, Nat.reducePow, Int.reducePow, Int.reduceToNat, Nat.reduceAdd, L, fx3, decide_true, decide_false, hv1, hv3]
    refine eff_store1_z T.zr_3 rfl rfl rfl rfl rfl fx3.2.2.2.2.1 (D3.d.notfz 4) ?_
    have D4 := D3.set 4 (.int .i64 bv) { x with A := av, B := bv } rfl rfl (fun _ _ => rfl)
    generalize setAt _ ⟨q, 4, none⟩ _ = h4 at *
    have fx4 := D4.d.cells
    rw [ha] at fx4
    simp (disch := first | omega | assumption) only [C.cut_one_gos, vs, Go.Vc.vk, T.ts, ↓reduceIte, Nat.reduceEqDiff, reduceCtorEq, Nat.reduceLeDiff, Nat.reducePow, Int.reducePow, Int.reduceToNat, Nat.reduceAdd, L, fx4, decide_true, decide_false, hv1, hv3]
    refine eff_call_of ?_
    simp (disch := first | omega | assumption) only [C.cut_one_gos, vs, Go.Vc.vk, T.ts, ↓reduceIte, Nat.reduceEqDiff, reduceCtorEq, Nat.reduceLeDiff, Nat.reducePow, Int.reducePow, Int.reduceToNat, Nat.reduceAdd]
    refine (cnum_any 1 hl (by omega) D4.d.rd).mono ?_
    intro v5 h5 hp5
    have D5 := D4.step hp5.1 hp5.2.1
    have hv5 := hp5.2.2
    clear hp5
    have fx5 := D5.d.cells
    rw [ha] at fx5
    generalize numS l 1 s3 = T5 at *
    obtain ⟨cv, s6⟩ := T5
    simp only at *
    have hcs : ((((cv : Int) = 0) = False) ∧ (cv ≠ 0 ∨ bv = 0)) ∨ ((((cv : Int) = 0) = True) ∧ (((bv : Int) = 0) = True) ∧ (cv ≠ 0 ∨ bv = 0)) ∨ ((((cv : Int) = 0) = True) ∧ (((bv : Int) = 0) = False) ∧ ¬ (cv ≠ 0 ∨ bv = 0)) := by
      by_cases g1 : cv = 0
      · by_cases g2 : bv = 0
        · exact Or.inr (Or.inl ⟨eq_true (by omega), eq_true (by omega), Or.inr g2⟩)
        · exact Or.inr (Or.inr ⟨eq_true (by omega), eq_false (by omega), by omega⟩)
      · exact Or.inl ⟨eq_false (by omega), Or.inl g1⟩
    rcases hcs with ⟨fc, hb⟩ | ⟨fc, fd, hb⟩ | ⟨fc, fd, hb⟩
    · skip
      rw [if_pos hb] at hY
      simp (disch := first | omega | assumption) only [C.cut_one_gos, vs, Go.Vc.vk, T.ts, ↓reduceIte, Nat.reduceEqDiff, reduceCtorEq, Nat.reduceLeDiff, Nat.reducePow, Int.reducePow, Int.reduceToNat, Nat.reduceAdd, L, fx5, decide_true, decide_false, hv1, hv3, hv5, fc]
      refine eff_call_of ?_
      simp (disch := first | omega | assumption) only [C.cut_one_gos, vs, Go.Vc.vk, T.ts, ↓reduceIte, Nat.reduceEqDiff, reduceCtorEq, Nat.reduceLeDiff, Nat.reducePow, Int.reducePow, Int.reduceToNat, Nat.reduceAdd]
      refine (cfail_any 15 a D5.d.rd).mono ?_
      intro v6 h6 hp6
      have D6 := D5.step hp6.1 hp6.2
      clear hp6
      have fx6 := D6.d.cells
      rw [ha] at fx6
      have D9 := D6
      subst hY
      obtain ⟨vk9, vt9, q9, ok9, ot9, dj9⟩ := id D9.d.xr
      have hld := ld_agg T.ag_35 (Rd_block q9) rfl
      simp only [InV] at hld
      simp (disch := first | omega | assumption) only [C.cut_one_gos, vs, Go.Vc.vk, T.ts, ↓reduceIte, Nat.reduceEqDiff, reduceCtorEq, Nat.reduceLeDiff, Nat.reducePow, Int.reducePow, Int.reduceToNat, Nat.reduceAdd, L, hld, decide_false]
      refine eff_storeN_z T.zr_35 rfl rfl rfl ?_ D9.rk rfl ?_
      · intro u hu
        obtain ⟨_, ak, kk, rfl, _⟩ := ok9.slN
        obtain ⟨_, at7, kt, rfl, _⟩ := ot9.slN
        simp [Value.cells] at hu
        rcases hu with rfl | rfl | rfl | rfl | rfl | rfl | rfl | rfl <;> rfl
      intro h10 f10 b10
      obtain ⟨v, hv1, hv2⟩ := D9.fin q9 ok9 ot9 dj9 f10 b10
      simp (disch := first | omega | assumption) only [C.cut_one_gos, vs, Go.Vc.vk, T.ts, ↓reduceIte, Nat.reduceEqDiff, reduceCtorEq, Nat.reduceLeDiff, Nat.reducePow, Int.reducePow, Int.reduceToNat, Nat.reduceAdd, hv1]
      exact hv2
    · skip
      rw [if_pos hb] at hY
      simp (disch := first | omega | assumption) only [C.cut_one_gos, vs, Go.Vc.vk, T.ts, ↓reduceIte, Nat.reduceEqDiff, reduceCtorEq, Nat.reduceLeDiff, Nat.reducePow, Int.reducePow, Int.reduceToNat, Nat.reduceAdd, L, fx5, decide_true, decide_false, hv1, hv3, hv5, fc, fd]
      refine eff_call_of ?_
      simp (disch := first | omega | assumption) only [C.cut_one_gos, vs, Go.Vc.vk, T.ts, ↓reduceIte, Nat.reduceEqDiff, reduceCtorEq, Nat.reduceLeDiff, Nat.reducePow, Int.reducePow, Int.reduceToNat, Nat.reduceAdd]
      refine (cfail_any 15 a D5.d.rd).mono ?_
      intro v6 h6 hp6
      have D6 := D5.step hp6.1 hp6.2
      clear hp6
      have fx6 := D6.d.cells
      rw [ha] at fx6
      have D9 := D6
      subst hY
      obtain ⟨vk9, vt9, q9, ok9, ot9, dj9⟩ := id D9.d.xr
      have hld := ld_agg T.ag_35 (Rd_block q9) rfl
      simp only [InV] at hld
      simp (disch := first | omega | assumption) only [C.cut_one_gos, vs, Go.Vc.vk, T.ts, ↓reduceIte, Nat.reduceEqDiff, reduceCtorEq, Nat.reduceLeDiff, Nat.reducePow, Int.reducePow, Int.reduceToNat, Nat.reduceAdd, L, hld, decide_false]
      refine eff_storeN_z T.zr_35 rfl rfl rfl ?_ D9.rk rfl ?_
      · intro u hu
        obtain ⟨_, ak, kk, rfl, _⟩ := ok9.slN
        obtain ⟨_, at7, kt, rfl, _⟩ := ot9.slN
        simp [Value.cells] at hu
        rcases hu with rfl | rfl | rfl | rfl | rfl | rfl | rfl | rfl <;> rfl
      intro h10 f10 b10
      obtain ⟨v, hv1, hv2⟩ := D9.fin q9 ok9 ot9 dj9 f10 b10
      simp (disch := first | omega | assumption) only [C.cut_one_gos, vs, Go.Vc.vk, T.ts, ↓reduceIte, Nat.reduceEqDiff, reduceCtorEq, Nat.reduceLeDiff, Nat.reducePow, Int.reducePow, Int.reduceToNat, Nat.reduceAdd, hv1]
      exact hv2
    · skip
      rw [if_neg hb] at hY
      simp (disch := first | omega | assumption) only [C.cut_one_gos, vs, Go.Vc.vk, T.ts, ↓reduceIte, Nat.reduceEqDiff, reduceCtorEq, Nat.reduceLeDiff, Nat.reducePow, Int.reducePow, Int.reduceToNat, Nat.reduceAdd, L, fx5, decide_true, decide_false, hv1, hv3, hv5, fc, fd]
      have D9 := D5
      subst hY
      obtain ⟨vk9, vt9, q9, ok9, ot9, dj9⟩ := id D9.d.xr
      have hld := ld_agg T.ag_35 (Rd_block q9) rfl
      simp only [InV] at hld
      simp (disch := first | omega | assumption) only [C.cut_one_gos, vs, Go.Vc.vk, T.ts, ↓reduceIte, Nat.reduceEqDiff, reduceCtorEq, Nat.reduceLeDiff, Nat.reducePow, Int.reducePow, Int.reduceToNat, Nat.reduceAdd, L, hld, decide_false]
      refine eff_storeN_z T.zr_35 rfl rfl rfl ?_ D9.rk rfl ?_
      · intro u hu
        obtain ⟨_, ak, kk, rfl, _⟩ := ok9.slN
        obtain ⟨_, at7, kt, rfl, _⟩ := ot9.slN
        simp [Value.cells] at hu
        rcases hu with rfl | rfl | rfl | rfl | rfl | rfl | rfl | rfl <;> rfl
      intro h10 f10 b10
      obtain ⟨v, hv1, hv2⟩ := D9.fin q9 ok9 ot9 dj9 f10 b10
      simp (disch := first | omega | assumption) only [C.cut_one_gos, vs, Go.Vc.vk, T.ts, ↓reduceIte, Nat.reduceEqDiff, reduceCtorEq, Nat.reduceLeDiff, Nat.reducePow, Int.reducePow, Int.reduceToNat, Nat.reduceAdd, hv1]
      exact hv2
  · simp only [Nat.reduceEqDiff, if_false, if_true, or_false, false_or, true_or, or_true] at hY
    rw [show [letS 13] = ([97] : List UInt8) from rfl]
    have L : ((([97] : List UInt8) = [120]) = False) ∧ ((([97] : List UInt8) = [98]) = False) ∧ ((([97] : List UInt8) = [115]) = False) ∧ ((([97] : List UInt8) = [99]) = False) ∧ ((([97] : List UInt8) = [105]) = False) ∧ ((([97] : List UInt8) = [108]) = False) ∧ ((([97] : List UInt8) = [110]) = False) ∧ ((([97] : List UInt8) = [106]) = False) ∧ ((([97] : List UInt8) = [74]) = False) ∧ ((([97] : List UInt8) = [102]) = False) ∧ ((([97] : List UInt8) = [109]) = False) ∧ ((([97] : List UInt8) = [116]) = False) ∧ ((([97] : List UInt8) = [107]) = False) := ⟨eq_false (by decide), eq_false (by decide), eq_false (by decide), eq_false (by decide), eq_false (by decide), eq_false (by decide), eq_false (by decide), eq_false (by decide), eq_false (by decide), eq_false (by decide), eq_false (by decide), eq_false (by decide), eq_false (by decide)⟩
    simp (disch := first | omega | assumption) only [C.cut_one_gos, vs, Go.Vc.vk, T.ts, ↓reduceIte, Nat.reduceEqDiff, reduceCtorEq, Nat.reduceLeDiff, Nat.reducePow, Int.reducePow, Int.reduceToNat, Nat.reduceAdd, L, fx0, decide_true, decide_false]
    refine eff_call_of ?_
    simp (disch := first | omega | assumption) only [C.cut_one_gos, vs, Go.Vc.vk, T.ts, ↓reduceIte, Nat.reduceEqDiff, reduceCtorEq, Nat.reduceLeDiff, Nat.reducePow, Int.reducePow, Int.reduceToNat, Nat.reduceAdd]
    refine (cnum_any 1 hl (by omega) D.d.rd).mono ?_
    intro v1 h1 hp1
    have D1 := D.step hp1.1 hp1.2.1
    have hv1 := hp1.2.2
    clear hp1
    have fx1 := D1.d.cells
    rw [ha] at fx1
    generalize numS l 1 s = T1 at *
    obtain ⟨av, s2⟩ := T1
    simp only at *
    simp (disch := first | omega | assumption) only [C.cut_one_gos, vs, Go.Vc.vk, T.ts, ↓reduceIte, Nat.reduceEqDiff, reduceCtorEq, Nat.reduceLeDiff, Nat.reducePow, Int.reducePow, Int.reduceToNat, Nat.reduceAdd, L, fx1, decide_true, decide_false, hv1]
    refine eff_store1_z T.zr_3 rfl rfl rfl rfl rfl fx1.2.2.2.1 (D1.d.notfz 3) ?_
    have D2 := D1.set 3 (.int .i64 av) { x with A := av } rfl rfl (fun _ _ => rfl)
    generalize setAt _ ⟨q, 3, none⟩ _ = h2 at *
    have fx2 := D2.d.cells
    rw [ha] at fx2
    have hcs : ((((av : Int) < 4) = True) ∧ (av < 4 ∨ 11 < av)) ∨ ((((av : Int) < 4) = False) ∧ (((11 : Int) < (av : Int)) = True) ∧ (av < 4 ∨ 11 < av)) ∨ ((((av : Int) < 4) = False) ∧ (((11 : Int) < (av : Int)) = False) ∧ ¬ (av < 4 ∨ 11 < av)) := by
      by_cases g1 : av < 4
      · exact Or.inl ⟨eq_true (by omega), Or.inl g1⟩
      · by_cases g2 : 11 < av
        · exact Or.inr (Or.inl ⟨eq_false (by omega), eq_true (by omega), Or.inr g2⟩)
        · exact Or.inr (Or.inr ⟨eq_false (by omega), eq_false (by omega), by omega⟩)
    rcases hcs with ⟨fc, hb⟩ | ⟨fc, fd, hb⟩ | ⟨fc, fd, hb⟩
    · skip
      rw [if_pos hb] at hY
      simp (disch := first | omega | assumption) only [C.cut_one_gos, vs, Go.Vc.vk, T.ts, ↓reduceIte, Nat.reduceEqDiff, reduceCtorEq, Nat.reduceLeDiff, Nat.reducePow, Int.reducePow, Int.reduceToNat, Nat.reduceAdd, L, fx2, decide_true, decide_false, hv1, fc]
      refine eff_call_of ?_
      simp (disch := first | omega | assumption) only [C.cut_one_gos, vs, Go.Vc.vk, T.ts, ↓reduceIte, Nat.reduceEqDiff, reduceCtorEq, Nat.reduceLeDiff, Nat.reducePow, Int.reducePow, Int.reduceToNat, Nat.reduceAdd]
      refine (cfail_any 15 a D2.d.rd).mono ?_
      intro v3 h3 hp3
      have D3 := D2.step hp3.1 hp3.2
      clear hp3
      have fx3 := D3.d.cells
      rw [ha] at fx3
      have D9 := D3
      subst hY
      obtain ⟨vk9, vt9, q9, ok9, ot9, dj9⟩ := id D9.d.xr
      have hld := ld_agg T.ag_35 (Rd_block q9) rfl
      simp only [InV] at hld
      simp (disch := first | omega | assumption) only [C.cut_one_gos, vs, Go.Vc.vk, T.ts, ↓reduceIte, Nat.reduceEqDiff, reduceCtorEq, Nat.reduceLeDiff, Nat.reducePow, Int.reducePow, Int.reduceToNat, Nat.reduceAdd, L, hld, decide_false]
      refine eff_storeN_z T.zr_35 rfl rfl rfl ?_ D9.rk rfl ?_
      · intro u hu
        obtain ⟨_, ak, kk, rfl, _⟩ := ok9.slN
        obtain ⟨_, at7, kt, rfl, _⟩ := ot9.slN
        simp [Value.cells] at hu
        rcases hu with rfl | rfl | rfl | rfl | rfl | rfl | rfl | rfl <;> rfl
      intro h10 f10 b10
      obtain ⟨v, hv1, hv2⟩ := D9.fin q9 ok9 ot9 dj9 f10 b10
      simp (disch := first | omega | assumption) only [C.cut_one_gos, vs, Go.Vc.vk, T.ts, ↓reduceIte, Nat.reduceEqDiff, reduceCtorEq, Nat.reduceLeDiff, Nat.reducePow, Int.reducePow, Int.reduceToNat, Nat.reduceAdd, hv1]
      exact hv2
    · skip
      rw [if_pos hb] at hY
      simp (disch := first | omega | assumption) only [C.cut_one_gos, vs, Go.Vc.vk, T.ts, ↓reduceIte, Nat.reduceEqDiff, reduceCtorEq, Nat.reduceLeDiff, Nat.reducePow, Int.reducePow, Int.reduceToNat, Nat.reduceAdd, L, fx2, decide_true, decide_false, hv1, fc, fd]
      refine eff_call_of ?_
      simp (disch := first | omega | assumption) only [C.cut_one_gos, vs, Go.Vc.vk, T.ts, ↓reduceIte, Nat.reduceEqDiff, reduceCtorEq, Nat.reduceLeDiff, Nat.reducePow, Int.reducePow, Int.reduceToNat, Nat.reduceAdd]
      refine (cfail_any 15 a D2.d.rd).mono ?_
      intro v3 h3 hp3
      have D3 := D2.step hp3.1 hp3.2
      clear hp3
      have fx3 := D3.d.cells
      rw [ha] at fx3
      have D9 := D3
      subst hY
      obtain ⟨vk9, vt9, q9, ok9, ot9, dj9⟩ := id D9.d.xr
      have hld := ld_agg T.ag_35 (Rd_block q9) rfl
      simp only [InV] at hld
      simp (disch := first | omega | assumption) only [C.cut_one_gos, vs, Go.Vc.vk, T.ts, ↓reduceIte, Nat.reduceEqDiff, reduceCtorEq, Nat.reduceLeDiff, Nat.reducePow, Int.reducePow, Int.reduceToNat, Nat.reduceAdd, L, hld, decide_false]
      refine eff_storeN_z T.zr_35 rfl rfl rfl ?_ D9.rk rfl ?_
      · intro u hu
        obtain ⟨_, ak, kk, rfl, _⟩ := ok9.slN
        obtain ⟨_, at7, kt, rfl, _⟩ := ot9.slN
        simp [Value.cells] at hu
        rcases hu with rfl | rfl | rfl | rfl | rfl | rfl | rfl | rfl <;> rfl
      intro h10 f10 b10
      obtain ⟨v, hv1, hv2⟩ := D9.fin q9 ok9 ot9 dj9 f10 b10
      simp (disch := first | omega | assumption) only [C.cut_one_gos, vs, Go.Vc.vk, T.ts, ↓reduceIte, Nat.reduceEqDiff, reduceCtorEq, Nat.reduceLeDiff, Nat.reducePow, Int.reducePow, Int.reduceToNat, Nat.reduceAdd, hv1]
      exact hv2
    · skip
      rw [if_neg hb] at hY
      simp (disch := first | omega | assumption) only [C.cut_one_gos, vs, Go.Vc.vk, T.ts, ↓reduceIte, Nat.reduceEqDiff, reduceCtorEq, Nat.reduceLeDiff, Nat.reducePow, Int.reducePow, Int.reduceToNat, Nat.reduceAdd, L, fx2, decide_true, decide_false, hv1, fc, fd]
      have D9 := D2
      subst hY
      obtain ⟨vk9, vt9, q9, ok9, ot9, dj9⟩ := id D9.d.xr
      have hld := ld_agg T.ag_35 (Rd_block q9) rfl
      simp only [InV] at hld
      simp (disch := first | omega | assumption) only [C.cut_one_gos, vs, Go.Vc.vk, T.ts, ↓reduceIte, Nat.reduceEqDiff, reduceCtorEq, Nat.reduceLeDiff, Nat.reducePow, Int.reducePow, Int.reduceToNat, Nat.reduceAdd, L, hld, decide_false]
      refine eff_storeN_z T.zr_35 rfl rfl rfl ?_ D9.rk rfl ?_
      · intro u hu
        obtain ⟨_, ak, kk, rfl, _⟩ := ok9.slN
        obtain ⟨_, at7, kt, rfl, _⟩ := ot9.slN
        simp [Value.cells] at hu
        rcases hu with rfl | rfl | rfl | rfl | rfl | rfl | rfl | rfl <;> rfl
      intro h10 f10 b10
      obtain ⟨v, hv1, hv2⟩ := D9.fin q9 ok9 ot9 dj9 f10 b10
      simp (disch := first | omega | assumption) only [C.cut_one_gos, vs, Go.Vc.vk, T.ts, ↓reduceIte, Nat.reduceEqDiff, reduceCtorEq, Nat.reduceLeDiff, Nat.reducePow, Int.reducePow, Int.reduceToNat, Nat.reduceAdd, hv1]
      exact hv2
  · simp only [Nat.reduceEqDiff, if_false, if_true, or_false, false_or, true_or, or_true] at hY
    rw [show [letS 14] = ([109] : List UInt8) from rfl]
    have L : ((([109] : List UInt8) = [120]) = False) ∧ ((([109] : List UInt8) = [98]) = False) ∧ ((([109] : List UInt8) = [115]) = False) ∧ ((([109] : List UInt8) = [99]) = False) ∧ ((([109] : List UInt8) = [97]) = False) ∧ ((([109] : List UInt8) = [105]) = False) ∧ ((([109] : List UInt8) = [108]) = False) ∧ ((([109] : List UInt8) = [110]) = False) ∧ ((([109] : List UInt8) = [106]) = False) ∧ ((([109] : List UInt8) = [74]) = False) ∧ ((([109] : List UInt8) = [102]) = False) ∧ ((([109] : List UInt8) = [116]) = False) ∧ ((([109] : List UInt8) = [107]) = False) := ⟨eq_false (by decide), eq_false (by decide), eq_false (by decide), eq_false (by decide), eq_false (by decide), eq_false (by decide), eq_false (by decide), eq_false (by decide), eq_false (by decide), eq_false (by decide), eq_false (by decide), eq_false (by decide), eq_false (by decide)⟩
    simp (disch := first | omega | assumption) only [C.cut_one_gos, vs, Go.Vc.vk, T.ts, ↓reduceIte, Nat.reduceEqDiff, reduceCtorEq, Nat.reduceLeDiff, Nat.reducePow, Int.reducePow, Int.reduceToNat, Nat.reduceAdd, L, fx0, decide_true, decide_false]
    refine eff_call_of ?_
    simp (disch := first | omega | assumption) only [C.cut_one_gos, vs, Go.Vc.vk, T.ts, ↓reduceIte, Nat.reduceEqDiff, reduceCtorEq, Nat.reduceLeDiff, Nat.reducePow, Int.reducePow, Int.reduceToNat, Nat.reduceAdd]
    refine (cnum_any 2 hl (by omega) D.d.rd).mono ?_
    intro v1 h1 hp1
    have D1 := D.step hp1.1 hp1.2.1
    have hv1 := hp1.2.2
    clear hp1
    have fx1 := D1.d.cells
    rw [ha] at fx1
    generalize numS l 2 s = T1 at *
    obtain ⟨av, s2⟩ := T1
    simp only at *
    simp (disch := first | omega | assumption) only [C.cut_one_gos, vs, Go.Vc.vk, T.ts, ↓reduceIte, Nat.reduceEqDiff, reduceCtorEq, Nat.reduceLeDiff, Nat.reducePow, Int.reducePow, Int.reduceToNat, Nat.reduceAdd, L, fx1, decide_true, decide_false, hv1]
    refine eff_store1_z T.zr_3 rfl rfl rfl rfl rfl fx1.2.2.2.1 (D1.d.notfz 3) ?_
    have D2 := D1.set 3 (.int .i64 av) { x with A := av } rfl rfl (fun _ _ => rfl)
    generalize setAt _ ⟨q, 3, none⟩ _ = h2 at *
    have fx2 := D2.d.cells
    rw [ha] at fx2
    simp (disch := first | omega | assumption) only [C.cut_one_gos, vs, Go.Vc.vk, T.ts, ↓reduceIte, Nat.reduceEqDiff, reduceCtorEq, Nat.reduceLeDiff, Nat.reducePow, Int.reducePow, Int.reduceToNat, Nat.reduceAdd, L, fx2, decide_true, decide_false, hv1]
    refine eff_call_of ?_
    simp (disch := first | omega | assumption) only [C.cut_one_gos, vs, Go.Vc.vk, T.ts, ↓reduceIte, Nat.reduceEqDiff, reduceCtorEq, Nat.reduceLeDiff, Nat.reducePow, Int.reducePow, Int.reduceToNat, Nat.reduceAdd]
    refine (cnum_any 1 hl (by omega) D2.d.rd).mono ?_
    intro v3 h3 hp3
    have D3 := D2.step hp3.1 hp3.2.1
    have hv3 := hp3.2.2
    clear hp3
    have fx3 := D3.d.cells
    rw [ha] at fx3
    generalize numS l 1 s2 = T3 at *
    obtain ⟨bv, s3⟩ := T3
    simp only at *
    simp (disch := first | omega | assumption) only [C.cut_one_gos, vs, Go.Vc.vk, T.ts, ↓reduceIte, Nat.reduceEqDiff, reduceCtorEq, Nat.reduceLeDiff, Nat.reducePow, Int.reducePow, Int.reduceToNat, Nat.reduceAdd, L, fx3, decide_true, decide_false, hv1, hv3]
    refine eff_store1_z T.zr_3 rfl rfl rfl rfl rfl fx3.2.2.2.2.1 (D3.d.notfz 4) ?_
    have D4 := D3.set 4 (.int .i64 bv) { x with A := av, B := bv } rfl rfl (fun _ _ => rfl)
    generalize setAt _ ⟨q, 4, none⟩ _ = h4 at *
    have fx4 := D4.d.cells
    rw [ha] at fx4
    have hcs : ((((bv : Int) = 0) = True) ∧ bv = 0) ∨ ((((bv : Int) = 0) = False) ∧ ¬ bv = 0) := by
      by_cases g1 : bv = 0
      · exact Or.inl ⟨eq_true (by omega), g1⟩
      · exact Or.inr ⟨eq_false (by omega), g1⟩
    rcases hcs with ⟨fc, hb⟩ | ⟨fc, hb⟩
    · skip
      rw [if_pos hb] at hY
      simp (disch := first | omega | assumption) only [C.cut_one_gos, vs, Go.Vc.vk, T.ts, ↓reduceIte, Nat.reduceEqDiff, reduceCtorEq, Nat.reduceLeDiff, Nat.reducePow, Int.reducePow, Int.reduceToNat, Nat.reduceAdd, L, fx4, decide_true, decide_false, hv1, hv3, fc]
      refine eff_call_of ?_
      simp (disch := first | omega | assumption) only [C.cut_one_gos, vs, Go.Vc.vk, T.ts, ↓reduceIte, Nat.reduceEqDiff, reduceCtorEq, Nat.reduceLeDiff, Nat.reducePow, Int.reducePow, Int.reduceToNat, Nat.reduceAdd]
      refine (cfail_any 15 a D4.d.rd).mono ?_
      intro v5 h5 hp5
      have D5 := D4.step hp5.1 hp5.2
      clear hp5
      have fx5 := D5.d.cells
      rw [ha] at fx5
      have D9 := D5
      subst hY
      obtain ⟨vk9, vt9, q9, ok9, ot9, dj9⟩ := id D9.d.xr
      have hld := ld_agg T.ag_35 (Rd_block q9) rfl
      simp only [InV] at hld
      simp (disch := first | omega | assumption) only [C.cut_one_gos, vs, Go.Vc.vk, T.ts, ↓reduceIte, Nat.reduceEqDiff, reduceCtorEq, Nat.reduceLeDiff, Nat.reducePow, Int.reducePow, Int.reduceToNat, Nat.reduceAdd, L, hld, decide_false]
      refine eff_storeN_z T.zr_35 rfl rfl rfl ?_ D9.rk rfl ?_
      · intro u hu
        obtain ⟨_, ak, kk, rfl, _⟩ := ok9.slN
        obtain ⟨_, at7, kt, rfl, _⟩ := ot9.slN
        simp [Value.cells] at hu
        rcases hu with rfl | rfl | rfl | rfl | rfl | rfl | rfl | rfl <;> rfl
      intro h10 f10 b10
      obtain ⟨v, hv1, hv2⟩ := D9.fin q9 ok9 ot9 dj9 f10 b10
      simp (disch := first | omega | assumption) only [C.cut_one_gos, vs, Go.Vc.vk, T.ts, ↓reduceIte, Nat.reduceEqDiff, reduceCtorEq, Nat.reduceLeDiff, Nat.reducePow, Int.reducePow, Int.reduceToNat, Nat.reduceAdd, hv1]
      exact hv2
    · skip
      rw [if_neg hb] at hY
      simp (disch := first | omega | assumption) only [C.cut_one_gos, vs, Go.Vc.vk, T.ts, ↓reduceIte, Nat.reduceEqDiff, reduceCtorEq, Nat.reduceLeDiff, Nat.reducePow, Int.reducePow, Int.reduceToNat, Nat.reduceAdd, L, fx4, decide_true, decide_false, hv1, hv3, fc]
      have D9 := D4
      subst hY
      obtain ⟨vk9, vt9, q9, ok9, ot9, dj9⟩ := id D9.d.xr
      have hld := ld_agg T.ag_35 (Rd_block q9) rfl
      simp only [InV] at hld
      simp (disch := first | omega | assumption) only [C.cut_one_gos, vs, Go.Vc.vk, T.ts, ↓reduceIte, Nat.reduceEqDiff, reduceCtorEq, Nat.reduceLeDiff, Nat.reducePow, Int.reducePow, Int.reduceToNat, Nat.reduceAdd, L, hld, decide_false]
      refine eff_storeN_z T.zr_35 rfl rfl rfl ?_ D9.rk rfl ?_
      · intro u hu
        obtain ⟨_, ak, kk, rfl, _⟩ := ok9.slN
        obtain ⟨_, at7, kt, rfl, _⟩ := ot9.slN
        simp [Value.cells] at hu
        rcases hu with rfl | rfl | rfl | rfl | rfl | rfl | rfl | rfl <;> rfl
      intro h10 f10 b10
      obtain ⟨v, hv1, hv2⟩ := D9.fin q9 ok9 ot9 dj9 f10 b10
      simp (disch := first | omega | assumption) only [C.cut_one_gos, vs, Go.Vc.vk, T.ts, ↓reduceIte, Nat.reduceEqDiff, reduceCtorEq, Nat.reduceLeDiff, Nat.reducePow, Int.reducePow, Int.reduceToNat, Nat.reduceAdd, hv1]
      exact hv2
end
end Go.Proofs.Ytjpcpkhegjndeaa
