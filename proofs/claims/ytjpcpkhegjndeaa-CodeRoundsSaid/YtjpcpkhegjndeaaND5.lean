/- The decoder of instructions: one instruction. -/
import Derived.Test.YtjpcpkhegjndeaaND4
namespace Go.Proofs.Ytjpcpkhegjndeaa
open Go.Vc
set_option maxRecDepth 100000
set_option linter.unusedSimpArgs false
set_option linter.unusedVariables false

/-- What reading one instruction yields. -/
def OneR (h : Heap) (g : Nat) (l : List UInt8) (r : In × RS) : Value → Heap → Prop := fun v h' => Fr (fun k => k = g) h h' ∧ Rdr h' g l r.2 ∧
  ∃ vk vt, v = .agg (InV r.1 vk vt).toArray ∧ Own h' h.size 3 1 vk r.1.keys.length (intsV r.1.keys) ∧ Own h' h.size 3 1 vt r.1.tgts.length (intsV r.1.tgts) ∧ ∀ k, vk.ownBlock = some k → ¬ vt.ownBlock = some k
theorem eff_storeN_z {P : Program} {τ ρ : Env} {h : Heap} {K : Value → Heap → Prop} {ty t : TypeId} {cz : Array Value} (hz : zrT P t cz) {x y : Operand} {b : Nat} {v : Value} {cur : Array Value} {e : TypeId}
    (hx : evo τ ρ x = some (.pointer (some ⟨b, 0, none⟩))) (hy : evo τ ρ y = some v) (hsz : v.cells.size = cz.size) (hone : ∀ u ∈ v.cells.toList, oneCell u = true) (hb : h[b]? = some (.cells cur e (0, 0))) (hcur : cur.size = cz.size)
    (H : ∀ h', Fr (fun k => k = b) h h' → h'[b]? = some (.cells v.cells e (0, 0)) → K undef h') : eff P (.store t x y) ty τ ρ h K := by
  obtain ⟨i, z, h1, h2, rfl, h3⟩ := zr_spec hz
  refine eff_storeN h1 hx hy (by omega) hone hb (by omega) (by intro j _ _; simp) fun h' hf hs hb' => H h' hf ?_
  rw [hb']
  have : cur.toList.drop (0 + i.size) = [] := by rw [List.drop_eq_nil_iff]; simp; omega
  rw [this]; simp

structure DR (h h' : Heap) (g q bd rb : Nat) (l : List UInt8) (x : In) (s : RS) : Prop where
  d : DS h h' g q bd l x s
  rk : h'[rb]? = some (.cells #[.int .i64 0, .int .u8 0, .bool false, .int .i64 0, .int .i64 0, .int .i64 0, .slice none 0 0, .slice none 0 0] 35 (0, 0))
  ne : rb ≠ q
  hq : h.size ≤ q
  hr : h.size ≤ rb
section
variable {h h1 h2 : Heap} {g q bd rb : Nat} {l : List UInt8} {x : In} {s s' : RS}
theorem DR.rg (H : DR h h1 g q bd rb l x s) : rb ≠ g := by
  intro e; subst e
  have k1 := H.d.rd.1
  have k2 := H.rk
  rw [k1] at k2; cases k2
theorem DR.step (H : DR h h1 g q bd rb l x s) (f : Fr (fun k => k = g) h1 h2) (r : Rdr h2 g l s') : DR h h2 g q bd rb l x s' := ⟨H.d.step f r, Fr_blk f H.rk H.rg, H.ne, H.hq, H.hr⟩
theorem DR.set (H : DR h h1 g q bd rb l x s) (o : Nat) (v : Value) (x' : In) (hk : x'.keys = x.keys) (ht : x'.tgts = x.tgts) (hv : ∀ vk vt, (InV x vk vt).toArray.setIfInBounds o v = (InV x' vk vt).toArray) :
    DR h (setAt h1 ⟨q, o, none⟩ v) g q bd rb l x' s :=
  ⟨H.d.set o v x' hk ht hv, Fr_blk (Fr.set (S := fun k => k = q) h1 ⟨q, o, none⟩ v fun _ => rfl) H.rk H.ne, H.ne, H.hq, H.hr⟩
theorem DR.tg1 (H : DR h h1 g q bd rb l x s) (n : Int) :
    DR h (setAt (h1.push (.cells #[.int .i64 n] 3)) ⟨q, 7, none⟩ (.slice (some ⟨h1.size, 0, none⟩) 1 1)) g q bd rb l { x with tgts := [n] } s :=
  ⟨H.d.tg1 n, Fr_blk (Fr.set (S := fun k => k = q) _ ⟨q, 7, none⟩ _ fun _ => rfl) (push_blk H.rk) H.ne, H.ne, H.hq, H.hr⟩
theorem DR.more (H : DR h h1 g q bd rb l x s) {x' : In} (f : Fr (fun k => k = g ∨ k = q) h1 h2) (r : Rdr h2 g l s') (xr : XR h2 h1.size q x') : DR h h2 g q bd rb l x' s' := by
  obtain ⟨e1, e2, e3⟩ := H.d.gq
  exact ⟨⟨Fr.trans H.d.fr f (fun _ _ h => h) (fun _ _ h => h), r, xr.mono H.d.size, Fr_blk f H.d.bx (fun hh => hh.elim e2 e3)⟩, Fr_blk f H.rk (fun hh => hh.elim H.rg H.ne), H.ne, H.hq, H.hr⟩
/-- The end: what was read is copied into the result's cells. -/
theorem DR.fin (H : DR h h1 g q bd rb l x s) {vk vt : Value} (hq : h1[q]? = some (.cells (InV x vk vt).toArray 35 (0, 0))) (ok : Own h1 h.size 3 1 vk x.keys.length (intsV x.keys)) (ot : Own h1 h.size 3 1 vt x.tgts.length (intsV x.tgts)) (dj : ∀ k, vk.ownBlock = some k → ¬ vt.ownBlock = some k)
    (f : Fr (fun k => k = rb) h1 h2) (hb : h2[rb]? = some (.cells (InV x vk vt).toArray 35 (0, 0))) :
    ∃ v, ld Try.prog 35 ⟨rb, 0, none⟩ h2 = some v ∧ OneR h g l (x, s) v h2 := by
  have h1q := H.hq
  have h1r := H.hr
  refine ⟨_, ld_agg T.ag_35 (Rd_block hb) rfl, Fr.trans H.d.fr f (fun k hk hs => by omega) (fun k hk hs => by omega), H.d.rd.fr f (Ne.symm H.rg), vk, vt, rfl, ?_, ?_, dj⟩
  · exact ok.fr f fun k hk hS => by subst hS; exact Own_ne ok H.rk (by decide) hk
  · exact ot.fr f fun k hk hS => by subst hS; exact Own_ne ot H.rk (by decide) hk
set_option maxHeartbeats 16000000 in
theorem d10_any (x : In) (a f : Nat) (hc : Heap) (u0 u5 u18 u33 : Value) (hf : f = 1 ∨ f = 2 ∨ f = 3 ∨ f = 4 ∨ f = 5 ∨ f = 6 ∨ f = 7 ∨ f = 8 ∨ f = 9 ∨ f = 0 ∨ f = 10 ∨ f = 11 ∨ f = 12 ∨ f = 13 ∨ f = 14) (hl : l.length ≤ 1073741824) (ha : x.at' = (a : Int)) (hal : a ≤ l.length) (hk : x.keys = []) (ht : x.tgts = [])
    (D : DR h hc g q bd rb l x s) (hq : hc[q]? = some (.cells (InV x (.slice none 0 0) (.slice none 0 0)).toArray 35 (0, 0))) :
    Cd.vc Try.prog C.dec_one_t0 (retQ Try.prog [(2, some 35)] (OneR h g l (opsD x a f l s)))
      [(0, u0), (1, .pointer (some ⟨bd, 0, none⟩)), (2, .pointer (some ⟨rb, 0, none⟩)), (3, .pointer (some ⟨q, 0, none⟩)), (4, .int .i64 f), (5, u5), (18, u18), (33, u33), (41, undef), (42, undef), (46, undef), (53, undef), (58, undef), (63, undef), (69, undef), (75, undef), (82, undef), (93, undef), (102, undef)] hc := by
  generalize hY : opsD x a f l s = Y
  have hY0 := hY
  unfold opsD at hY
  rw [C.dec_one_t0_go]
  have fx0 := D.d.cells
  rw [ha] at fx0
  obtain ⟨sz, hsz, hsz2⟩ : ∃ sz : Nat, (if x.wide = true then 2 else 1) = sz ∧ (sz = 1 ∨ sz = 2) := ⟨_, rfl, by split <;> simp⟩
  rw [hsz] at hY
  have hw : (x.wide = true ∧ ((sz : Int) = 2)) ∨ (x.wide = false ∧ ((sz : Int) = 1)) := by
    cases hx : x.wide with
    | true => rw [hx] at hsz; simp at hsz; exact Or.inl ⟨rfl, by omega⟩
    | false => rw [hx] at hsz; simp at hsz; exact Or.inr ⟨rfl, by omega⟩
  rcases hw with ⟨hw, hs⟩ | ⟨hw, hs⟩
  case' inl =>
    have fw := fx0.2.2.1
    rw [hw] at fw
    simp (disch := first | omega | assumption) only [C.dec_one_gos, vs, Go.Vc.vk, T.ts, ↓reduceIte, Nat.reduceEqDiff, reduceCtorEq, Nat.reduceLeDiff, Nat.reducePow, Int.reducePow, Int.reduceToNat, Nat.reduceAdd, fw]
    clear fw
  case' inr =>
    have fw := fx0.2.2.1
    rw [hw] at fw
    simp (disch := first | omega | assumption) only [C.dec_one_gos, vs, Go.Vc.vk, T.ts, ↓reduceIte, Nat.reduceEqDiff, reduceCtorEq, Nat.reduceLeDiff, Nat.reducePow, Int.reducePow, Int.reduceToNat, Nat.reduceAdd, fw]
    clear fw
  all_goals
    clear hsz hw
    rcases hf with rfl | rfl | rfl | rfl | rfl | rfl | rfl | rfl | rfl | rfl | rfl | rfl | rfl | rfl | rfl
    · simp only [Nat.reduceEqDiff, if_false, if_true, or_false, false_or, true_or, or_true] at hY
      rw [show ((1 : Nat) : Int) = 1 from rfl]
      simp (disch := first | omega | assumption) only [C.dec_one_gos, vs, Go.Vc.vk, T.ts, ↓reduceIte, Nat.reduceEqDiff, reduceCtorEq, Nat.reduceLeDiff, Nat.reducePow, Int.reducePow, Int.reduceToNat, Nat.reduceAdd, fx0, Int.reduceEq, decide_true, decide_false]
      refine eff_call_of ?_
      simp (disch := first | omega | assumption) only [C.dec_one_gos, vs, Go.Vc.vk, T.ts, ↓reduceIte, Nat.reduceEqDiff, reduceCtorEq, Nat.reduceLeDiff, Nat.reducePow, Int.reducePow, Int.reduceToNat, Nat.reduceAdd]
      refine (fail_any 14 a D.d.rd).mono ?_
      intro v1 h1 hp1
      have D1 := D.step hp1.1 hp1.2
      clear hp1
      have fx1 := D1.d.cells
      rw [ha] at fx1
      have D9 := D1
      subst hY
      obtain ⟨vk9, vt9, q9, ok9, ot9, dj9⟩ := id D9.d.xr
      have hld := ld_agg T.ag_35 (Rd_block q9) rfl
      simp only [InV] at hld
      simp (disch := first | omega | assumption) only [C.dec_one_gos, vs, Go.Vc.vk, T.ts, ↓reduceIte, Nat.reduceEqDiff, reduceCtorEq, Nat.reduceLeDiff, Nat.reducePow, Int.reducePow, Int.reduceToNat, Nat.reduceAdd, hld]
      refine eff_storeN_z T.zr_35 rfl rfl rfl ?_ D9.rk rfl ?_
      · intro u hu
        obtain ⟨_, ak, kk, rfl, _⟩ := ok9.slN
        obtain ⟨_, at7, kt, rfl, _⟩ := ot9.slN
        simp [Value.cells] at hu
        rcases hu with rfl | rfl | rfl | rfl | rfl | rfl | rfl | rfl <;> rfl
      intro h10 f10 b10
      obtain ⟨v, hv1, hv2⟩ := D9.fin q9 ok9 ot9 dj9 f10 b10
      simp (disch := first | omega | assumption) only [C.dec_one_gos, vs, Go.Vc.vk, T.ts, ↓reduceIte, Nat.reduceEqDiff, reduceCtorEq, Nat.reduceLeDiff, Nat.reducePow, Int.reducePow, Int.reduceToNat, Nat.reduceAdd, hv1]
      exact hv2
    · simp only [Nat.reduceEqDiff, if_false, if_true, or_false, false_or, true_or, or_true] at hY
      rw [show ((2 : Nat) : Int) = 2 from rfl]
      simp (disch := first | omega | assumption) only [C.dec_one_gos, vs, Go.Vc.vk, T.ts, ↓reduceIte, Nat.reduceEqDiff, reduceCtorEq, Nat.reduceLeDiff, Nat.reducePow, Int.reducePow, Int.reduceToNat, Nat.reduceAdd, fx0, Int.reduceEq, decide_true, decide_false]
      refine eff_call_of ?_
      simp (disch := first | omega | assumption) only [C.dec_one_gos, vs, Go.Vc.vk, T.ts, ↓reduceIte, Nat.reduceEqDiff, reduceCtorEq, Nat.reduceLeDiff, Nat.reducePow, Int.reducePow, Int.reduceToNat, Nat.reduceAdd]
      refine (dsgn_any 1 (by omega) hl D.d.rd).mono ?_
      intro v1 h1 hp1
      have D1 := D.step hp1.1 hp1.2.1
      have hv1 := hp1.2.2
      clear hp1
      have fx1 := D1.d.cells
      rw [ha] at fx1
      generalize sgnD l 1 s = T1 at *
      obtain ⟨av, s2⟩ := T1
      simp only at *
      simp (disch := first | omega | assumption) only [C.dec_one_gos, vs, Go.Vc.vk, T.ts, ↓reduceIte, Nat.reduceEqDiff, reduceCtorEq, Nat.reduceLeDiff, Nat.reducePow, Int.reducePow, Int.reduceToNat, Nat.reduceAdd, fx1, Int.reduceEq, decide_true, decide_false, hv1]
      refine eff_store1_z T.zr_3 rfl rfl rfl rfl rfl fx1.2.2.2.1 (D1.d.notfz 3) ?_
      have D2 := D1.set 3 (.int .i64 av) { x with A := av } rfl rfl (fun _ _ => rfl)
      generalize setAt _ ⟨q, 3, none⟩ _ = h2 at *
      have fx2 := D2.d.cells
      rw [ha] at fx2
      have D9 := D2
      subst hY
      obtain ⟨vk9, vt9, q9, ok9, ot9, dj9⟩ := id D9.d.xr
      have hld := ld_agg T.ag_35 (Rd_block q9) rfl
      simp only [InV] at hld
      simp (disch := first | omega | assumption) only [C.dec_one_gos, vs, Go.Vc.vk, T.ts, ↓reduceIte, Nat.reduceEqDiff, reduceCtorEq, Nat.reduceLeDiff, Nat.reducePow, Int.reducePow, Int.reduceToNat, Nat.reduceAdd, hld]
      refine eff_storeN_z T.zr_35 rfl rfl rfl ?_ D9.rk rfl ?_
      · intro u hu
        obtain ⟨_, ak, kk, rfl, _⟩ := ok9.slN
        obtain ⟨_, at7, kt, rfl, _⟩ := ot9.slN
        simp [Value.cells] at hu
        rcases hu with rfl | rfl | rfl | rfl | rfl | rfl | rfl | rfl <;> rfl
      intro h10 f10 b10
      obtain ⟨v, hv1, hv2⟩ := D9.fin q9 ok9 ot9 dj9 f10 b10
      simp (disch := first | omega | assumption) only [C.dec_one_gos, vs, Go.Vc.vk, T.ts, ↓reduceIte, Nat.reduceEqDiff, reduceCtorEq, Nat.reduceLeDiff, Nat.reducePow, Int.reducePow, Int.reduceToNat, Nat.reduceAdd, hv1]
      exact hv2
    · simp only [Nat.reduceEqDiff, if_false, if_true, or_false, false_or, true_or, or_true] at hY
      rw [show ((3 : Nat) : Int) = 3 from rfl]
      simp (disch := first | omega | assumption) only [C.dec_one_gos, vs, Go.Vc.vk, T.ts, ↓reduceIte, Nat.reduceEqDiff, reduceCtorEq, Nat.reduceLeDiff, Nat.reducePow, Int.reducePow, Int.reduceToNat, Nat.reduceAdd, fx0, Int.reduceEq, decide_true, decide_false]
      refine eff_call_of ?_
      simp (disch := first | omega | assumption) only [C.dec_one_gos, vs, Go.Vc.vk, T.ts, ↓reduceIte, Nat.reduceEqDiff, reduceCtorEq, Nat.reduceLeDiff, Nat.reducePow, Int.reducePow, Int.reduceToNat, Nat.reduceAdd]
      refine (dsgn_any 2 (by omega) hl D.d.rd).mono ?_
      intro v1 h1 hp1
      have D1 := D.step hp1.1 hp1.2.1
      have hv1 := hp1.2.2
      clear hp1
      have fx1 := D1.d.cells
      rw [ha] at fx1
      generalize sgnD l 2 s = T1 at *
      obtain ⟨av, s2⟩ := T1
      simp only at *
      simp (disch := first | omega | assumption) only [C.dec_one_gos, vs, Go.Vc.vk, T.ts, ↓reduceIte, Nat.reduceEqDiff, reduceCtorEq, Nat.reduceLeDiff, Nat.reducePow, Int.reducePow, Int.reduceToNat, Nat.reduceAdd, fx1, Int.reduceEq, decide_true, decide_false, hv1]
      refine eff_store1_z T.zr_3 rfl rfl rfl rfl rfl fx1.2.2.2.1 (D1.d.notfz 3) ?_
      have D2 := D1.set 3 (.int .i64 av) { x with A := av } rfl rfl (fun _ _ => rfl)
      generalize setAt _ ⟨q, 3, none⟩ _ = h2 at *
      have fx2 := D2.d.cells
      rw [ha] at fx2
      have D9 := D2
      subst hY
      obtain ⟨vk9, vt9, q9, ok9, ot9, dj9⟩ := id D9.d.xr
      have hld := ld_agg T.ag_35 (Rd_block q9) rfl
      simp only [InV] at hld
      simp (disch := first | omega | assumption) only [C.dec_one_gos, vs, Go.Vc.vk, T.ts, ↓reduceIte, Nat.reduceEqDiff, reduceCtorEq, Nat.reduceLeDiff, Nat.reducePow, Int.reducePow, Int.reduceToNat, Nat.reduceAdd, hld]
      refine eff_storeN_z T.zr_35 rfl rfl rfl ?_ D9.rk rfl ?_
      · intro u hu
        obtain ⟨_, ak, kk, rfl, _⟩ := ok9.slN
        obtain ⟨_, at7, kt, rfl, _⟩ := ot9.slN
        simp [Value.cells] at hu
        rcases hu with rfl | rfl | rfl | rfl | rfl | rfl | rfl | rfl <;> rfl
      intro h10 f10 b10
      obtain ⟨v, hv1, hv2⟩ := D9.fin q9 ok9 ot9 dj9 f10 b10
      simp (disch := first | omega | assumption) only [C.dec_one_gos, vs, Go.Vc.vk, T.ts, ↓reduceIte, Nat.reduceEqDiff, reduceCtorEq, Nat.reduceLeDiff, Nat.reducePow, Int.reducePow, Int.reduceToNat, Nat.reduceAdd, hv1]
      exact hv2
    · simp only [Nat.reduceEqDiff, if_false, if_true, or_false, false_or, true_or, or_true] at hY
      rw [show ((4 : Nat) : Int) = 4 from rfl]
      simp (disch := first | omega | assumption) only [C.dec_one_gos, vs, Go.Vc.vk, T.ts, ↓reduceIte, Nat.reduceEqDiff, reduceCtorEq, Nat.reduceLeDiff, Nat.reducePow, Int.reducePow, Int.reduceToNat, Nat.reduceAdd, fx0, Int.reduceEq, decide_true, decide_false]
      refine eff_call_of ?_
      simp (disch := first | omega | assumption) only [C.dec_one_gos, vs, Go.Vc.vk, T.ts, ↓reduceIte, Nat.reduceEqDiff, reduceCtorEq, Nat.reduceLeDiff, Nat.reducePow, Int.reducePow, Int.reduceToNat, Nat.reduceAdd]
      refine (num_any 1 hl (by omega) D.d.rd).mono ?_
      intro v1 h1 hp1
      have D1 := D.step hp1.1 hp1.2.1
      have hv1 := hp1.2.2
      clear hp1
      have fx1 := D1.d.cells
      rw [ha] at fx1
      generalize numS l 1 s = T1 at *
      obtain ⟨av, s2⟩ := T1
      simp only at *
      simp (disch := first | omega | assumption) only [C.dec_one_gos, vs, Go.Vc.vk, T.ts, ↓reduceIte, Nat.reduceEqDiff, reduceCtorEq, Nat.reduceLeDiff, Nat.reducePow, Int.reducePow, Int.reduceToNat, Nat.reduceAdd, fx1, Int.reduceEq, decide_true, decide_false, hv1]
      refine eff_store1_z T.zr_3 rfl rfl rfl rfl rfl fx1.2.2.2.1 (D1.d.notfz 3) ?_
      have D2 := D1.set 3 (.int .i64 av) { x with A := av } rfl rfl (fun _ _ => rfl)
      generalize setAt _ ⟨q, 3, none⟩ _ = h2 at *
      have fx2 := D2.d.cells
      rw [ha] at fx2
      have D9 := D2
      subst hY
      obtain ⟨vk9, vt9, q9, ok9, ot9, dj9⟩ := id D9.d.xr
      have hld := ld_agg T.ag_35 (Rd_block q9) rfl
      simp only [InV] at hld
      simp (disch := first | omega | assumption) only [C.dec_one_gos, vs, Go.Vc.vk, T.ts, ↓reduceIte, Nat.reduceEqDiff, reduceCtorEq, Nat.reduceLeDiff, Nat.reducePow, Int.reducePow, Int.reduceToNat, Nat.reduceAdd, hld]
      refine eff_storeN_z T.zr_35 rfl rfl rfl ?_ D9.rk rfl ?_
      · intro u hu
        obtain ⟨_, ak, kk, rfl, _⟩ := ok9.slN
        obtain ⟨_, at7, kt, rfl, _⟩ := ot9.slN
        simp [Value.cells] at hu
        rcases hu with rfl | rfl | rfl | rfl | rfl | rfl | rfl | rfl <;> rfl
      intro h10 f10 b10
      obtain ⟨v, hv1, hv2⟩ := D9.fin q9 ok9 ot9 dj9 f10 b10
      simp (disch := first | omega | assumption) only [C.dec_one_gos, vs, Go.Vc.vk, T.ts, ↓reduceIte, Nat.reduceEqDiff, reduceCtorEq, Nat.reduceLeDiff, Nat.reducePow, Int.reducePow, Int.reduceToNat, Nat.reduceAdd, hv1]
      exact hv2
    · simp only [Nat.reduceEqDiff, if_false, if_true, or_false, false_or, true_or, or_true] at hY
      rw [show ((5 : Nat) : Int) = 5 from rfl]
      simp (disch := first | omega | assumption) only [C.dec_one_gos, vs, Go.Vc.vk, T.ts, ↓reduceIte, Nat.reduceEqDiff, reduceCtorEq, Nat.reduceLeDiff, Nat.reducePow, Int.reducePow, Int.reduceToNat, Nat.reduceAdd, fx0, Int.reduceEq, decide_true, decide_false]
      refine eff_call_of ?_
      simp (disch := first | omega | assumption) only [C.dec_one_gos, vs, Go.Vc.vk, T.ts, ↓reduceIte, Nat.reduceEqDiff, reduceCtorEq, Nat.reduceLeDiff, Nat.reducePow, Int.reducePow, Int.reduceToNat, Nat.reduceAdd]
      refine (num_any 2 hl (by omega) D.d.rd).mono ?_
      intro v1 h1 hp1
      have D1 := D.step hp1.1 hp1.2.1
      have hv1 := hp1.2.2
      clear hp1
      have fx1 := D1.d.cells
      rw [ha] at fx1
      generalize numS l 2 s = T1 at *
      obtain ⟨av, s2⟩ := T1
      simp only at *
      simp (disch := first | omega | assumption) only [C.dec_one_gos, vs, Go.Vc.vk, T.ts, ↓reduceIte, Nat.reduceEqDiff, reduceCtorEq, Nat.reduceLeDiff, Nat.reducePow, Int.reducePow, Int.reduceToNat, Nat.reduceAdd, fx1, Int.reduceEq, decide_true, decide_false, hv1]
      refine eff_store1_z T.zr_3 rfl rfl rfl rfl rfl fx1.2.2.2.1 (D1.d.notfz 3) ?_
      have D2 := D1.set 3 (.int .i64 av) { x with A := av } rfl rfl (fun _ _ => rfl)
      generalize setAt _ ⟨q, 3, none⟩ _ = h2 at *
      have fx2 := D2.d.cells
      rw [ha] at fx2
      have D9 := D2
      subst hY
      obtain ⟨vk9, vt9, q9, ok9, ot9, dj9⟩ := id D9.d.xr
      have hld := ld_agg T.ag_35 (Rd_block q9) rfl
      simp only [InV] at hld
      simp (disch := first | omega | assumption) only [C.dec_one_gos, vs, Go.Vc.vk, T.ts, ↓reduceIte, Nat.reduceEqDiff, reduceCtorEq, Nat.reduceLeDiff, Nat.reducePow, Int.reducePow, Int.reduceToNat, Nat.reduceAdd, hld]
      refine eff_storeN_z T.zr_35 rfl rfl rfl ?_ D9.rk rfl ?_
      · intro u hu
        obtain ⟨_, ak, kk, rfl, _⟩ := ok9.slN
        obtain ⟨_, at7, kt, rfl, _⟩ := ot9.slN
        simp [Value.cells] at hu
        rcases hu with rfl | rfl | rfl | rfl | rfl | rfl | rfl | rfl <;> rfl
      intro h10 f10 b10
      obtain ⟨v, hv1, hv2⟩ := D9.fin q9 ok9 ot9 dj9 f10 b10
      simp (disch := first | omega | assumption) only [C.dec_one_gos, vs, Go.Vc.vk, T.ts, ↓reduceIte, Nat.reduceEqDiff, reduceCtorEq, Nat.reduceLeDiff, Nat.reducePow, Int.reducePow, Int.reduceToNat, Nat.reduceAdd, hv1]
      exact hv2
    · simp only [Nat.reduceEqDiff, if_false, if_true, or_false, false_or, true_or, or_true] at hY
      rw [show ((6 : Nat) : Int) = 6 from rfl]
      simp (disch := first | omega | assumption) only [C.dec_one_gos, vs, Go.Vc.vk, T.ts, ↓reduceIte, Nat.reduceEqDiff, reduceCtorEq, Nat.reduceLeDiff, Nat.reducePow, Int.reducePow, Int.reduceToNat, Nat.reduceAdd, fx0, Int.reduceEq, decide_true, decide_false]
      refine eff_call_of ?_
      simp (disch := first | omega | assumption) only [C.dec_one_gos, vs, Go.Vc.vk, T.ts, ↓reduceIte, Nat.reduceEqDiff, reduceCtorEq, Nat.reduceLeDiff, Nat.reducePow, Int.reducePow, Int.reduceToNat, Nat.reduceAdd]
      have hU := num_any sz hl (by omega) D.d.rd
      rw [hs] at hU
      refine hU.mono ?_
      intro v1 h1 hp1
      have D1 := D.step hp1.1 hp1.2.1
      have hv1 := hp1.2.2
      clear hp1
      have fx1 := D1.d.cells
      rw [ha] at fx1
      generalize numS l sz s = T1 at *
      obtain ⟨av, s2⟩ := T1
      simp only at *
      simp (disch := first | omega | assumption) only [C.dec_one_gos, vs, Go.Vc.vk, T.ts, ↓reduceIte, Nat.reduceEqDiff, reduceCtorEq, Nat.reduceLeDiff, Nat.reducePow, Int.reducePow, Int.reduceToNat, Nat.reduceAdd, fx1, Int.reduceEq, decide_true, decide_false, hv1]
      refine eff_store1_z T.zr_3 rfl rfl rfl rfl rfl fx1.2.2.2.1 (D1.d.notfz 3) ?_
      have D2 := D1.set 3 (.int .i64 av) { x with A := av } rfl rfl (fun _ _ => rfl)
      generalize setAt _ ⟨q, 3, none⟩ _ = h2 at *
      have fx2 := D2.d.cells
      rw [ha] at fx2
      have D9 := D2
      subst hY
      obtain ⟨vk9, vt9, q9, ok9, ot9, dj9⟩ := id D9.d.xr
      have hld := ld_agg T.ag_35 (Rd_block q9) rfl
      simp only [InV] at hld
      simp (disch := first | omega | assumption) only [C.dec_one_gos, vs, Go.Vc.vk, T.ts, ↓reduceIte, Nat.reduceEqDiff, reduceCtorEq, Nat.reduceLeDiff, Nat.reducePow, Int.reducePow, Int.reduceToNat, Nat.reduceAdd, hld]
      refine eff_storeN_z T.zr_35 rfl rfl rfl ?_ D9.rk rfl ?_
      · intro u hu
        obtain ⟨_, ak, kk, rfl, _⟩ := ok9.slN
        obtain ⟨_, at7, kt, rfl, _⟩ := ot9.slN
        simp [Value.cells] at hu
        rcases hu with rfl | rfl | rfl | rfl | rfl | rfl | rfl | rfl <;> rfl
      intro h10 f10 b10
      obtain ⟨v, hv1, hv2⟩ := D9.fin q9 ok9 ot9 dj9 f10 b10
      simp (disch := first | omega | assumption) only [C.dec_one_gos, vs, Go.Vc.vk, T.ts, ↓reduceIte, Nat.reduceEqDiff, reduceCtorEq, Nat.reduceLeDiff, Nat.reducePow, Int.reducePow, Int.reduceToNat, Nat.reduceAdd, hv1]
      exact hv2
    · simp only [Nat.reduceEqDiff, if_false, if_true, or_false, false_or, true_or, or_true] at hY
      rw [show ((7 : Nat) : Int) = 7 from rfl]
      simp (disch := first | omega | assumption) only [C.dec_one_gos, vs, Go.Vc.vk, T.ts, ↓reduceIte, Nat.reduceEqDiff, reduceCtorEq, Nat.reduceLeDiff, Nat.reducePow, Int.reducePow, Int.reduceToNat, Nat.reduceAdd, fx0, Int.reduceEq, decide_true, decide_false]
      refine eff_call_of ?_
      simp (disch := first | omega | assumption) only [C.dec_one_gos, vs, Go.Vc.vk, T.ts, ↓reduceIte, Nat.reduceEqDiff, reduceCtorEq, Nat.reduceLeDiff, Nat.reducePow, Int.reducePow, Int.reduceToNat, Nat.reduceAdd]
      have hU := num_any sz hl (by omega) D.d.rd
      rw [hs] at hU
      refine hU.mono ?_
      intro v1 h1 hp1
      have D1 := D.step hp1.1 hp1.2.1
      have hv1 := hp1.2.2
      clear hp1
      have fx1 := D1.d.cells
      rw [ha] at fx1
      generalize numS l sz s = T1 at *
      obtain ⟨av, s2⟩ := T1
      simp only at *
      simp (disch := first | omega | assumption) only [C.dec_one_gos, vs, Go.Vc.vk, T.ts, ↓reduceIte, Nat.reduceEqDiff, reduceCtorEq, Nat.reduceLeDiff, Nat.reducePow, Int.reducePow, Int.reduceToNat, Nat.reduceAdd, fx1, Int.reduceEq, decide_true, decide_false, hv1]
      refine eff_store1_z T.zr_3 rfl rfl rfl rfl rfl fx1.2.2.2.1 (D1.d.notfz 3) ?_
      have D2 := D1.set 3 (.int .i64 av) { x with A := av } rfl rfl (fun _ _ => rfl)
      generalize setAt _ ⟨q, 3, none⟩ _ = h2 at *
      have fx2 := D2.d.cells
      rw [ha] at fx2
      simp (disch := first | omega | assumption) only [C.dec_one_gos, vs, Go.Vc.vk, T.ts, ↓reduceIte, Nat.reduceEqDiff, reduceCtorEq, Nat.reduceLeDiff, Nat.reducePow, Int.reducePow, Int.reduceToNat, Nat.reduceAdd, fx2, Int.reduceEq, decide_true, decide_false, hv1]
      refine eff_call_of ?_
      simp (disch := first | omega | assumption) only [C.dec_one_gos, vs, Go.Vc.vk, T.ts, ↓reduceIte, Nat.reduceEqDiff, reduceCtorEq, Nat.reduceLeDiff, Nat.reducePow, Int.reducePow, Int.reduceToNat, Nat.reduceAdd]
      have hU := dsgn_any sz (by omega) hl D2.d.rd
      rw [hs] at hU
      refine hU.mono ?_
      intro v3 h3 hp3
      have D3 := D2.step hp3.1 hp3.2.1
      have hv3 := hp3.2.2
      clear hp3
      have fx3 := D3.d.cells
      rw [ha] at fx3
      generalize sgnD l sz s2 = T3 at *
      obtain ⟨bv, s3⟩ := T3
      simp only at *
      simp (disch := first | omega | assumption) only [C.dec_one_gos, vs, Go.Vc.vk, T.ts, ↓reduceIte, Nat.reduceEqDiff, reduceCtorEq, Nat.reduceLeDiff, Nat.reducePow, Int.reducePow, Int.reduceToNat, Nat.reduceAdd, fx3, Int.reduceEq, decide_true, decide_false, hv1, hv3]
      refine eff_store1_z T.zr_3 rfl rfl rfl rfl rfl fx3.2.2.2.2.1 (D3.d.notfz 4) ?_
      have D4 := D3.set 4 (.int .i64 bv) { x with A := av, B := bv } rfl rfl (fun _ _ => rfl)
      generalize setAt _ ⟨q, 4, none⟩ _ = h4 at *
      have fx4 := D4.d.cells
      rw [ha] at fx4
      have D9 := D4
      subst hY
      obtain ⟨vk9, vt9, q9, ok9, ot9, dj9⟩ := id D9.d.xr
      have hld := ld_agg T.ag_35 (Rd_block q9) rfl
      simp only [InV] at hld
      simp (disch := first | omega | assumption) only [C.dec_one_gos, vs, Go.Vc.vk, T.ts, ↓reduceIte, Nat.reduceEqDiff, reduceCtorEq, Nat.reduceLeDiff, Nat.reducePow, Int.reducePow, Int.reduceToNat, Nat.reduceAdd, hld]
      refine eff_storeN_z T.zr_35 rfl rfl rfl ?_ D9.rk rfl ?_
      · intro u hu
        obtain ⟨_, ak, kk, rfl, _⟩ := ok9.slN
        obtain ⟨_, at7, kt, rfl, _⟩ := ot9.slN
        simp [Value.cells] at hu
        rcases hu with rfl | rfl | rfl | rfl | rfl | rfl | rfl | rfl <;> rfl
      intro h10 f10 b10
      obtain ⟨v, hv1, hv2⟩ := D9.fin q9 ok9 ot9 dj9 f10 b10
      simp (disch := first | omega | assumption) only [C.dec_one_gos, vs, Go.Vc.vk, T.ts, ↓reduceIte, Nat.reduceEqDiff, reduceCtorEq, Nat.reduceLeDiff, Nat.reducePow, Int.reducePow, Int.reduceToNat, Nat.reduceAdd, hv1]
      exact hv2
    · simp only [Nat.reduceEqDiff, if_false, if_true, or_false, false_or, true_or, or_true] at hY
      rw [show ((8 : Nat) : Int) = 8 from rfl]
      have b0 := sgnD_fit l 2 s (by omega)
      simp (disch := first | omega | assumption) only [C.dec_one_gos, vs, Go.Vc.vk, T.ts, ↓reduceIte, Nat.reduceEqDiff, reduceCtorEq, Nat.reduceLeDiff, Nat.reducePow, Int.reducePow, Int.reduceToNat, Nat.reduceAdd, fx0, Int.reduceEq, decide_true, decide_false]
      refine eff_call_of ?_
      simp (disch := first | omega | assumption) only [C.dec_one_gos, vs, Go.Vc.vk, T.ts, ↓reduceIte, Nat.reduceEqDiff, reduceCtorEq, Nat.reduceLeDiff, Nat.reducePow, Int.reducePow, Int.reduceToNat, Nat.reduceAdd]
      refine (dsgn_any 2 (by omega) hl D.d.rd).mono ?_
      intro v1 h1 hp1
      have D1 := D.step hp1.1 hp1.2.1
      have hv1 := hp1.2.2
      clear hp1
      have fx1 := D1.d.cells
      rw [ha] at fx1
      generalize sgnD l 2 s = T1 at *
      obtain ⟨tv, s2⟩ := T1
      simp only at *
      simp (disch := first | omega | assumption) only [C.dec_one_gos, vs, Go.Vc.vk, T.ts, ↓reduceIte, Nat.reduceEqDiff, reduceCtorEq, Nat.reduceLeDiff, Nat.reducePow, Int.reducePow, Int.reduceToNat, Nat.reduceAdd, fx1, Int.reduceEq, decide_true, decide_false, hv1]
      refine eff_lits T.slT_33 rfl rfl (by decide) ?_
      simp (disch := first | omega | assumption) only [C.dec_one_gos, vs, Go.Vc.vk, T.ts, ↓reduceIte, Nat.reduceEqDiff, reduceCtorEq, Nat.reduceLeDiff, Nat.reducePow, Int.reducePow, Int.reduceToNat, Nat.reduceAdd]
      obtain ⟨vk4, vt4, q4, own4k, own4t, _⟩ := D1.d.xr
      refine eff_store1_z T.zr_33 rfl rfl rfl rfl rfl (by rw [cellAt_of (push_blk q4)]; rfl) ((D1.d.push _).notfz 7) ?_
      have D2 := D1.tg1 ((a : Int) + tv)
      clear q4 own4k own4t
      generalize setAt _ ⟨q, 7, none⟩ _ = h2 at *
      have fx2 := D2.d.cells
      rw [ha] at fx2
      have D9 := D2
      subst hY
      obtain ⟨vk9, vt9, q9, ok9, ot9, dj9⟩ := id D9.d.xr
      have hld := ld_agg T.ag_35 (Rd_block q9) rfl
      simp only [InV] at hld
      simp (disch := first | omega | assumption) only [C.dec_one_gos, vs, Go.Vc.vk, T.ts, ↓reduceIte, Nat.reduceEqDiff, reduceCtorEq, Nat.reduceLeDiff, Nat.reducePow, Int.reducePow, Int.reduceToNat, Nat.reduceAdd, hld]
      refine eff_storeN_z T.zr_35 rfl rfl rfl ?_ D9.rk rfl ?_
      · intro u hu
        obtain ⟨_, ak, kk, rfl, _⟩ := ok9.slN
        obtain ⟨_, at7, kt, rfl, _⟩ := ot9.slN
        simp [Value.cells] at hu
        rcases hu with rfl | rfl | rfl | rfl | rfl | rfl | rfl | rfl <;> rfl
      intro h10 f10 b10
      obtain ⟨v, hv1, hv2⟩ := D9.fin q9 ok9 ot9 dj9 f10 b10
      simp (disch := first | omega | assumption) only [C.dec_one_gos, vs, Go.Vc.vk, T.ts, ↓reduceIte, Nat.reduceEqDiff, reduceCtorEq, Nat.reduceLeDiff, Nat.reducePow, Int.reducePow, Int.reduceToNat, Nat.reduceAdd, hv1]
      exact hv2
    · simp only [Nat.reduceEqDiff, if_false, if_true, or_false, false_or, true_or, or_true] at hY
      rw [show ((9 : Nat) : Int) = 9 from rfl]
      have b0 := sgnD_fit l 4 s (by omega)
      simp (disch := first | omega | assumption) only [C.dec_one_gos, vs, Go.Vc.vk, T.ts, ↓reduceIte, Nat.reduceEqDiff, reduceCtorEq, Nat.reduceLeDiff, Nat.reducePow, Int.reducePow, Int.reduceToNat, Nat.reduceAdd, fx0, Int.reduceEq, decide_true, decide_false]
      refine eff_call_of ?_
      simp (disch := first | omega | assumption) only [C.dec_one_gos, vs, Go.Vc.vk, T.ts, ↓reduceIte, Nat.reduceEqDiff, reduceCtorEq, Nat.reduceLeDiff, Nat.reducePow, Int.reducePow, Int.reduceToNat, Nat.reduceAdd]
      refine (dsgn_any 4 (by omega) hl D.d.rd).mono ?_
      intro v1 h1 hp1
      have D1 := D.step hp1.1 hp1.2.1
      have hv1 := hp1.2.2
      clear hp1
      have fx1 := D1.d.cells
      rw [ha] at fx1
      generalize sgnD l 4 s = T1 at *
      obtain ⟨tv, s2⟩ := T1
      simp only at *
      simp (disch := first | omega | assumption) only [C.dec_one_gos, vs, Go.Vc.vk, T.ts, ↓reduceIte, Nat.reduceEqDiff, reduceCtorEq, Nat.reduceLeDiff, Nat.reducePow, Int.reducePow, Int.reduceToNat, Nat.reduceAdd, fx1, Int.reduceEq, decide_true, decide_false, hv1]
      refine eff_lits T.slT_33 rfl rfl (by decide) ?_
      simp (disch := first | omega | assumption) only [C.dec_one_gos, vs, Go.Vc.vk, T.ts, ↓reduceIte, Nat.reduceEqDiff, reduceCtorEq, Nat.reduceLeDiff, Nat.reducePow, Int.reducePow, Int.reduceToNat, Nat.reduceAdd]
      obtain ⟨vk4, vt4, q4, own4k, own4t, _⟩ := D1.d.xr
      refine eff_store1_z T.zr_33 rfl rfl rfl rfl rfl (by rw [cellAt_of (push_blk q4)]; rfl) ((D1.d.push _).notfz 7) ?_
      have D2 := D1.tg1 ((a : Int) + tv)
      clear q4 own4k own4t
      generalize setAt _ ⟨q, 7, none⟩ _ = h2 at *
      have fx2 := D2.d.cells
      rw [ha] at fx2
      have D9 := D2
      subst hY
      obtain ⟨vk9, vt9, q9, ok9, ot9, dj9⟩ := id D9.d.xr
      have hld := ld_agg T.ag_35 (Rd_block q9) rfl
      simp only [InV] at hld
      simp (disch := first | omega | assumption) only [C.dec_one_gos, vs, Go.Vc.vk, T.ts, ↓reduceIte, Nat.reduceEqDiff, reduceCtorEq, Nat.reduceLeDiff, Nat.reducePow, Int.reducePow, Int.reduceToNat, Nat.reduceAdd, hld]
      refine eff_storeN_z T.zr_35 rfl rfl rfl ?_ D9.rk rfl ?_
      · intro u hu
        obtain ⟨_, ak, kk, rfl, _⟩ := ok9.slN
        obtain ⟨_, at7, kt, rfl, _⟩ := ot9.slN
        simp [Value.cells] at hu
        rcases hu with rfl | rfl | rfl | rfl | rfl | rfl | rfl | rfl <;> rfl
      intro h10 f10 b10
      obtain ⟨v, hv1, hv2⟩ := D9.fin q9 ok9 ot9 dj9 f10 b10
      simp (disch := first | omega | assumption) only [C.dec_one_gos, vs, Go.Vc.vk, T.ts, ↓reduceIte, Nat.reduceEqDiff, reduceCtorEq, Nat.reduceLeDiff, Nat.reducePow, Int.reducePow, Int.reduceToNat, Nat.reduceAdd, hv1]
      exact hv2
    · simp only [Nat.reduceEqDiff, if_false, if_true, or_false, false_or, true_or, or_true] at hY
      rw [show ((0 : Nat) : Int) = 0 from rfl]
      have hmore := dmore_any x a 0 (by omega) hl ha hal hk ht D.d.rd hq
      rw [hY0] at hmore
      clear hY hY0
      simp (disch := first | omega | assumption) only [C.dec_one_gos, vs, Go.Vc.vk, T.ts, ↓reduceIte, Nat.reduceEqDiff, reduceCtorEq, Nat.reduceLeDiff, Nat.reducePow, Int.reducePow, Int.reduceToNat, Nat.reduceAdd, fx0, Int.reduceEq, decide_true, decide_false]
      refine eff_call_of ?_
      simp (disch := first | omega | assumption) only [C.dec_one_gos, vs, Go.Vc.vk, T.ts, ↓reduceIte, Nat.reduceEqDiff, reduceCtorEq, Nat.reduceLeDiff, Nat.reducePow, Int.reducePow, Int.reduceToNat, Nat.reduceAdd]
      refine (hmore).mono ?_
      intro v1 h1 hp1
      have D1 := D.more hp1.1 hp1.2.1 hp1.2.2
      obtain ⟨x9, s9⟩ := Y
      have D9 := D1
      obtain ⟨vk9, vt9, q9, ok9, ot9, dj9⟩ := id D9.d.xr
      have hld := ld_agg T.ag_35 (Rd_block q9) rfl
      simp only [InV] at hld
      simp (disch := first | omega | assumption) only [C.dec_one_gos, vs, Go.Vc.vk, T.ts, ↓reduceIte, Nat.reduceEqDiff, reduceCtorEq, Nat.reduceLeDiff, Nat.reducePow, Int.reducePow, Int.reduceToNat, Nat.reduceAdd, hld]
      refine eff_storeN_z T.zr_35 rfl rfl rfl ?_ D9.rk rfl ?_
      · intro u hu
        obtain ⟨_, ak, kk, rfl, _⟩ := ok9.slN
        obtain ⟨_, at7, kt, rfl, _⟩ := ot9.slN
        simp [Value.cells] at hu
        rcases hu with rfl | rfl | rfl | rfl | rfl | rfl | rfl | rfl <;> rfl
      intro h10 f10 b10
      obtain ⟨v, hv1, hv2⟩ := D9.fin q9 ok9 ot9 dj9 f10 b10
      simp (disch := first | omega | assumption) only [C.dec_one_gos, vs, Go.Vc.vk, T.ts, ↓reduceIte, Nat.reduceEqDiff, reduceCtorEq, Nat.reduceLeDiff, Nat.reducePow, Int.reducePow, Int.reduceToNat, Nat.reduceAdd, hv1]
      exact hv2
    · simp only [Nat.reduceEqDiff, if_false, if_true, or_false, false_or, true_or, or_true] at hY
      rw [show ((10 : Nat) : Int) = 10 from rfl]
      have hmore := dmore_any x a 10 (by omega) hl ha hal hk ht D.d.rd hq
      rw [hY0] at hmore
      clear hY hY0
      simp (disch := first | omega | assumption) only [C.dec_one_gos, vs, Go.Vc.vk, T.ts, ↓reduceIte, Nat.reduceEqDiff, reduceCtorEq, Nat.reduceLeDiff, Nat.reducePow, Int.reducePow, Int.reduceToNat, Nat.reduceAdd, fx0, Int.reduceEq, decide_true, decide_false]
      refine eff_call_of ?_
      simp (disch := first | omega | assumption) only [C.dec_one_gos, vs, Go.Vc.vk, T.ts, ↓reduceIte, Nat.reduceEqDiff, reduceCtorEq, Nat.reduceLeDiff, Nat.reducePow, Int.reducePow, Int.reduceToNat, Nat.reduceAdd]
      refine (hmore).mono ?_
      intro v1 h1 hp1
      have D1 := D.more hp1.1 hp1.2.1 hp1.2.2
      obtain ⟨x9, s9⟩ := Y
      have D9 := D1
      obtain ⟨vk9, vt9, q9, ok9, ot9, dj9⟩ := id D9.d.xr
      have hld := ld_agg T.ag_35 (Rd_block q9) rfl
      simp only [InV] at hld
      simp (disch := first | omega | assumption) only [C.dec_one_gos, vs, Go.Vc.vk, T.ts, ↓reduceIte, Nat.reduceEqDiff, reduceCtorEq, Nat.reduceLeDiff, Nat.reducePow, Int.reducePow, Int.reduceToNat, Nat.reduceAdd, hld]
      refine eff_storeN_z T.zr_35 rfl rfl rfl ?_ D9.rk rfl ?_
      · intro u hu
        obtain ⟨_, ak, kk, rfl, _⟩ := ok9.slN
        obtain ⟨_, at7, kt, rfl, _⟩ := ot9.slN
        simp [Value.cells] at hu
        rcases hu with rfl | rfl | rfl | rfl | rfl | rfl | rfl | rfl <;> rfl
      intro h10 f10 b10
      obtain ⟨v, hv1, hv2⟩ := D9.fin q9 ok9 ot9 dj9 f10 b10
      simp (disch := first | omega | assumption) only [C.dec_one_gos, vs, Go.Vc.vk, T.ts, ↓reduceIte, Nat.reduceEqDiff, reduceCtorEq, Nat.reduceLeDiff, Nat.reducePow, Int.reducePow, Int.reduceToNat, Nat.reduceAdd, hv1]
      exact hv2
    · simp only [Nat.reduceEqDiff, if_false, if_true, or_false, false_or, true_or, or_true] at hY
      rw [show ((11 : Nat) : Int) = 11 from rfl]
      have hmore := dmore_any x a 11 (by omega) hl ha hal hk ht D.d.rd hq
      rw [hY0] at hmore
      clear hY hY0
      simp (disch := first | omega | assumption) only [C.dec_one_gos, vs, Go.Vc.vk, T.ts, ↓reduceIte, Nat.reduceEqDiff, reduceCtorEq, Nat.reduceLeDiff, Nat.reducePow, Int.reducePow, Int.reduceToNat, Nat.reduceAdd, fx0, Int.reduceEq, decide_true, decide_false]
      refine eff_call_of ?_
      simp (disch := first | omega | assumption) only [C.dec_one_gos, vs, Go.Vc.vk, T.ts, ↓reduceIte, Nat.reduceEqDiff, reduceCtorEq, Nat.reduceLeDiff, Nat.reducePow, Int.reducePow, Int.reduceToNat, Nat.reduceAdd]
      refine (hmore).mono ?_
      intro v1 h1 hp1
      have D1 := D.more hp1.1 hp1.2.1 hp1.2.2
      obtain ⟨x9, s9⟩ := Y
      have D9 := D1
      obtain ⟨vk9, vt9, q9, ok9, ot9, dj9⟩ := id D9.d.xr
      have hld := ld_agg T.ag_35 (Rd_block q9) rfl
      simp only [InV] at hld
      simp (disch := first | omega | assumption) only [C.dec_one_gos, vs, Go.Vc.vk, T.ts, ↓reduceIte, Nat.reduceEqDiff, reduceCtorEq, Nat.reduceLeDiff, Nat.reducePow, Int.reducePow, Int.reduceToNat, Nat.reduceAdd, hld]
      refine eff_storeN_z T.zr_35 rfl rfl rfl ?_ D9.rk rfl ?_
      · intro u hu
        obtain ⟨_, ak, kk, rfl, _⟩ := ok9.slN
        obtain ⟨_, at7, kt, rfl, _⟩ := ot9.slN
        simp [Value.cells] at hu
        rcases hu with rfl | rfl | rfl | rfl | rfl | rfl | rfl | rfl <;> rfl
      intro h10 f10 b10
      obtain ⟨v, hv1, hv2⟩ := D9.fin q9 ok9 ot9 dj9 f10 b10
      simp (disch := first | omega | assumption) only [C.dec_one_gos, vs, Go.Vc.vk, T.ts, ↓reduceIte, Nat.reduceEqDiff, reduceCtorEq, Nat.reduceLeDiff, Nat.reducePow, Int.reducePow, Int.reduceToNat, Nat.reduceAdd, hv1]
      exact hv2
    · simp only [Nat.reduceEqDiff, if_false, if_true, or_false, false_or, true_or, or_true] at hY
      rw [show ((12 : Nat) : Int) = 12 from rfl]
      have hmore := dmore_any x a 12 (by omega) hl ha hal hk ht D.d.rd hq
      rw [hY0] at hmore
      clear hY hY0
      simp (disch := first | omega | assumption) only [C.dec_one_gos, vs, Go.Vc.vk, T.ts, ↓reduceIte, Nat.reduceEqDiff, reduceCtorEq, Nat.reduceLeDiff, Nat.reducePow, Int.reducePow, Int.reduceToNat, Nat.reduceAdd, fx0, Int.reduceEq, decide_true, decide_false]
      refine eff_call_of ?_
      simp (disch := first | omega | assumption) only [C.dec_one_gos, vs, Go.Vc.vk, T.ts, ↓reduceIte, Nat.reduceEqDiff, reduceCtorEq, Nat.reduceLeDiff, Nat.reducePow, Int.reducePow, Int.reduceToNat, Nat.reduceAdd]
      refine (hmore).mono ?_
      intro v1 h1 hp1
      have D1 := D.more hp1.1 hp1.2.1 hp1.2.2
      obtain ⟨x9, s9⟩ := Y
      have D9 := D1
      obtain ⟨vk9, vt9, q9, ok9, ot9, dj9⟩ := id D9.d.xr
      have hld := ld_agg T.ag_35 (Rd_block q9) rfl
      simp only [InV] at hld
      simp (disch := first | omega | assumption) only [C.dec_one_gos, vs, Go.Vc.vk, T.ts, ↓reduceIte, Nat.reduceEqDiff, reduceCtorEq, Nat.reduceLeDiff, Nat.reducePow, Int.reducePow, Int.reduceToNat, Nat.reduceAdd, hld]
      refine eff_storeN_z T.zr_35 rfl rfl rfl ?_ D9.rk rfl ?_
      · intro u hu
        obtain ⟨_, ak, kk, rfl, _⟩ := ok9.slN
        obtain ⟨_, at7, kt, rfl, _⟩ := ot9.slN
        simp [Value.cells] at hu
        rcases hu with rfl | rfl | rfl | rfl | rfl | rfl | rfl | rfl <;> rfl
      intro h10 f10 b10
      obtain ⟨v, hv1, hv2⟩ := D9.fin q9 ok9 ot9 dj9 f10 b10
      simp (disch := first | omega | assumption) only [C.dec_one_gos, vs, Go.Vc.vk, T.ts, ↓reduceIte, Nat.reduceEqDiff, reduceCtorEq, Nat.reduceLeDiff, Nat.reducePow, Int.reducePow, Int.reduceToNat, Nat.reduceAdd, hv1]
      exact hv2
    · simp only [Nat.reduceEqDiff, if_false, if_true, or_false, false_or, true_or, or_true] at hY
      rw [show ((13 : Nat) : Int) = 13 from rfl]
      have hmore := dmore_any x a 13 (by omega) hl ha hal hk ht D.d.rd hq
      rw [hY0] at hmore
      clear hY hY0
      simp (disch := first | omega | assumption) only [C.dec_one_gos, vs, Go.Vc.vk, T.ts, ↓reduceIte, Nat.reduceEqDiff, reduceCtorEq, Nat.reduceLeDiff, Nat.reducePow, Int.reducePow, Int.reduceToNat, Nat.reduceAdd, fx0, Int.reduceEq, decide_true, decide_false]
      refine eff_call_of ?_
      simp (disch := first | omega | assumption) only [C.dec_one_gos, vs, Go.Vc.vk, T.ts, ↓reduceIte, Nat.reduceEqDiff, reduceCtorEq, Nat.reduceLeDiff, Nat.reducePow, Int.reducePow, Int.reduceToNat, Nat.reduceAdd]
      refine (hmore).mono ?_
      intro v1 h1 hp1
      have D1 := D.more hp1.1 hp1.2.1 hp1.2.2
      obtain ⟨x9, s9⟩ := Y
      have D9 := D1
      obtain ⟨vk9, vt9, q9, ok9, ot9, dj9⟩ := id D9.d.xr
      have hld := ld_agg T.ag_35 (Rd_block q9) rfl
      simp only [InV] at hld
      simp (disch := first | omega | assumption) only [C.dec_one_gos, vs, Go.Vc.vk, T.ts, ↓reduceIte, Nat.reduceEqDiff, reduceCtorEq, Nat.reduceLeDiff, Nat.reducePow, Int.reducePow, Int.reduceToNat, Nat.reduceAdd, hld]
      refine eff_storeN_z T.zr_35 rfl rfl rfl ?_ D9.rk rfl ?_
      · intro u hu
        obtain ⟨_, ak, kk, rfl, _⟩ := ok9.slN
        obtain ⟨_, at7, kt, rfl, _⟩ := ot9.slN
        simp [Value.cells] at hu
        rcases hu with rfl | rfl | rfl | rfl | rfl | rfl | rfl | rfl <;> rfl
      intro h10 f10 b10
      obtain ⟨v, hv1, hv2⟩ := D9.fin q9 ok9 ot9 dj9 f10 b10
      simp (disch := first | omega | assumption) only [C.dec_one_gos, vs, Go.Vc.vk, T.ts, ↓reduceIte, Nat.reduceEqDiff, reduceCtorEq, Nat.reduceLeDiff, Nat.reducePow, Int.reducePow, Int.reduceToNat, Nat.reduceAdd, hv1]
      exact hv2
    · simp only [Nat.reduceEqDiff, if_false, if_true, or_false, false_or, true_or, or_true] at hY
      rw [show ((14 : Nat) : Int) = 14 from rfl]
      have hmore := dmore_any x a 14 (by omega) hl ha hal hk ht D.d.rd hq
      rw [hY0] at hmore
      clear hY hY0
      simp (disch := first | omega | assumption) only [C.dec_one_gos, vs, Go.Vc.vk, T.ts, ↓reduceIte, Nat.reduceEqDiff, reduceCtorEq, Nat.reduceLeDiff, Nat.reducePow, Int.reducePow, Int.reduceToNat, Nat.reduceAdd, fx0, Int.reduceEq, decide_true, decide_false]
      refine eff_call_of ?_
      simp (disch := first | omega | assumption) only [C.dec_one_gos, vs, Go.Vc.vk, T.ts, ↓reduceIte, Nat.reduceEqDiff, reduceCtorEq, Nat.reduceLeDiff, Nat.reducePow, Int.reducePow, Int.reduceToNat, Nat.reduceAdd]
      refine (hmore).mono ?_
      intro v1 h1 hp1
      have D1 := D.more hp1.1 hp1.2.1 hp1.2.2
      obtain ⟨x9, s9⟩ := Y
      have D9 := D1
      obtain ⟨vk9, vt9, q9, ok9, ot9, dj9⟩ := id D9.d.xr
      have hld := ld_agg T.ag_35 (Rd_block q9) rfl
      simp only [InV] at hld
      simp (disch := first | omega | assumption) only [C.dec_one_gos, vs, Go.Vc.vk, T.ts, ↓reduceIte, Nat.reduceEqDiff, reduceCtorEq, Nat.reduceLeDiff, Nat.reducePow, Int.reducePow, Int.reduceToNat, Nat.reduceAdd, hld]
      refine eff_storeN_z T.zr_35 rfl rfl rfl ?_ D9.rk rfl ?_
      · intro u hu
        obtain ⟨_, ak, kk, rfl, _⟩ := ok9.slN
        obtain ⟨_, at7, kt, rfl, _⟩ := ot9.slN
        simp [Value.cells] at hu
        rcases hu with rfl | rfl | rfl | rfl | rfl | rfl | rfl | rfl <;> rfl
      intro h10 f10 b10
      obtain ⟨v, hv1, hv2⟩ := D9.fin q9 ok9 ot9 dj9 f10 b10
      simp (disch := first | omega | assumption) only [C.dec_one_gos, vs, Go.Vc.vk, T.ts, ↓reduceIte, Nat.reduceEqDiff, reduceCtorEq, Nat.reduceLeDiff, Nat.reducePow, Int.reducePow, Int.reduceToNat, Nat.reduceAdd, hv1]
      exact hv2
end
end Go.Proofs.Ytjpcpkhegjndeaa
