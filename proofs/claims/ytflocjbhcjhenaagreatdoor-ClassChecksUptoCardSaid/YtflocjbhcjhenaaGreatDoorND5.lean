/- The decoder of instructions: one instruction. The decoder of instructions: one instruction, whole. The decoder of instructions: all of them. No condition. -/
import Derived.Test.YtflocjbhcjhenaaGreatDoorR1
set_option linter.unusedSimpArgs false
set_option linter.unusedVariables false
namespace Go.Proofs.YtflocjbhcjhenaaGreatDoor
open Go.Vc
set_option maxRecDepth 100000
def OneR (h : Heap) (g : Nat) (l : List UInt8) (r : In × RS) : Value → Heap → Prop := fun v h' => Fr (fun k => k = g) h h' ∧ Rdr h' g l r.2 ∧
  ∃ vk vt, v = .agg (InV r.1 vk vt).toArray ∧ Own h' h.size 3 1 vk r.1.keys.length (intsV r.1.keys) ∧ Own h' h.size 3 1 vt r.1.tgts.length (intsV r.1.tgts) ∧ ∀ k, vk.ownBlock = some k → ¬ vt.ownBlock = some k
theorem eff_storeN_z {P : Program} {τ ρ : Env} {h : Heap} {K : Value → Heap → Prop} {ty t : TypeId} {cz : Array Value} (hz : zrT P t cz) {x y : Operand} {b : Nat} {v : Value} {cur : Array Value} {e : TypeId}
    (hx : evo τ ρ x = some (.pointer (some ⟨b, 0, none⟩))) (hy : evo τ ρ y = some v) (hsz : v.cells.size = cz.size) (hone : ∀ u ∈ v.cells.toList, oneCell u = true) (hb : h[b]? = some (.cells cur e (0, 0))) (hcur : cur.size = cz.size)
    (H : ∀ h', Fr (fun k => k = b) h h' → h'[b]? = some (.cells v.cells e (0, 0)) → K undef h') : eff P (.store t x y) ty τ ρ h K := by
  obtain ⟨i, z, h1, h2, rfl, h3⟩ := zr_spec hz
  refine eff_storeN h1 hx hy (by omega) hone hb (by omega) (by intro j _ _; simp) fun h' hf hs hb' => H h' hf ?_
  rw [hb']
  have : cur.toList.drop (0 + i.size) = [] := by rw [List.drop_eq_nil_iff]; simp; omega
  rw [this]; simp
structure DR (h h' : Heap) (g q bd rb : Nat) (l : List UInt8) (x : In) (s : RS) : Prop where
  d : DS h h' g q bd l x s
  rk : h'[rb]? = some (.cells #[.int .i64 0, .int .u8 0, .bool false, .int .i64 0, .int .i64 0, .int .i64 0, .slice none 0 0, .slice none 0 0] 98 (0, 0))
  ne : rb ≠ q
  hq : h.size ≤ q
  hr : h.size ≤ rb
section
variable {h h1 h2 : Heap} {g q bd rb : Nat} {l : List UInt8} {x : In} {s s' : RS}
theorem DR.rg (H : DR h h1 g q bd rb l x s) : rb ≠ g := by
  intro e; subst e
  have k1 := H.d.rd.1
  have k2 := H.rk
  rw [k1] at k2; cases k2
theorem DR.step (H : DR h h1 g q bd rb l x s) (f : Fr (fun k => k = g) h1 h2) (r : Rdr h2 g l s') : DR h h2 g q bd rb l x s' := ⟨H.d.step f r, Fr_blk f H.rk H.rg, H.ne, H.hq, H.hr⟩
theorem DR.set (H : DR h h1 g q bd rb l x s) (o : Nat) (v : Value) (x' : In) (hk : x'.keys = x.keys) (ht : x'.tgts = x.tgts) (hv : ∀ vk vt, (InV x vk vt).toArray.setIfInBounds o v = (InV x' vk vt).toArray) :
    DR h (setAt h1 ⟨q, o, none⟩ v) g q bd rb l x' s :=
  ⟨H.d.set o v x' hk ht hv, Fr_blk (Fr.set (S := fun k => k = q) h1 ⟨q, o, none⟩ v fun _ => rfl) H.rk H.ne, H.ne, H.hq, H.hr⟩
theorem DR.tg1 (H : DR h h1 g q bd rb l x s) (n : Int) :
    DR h (setAt (h1.push (.cells #[.int .i64 n] 3)) ⟨q, 7, none⟩ (.slice (some ⟨h1.size, 0, none⟩) 1 1)) g q bd rb l { x with tgts := [n] } s :=
  ⟨H.d.tg1 n, Fr_blk (Fr.set (S := fun k => k = q) _ ⟨q, 7, none⟩ _ fun _ => rfl) (push_blk H.rk) H.ne, H.ne, H.hq, H.hr⟩
theorem DR.more (H : DR h h1 g q bd rb l x s) {x' : In} (f : Fr (fun k => k = g ∨ k = q) h1 h2) (r : Rdr h2 g l s') (xr : XR h2 h1.size q x') : DR h h2 g q bd rb l x' s' := by
  obtain ⟨e1, e2, e3⟩ := H.d.gq
  exact ⟨⟨Fr.trans H.d.fr f (fun _ _ h => h) (fun _ _ h => h), r, xr.mono H.d.size, Fr_blk f H.d.bx (fun hh => hh.elim e2 e3)⟩, Fr_blk f H.rk (fun hh => hh.elim H.rg H.ne), H.ne, H.hq, H.hr⟩
theorem DR.fin (H : DR h h1 g q bd rb l x s) {vk vt : Value} (hq : h1[q]? = some (.cells (InV x vk vt).toArray 98 (0, 0))) (ok : Own h1 h.size 3 1 vk x.keys.length (intsV x.keys)) (ot : Own h1 h.size 3 1 vt x.tgts.length (intsV x.tgts)) (dj : ∀ k, vk.ownBlock = some k → ¬ vt.ownBlock = some k)
    (f : Fr (fun k => k = rb) h1 h2) (hb : h2[rb]? = some (.cells (InV x vk vt).toArray 98 (0, 0))) :
    ∃ v, ld Tryz.prog 98 ⟨rb, 0, none⟩ h2 = some v ∧ OneR h g l (x, s) v h2 := by
  have h1q := H.hq
  have h1r := H.hr
  refine ⟨_, ld_agg T.ag_98 (Rd_block hb) rfl, Fr.trans H.d.fr f (fun k hk hs => by omega) (fun k hk hs => by omega), H.d.rd.fr f (Ne.symm H.rg), vk, vt, rfl, ?_, ?_, dj⟩
  · exact ok.fr f fun k hk hS => by subst hS; exact Own_ne ok H.rk (by decide) hk
  · exact ot.fr f fun k hk hS => by subst hS; exact Own_ne ot H.rk (by decide) hk
set_option maxHeartbeats 16000000 in
theorem d10_any (x : In) (a f : Nat) (hc : Heap) (u0 u5 u18 u33 : Value) (hf : f = 1 ∨ f = 2 ∨ f = 3 ∨ f = 4 ∨ f = 5 ∨ f = 6 ∨ f = 7 ∨ f = 8 ∨ f = 9 ∨ f = 0 ∨ f = 10 ∨ f = 11 ∨ f = 12 ∨ f = 13 ∨ f = 14) (hl : l.length ≤ 1073741824) (ha : x.at' = (a : Int)) (hal : a ≤ l.length) (hk : x.keys = []) (ht : x.tgts = [])
    (D : DR h hc g q bd rb l x s) (hq : hc[q]? = some (.cells (InV x (.slice none 0 0) (.slice none 0 0)).toArray 98 (0, 0))) :
    Cd.vc Tryz.prog C.dec_one_t0 (retQ Tryz.prog [(2, some 98)] (OneR h g l (opsD x a f l s)))
      [(0, u0), (1, .pointer (some ⟨bd, 0, none⟩)), (2, .pointer (some ⟨rb, 0, none⟩)), (3, .pointer (some ⟨q, 0, none⟩)), (4, .int .i64 f), (5, u5), (18, u18), (33, u33), (41, undef), (42, undef), (46, undef), (53, undef), (58, undef), (63, undef), (69, undef), (75, undef), (82, undef), (93, undef), (102, undef)] hc := by
  generalize hY : opsD x a f l s = Y
  have hY0 := hY
  unfold opsD at hY
  rw [C.dec_one_t0_go]
  have fx0 := D.d.cells
  rw [ha] at fx0
  obtain ⟨sz, hsz, hsz2⟩ : ∃ sz : Nat, (if x.wide = true then 2 else 1) = sz ∧ (sz = 1 ∨ sz = 2) := ⟨_, rfl, by split <;> simp⟩
  rw [hsz] at hY
  have hw : (x.wide = true ∧ ((sz : Int) = 2)) ∨ (x.wide = false ∧ ((sz : Int) = 1)) := by
    cases hx : x.wide with
    | true => rw [hx] at hsz; simp at hsz; exact Or.inl ⟨rfl, by omega⟩
    | false => rw [hx] at hsz; simp at hsz; exact Or.inr ⟨rfl, by omega⟩
  rcases hw with ⟨hw, hs⟩ | ⟨hw, hs⟩
  case' inl =>
    have fw := fx0.2.2.1
    rw [hw] at fw
    simp only [C.dec_one_gos, T.tv, seval, fw]
    clear fw
  case' inr =>
    have fw := fx0.2.2.1
    rw [hw] at fw
    simp only [C.dec_one_gos, T.tv, seval, fw]
    clear fw
  all_goals
    clear hsz hw
    rcases hf with rfl | rfl | rfl | rfl | rfl | rfl | rfl | rfl | rfl | rfl | rfl | rfl | rfl | rfl | rfl
    · simp only [Nat.reduceEqDiff, if_false, if_true, or_false] at hY
      rw [show ((1 : Nat) : Int) = 1 from rfl]
      simp only [C.dec_one_gos, T.tv, seval, fx0]
      refine eff_callF rfl ((fail_any 14 a D.d.rd).mono ?_)
      intro v1 h1 hp1
      have D1 := D.step hp1.1 hp1.2
      clear hp1
      have fx1 := D1.d.cells
      rw [ha] at fx1
      have D9 := D1
      subst hY
      obtain ⟨vk9, vt9, q9, ok9, ot9, dj9⟩ := id D9.d.xr
      have hld := ld_agg T.ag_98 (Rd_block q9) rfl
      simp only [InV] at hld
      simp only [C.dec_one_gos, T.tv, seval, hld]
      refine eff_storeN_z T.zr_98 rfl rfl rfl ?_ D9.rk rfl ?_
      · intro u hu
        obtain ⟨_, ak, kk, rfl, _⟩ := ok9.slN
        obtain ⟨_, at7, kt, rfl, _⟩ := ot9.slN
        simp [Value.cells] at hu
        rcases hu with rfl | rfl | rfl | rfl | rfl | rfl | rfl | rfl <;> rfl
      intro h10 f10 b10
      obtain ⟨v, hv1, hv2⟩ := D9.fin q9 ok9 ot9 dj9 f10 b10
      simp only [T.tv, hv1, seval]
      exact hv2
    · simp only [Nat.reduceEqDiff, if_false, if_true, or_false] at hY
      rw [show ((2 : Nat) : Int) = 2 from rfl]
      simp only [C.dec_one_gos, T.tv, seval, fx0, Int.reduceEq]
      refine eff_callF rfl ((dsgn_any 1 (by omega) hl D.d.rd).mono ?_)
      intro v1 h1 hp1
      have D1 := D.step hp1.1 hp1.2.1
      have hv1 := hp1.2.2
      clear hp1
      have fx1 := D1.d.cells
      rw [ha] at fx1
      generalize sgnD l 1 s = T1 at *
      obtain ⟨av, s2⟩ := T1
      simp only at *
      simp only [T.tv, hv1, seval]
      refine eff_store1_z T.zr_3 rfl rfl rfl rfl rfl fx1.2.2.2.1 (D1.d.notfz 3) ?_
      have D2 := D1.set 3 (.int .i64 av) { x with A := av } rfl rfl (fun _ _ => rfl)
      generalize setAt _ ⟨q, 3, none⟩ _ = h2 at *
      have fx2 := D2.d.cells
      rw [ha] at fx2
      have D9 := D2
      subst hY
      obtain ⟨vk9, vt9, q9, ok9, ot9, dj9⟩ := id D9.d.xr
      have hld := ld_agg T.ag_98 (Rd_block q9) rfl
      simp only [InV] at hld
      simp only [C.dec_one_gos, T.tv, seval, hld]
      refine eff_storeN_z T.zr_98 rfl rfl rfl ?_ D9.rk rfl ?_
      · intro u hu
        obtain ⟨_, ak, kk, rfl, _⟩ := ok9.slN
        obtain ⟨_, at7, kt, rfl, _⟩ := ot9.slN
        simp [Value.cells] at hu
        rcases hu with rfl | rfl | rfl | rfl | rfl | rfl | rfl | rfl <;> rfl
      intro h10 f10 b10
      obtain ⟨v, hv1, hv2⟩ := D9.fin q9 ok9 ot9 dj9 f10 b10
      simp only [T.tv, hv1, seval]
      exact hv2
    · simp only [Nat.reduceEqDiff, if_false, if_true, or_false] at hY
      rw [show ((3 : Nat) : Int) = 3 from rfl]
      simp only [C.dec_one_gos, T.tv, seval, fx0, Int.reduceEq]
      refine eff_callF rfl ((dsgn_any 2 (by omega) hl D.d.rd).mono ?_)
      intro v1 h1 hp1
      have D1 := D.step hp1.1 hp1.2.1
      have hv1 := hp1.2.2
      clear hp1
      have fx1 := D1.d.cells
      rw [ha] at fx1
      generalize sgnD l 2 s = T1 at *
      obtain ⟨av, s2⟩ := T1
      simp only at *
      simp only [T.tv, hv1, seval]
      refine eff_store1_z T.zr_3 rfl rfl rfl rfl rfl fx1.2.2.2.1 (D1.d.notfz 3) ?_
      have D2 := D1.set 3 (.int .i64 av) { x with A := av } rfl rfl (fun _ _ => rfl)
      generalize setAt _ ⟨q, 3, none⟩ _ = h2 at *
      have fx2 := D2.d.cells
      rw [ha] at fx2
      have D9 := D2
      subst hY
      obtain ⟨vk9, vt9, q9, ok9, ot9, dj9⟩ := id D9.d.xr
      have hld := ld_agg T.ag_98 (Rd_block q9) rfl
      simp only [InV] at hld
      simp only [C.dec_one_gos, T.tv, seval, hld]
      refine eff_storeN_z T.zr_98 rfl rfl rfl ?_ D9.rk rfl ?_
      · intro u hu
        obtain ⟨_, ak, kk, rfl, _⟩ := ok9.slN
        obtain ⟨_, at7, kt, rfl, _⟩ := ot9.slN
        simp [Value.cells] at hu
        rcases hu with rfl | rfl | rfl | rfl | rfl | rfl | rfl | rfl <;> rfl
      intro h10 f10 b10
      obtain ⟨v, hv1, hv2⟩ := D9.fin q9 ok9 ot9 dj9 f10 b10
      simp only [T.tv, hv1, seval]
      exact hv2
    · simp only [Nat.reduceEqDiff, if_false, if_true, or_false] at hY
      rw [show ((4 : Nat) : Int) = 4 from rfl]
      simp only [C.dec_one_gos, T.tv, seval, fx0, Int.reduceEq]
      refine eff_callF rfl ((num_any 1 hl (by omega) D.d.rd).mono ?_)
      intro v1 h1 hp1
      have D1 := D.step hp1.1 hp1.2.1
      have hv1 := hp1.2.2
      clear hp1
      have fx1 := D1.d.cells
      rw [ha] at fx1
      generalize numS l 1 s = T1 at *
      obtain ⟨av, s2⟩ := T1
      simp only at *
      simp only [T.tv, hv1, seval]
      refine eff_store1_z T.zr_3 rfl rfl rfl rfl rfl fx1.2.2.2.1 (D1.d.notfz 3) ?_
      have D2 := D1.set 3 (.int .i64 av) { x with A := av } rfl rfl (fun _ _ => rfl)
      generalize setAt _ ⟨q, 3, none⟩ _ = h2 at *
      have fx2 := D2.d.cells
      rw [ha] at fx2
      have D9 := D2
      subst hY
      obtain ⟨vk9, vt9, q9, ok9, ot9, dj9⟩ := id D9.d.xr
      have hld := ld_agg T.ag_98 (Rd_block q9) rfl
      simp only [InV] at hld
      simp only [C.dec_one_gos, T.tv, seval, hld]
      refine eff_storeN_z T.zr_98 rfl rfl rfl ?_ D9.rk rfl ?_
      · intro u hu
        obtain ⟨_, ak, kk, rfl, _⟩ := ok9.slN
        obtain ⟨_, at7, kt, rfl, _⟩ := ot9.slN
        simp [Value.cells] at hu
        rcases hu with rfl | rfl | rfl | rfl | rfl | rfl | rfl | rfl <;> rfl
      intro h10 f10 b10
      obtain ⟨v, hv1, hv2⟩ := D9.fin q9 ok9 ot9 dj9 f10 b10
      simp only [T.tv, hv1, seval]
      exact hv2
    · simp only [Nat.reduceEqDiff, if_false, if_true, or_false] at hY
      rw [show ((5 : Nat) : Int) = 5 from rfl]
      simp only [C.dec_one_gos, T.tv, seval, fx0, Int.reduceEq]
      refine eff_callF rfl ((num_any 2 hl (by omega) D.d.rd).mono ?_)
      intro v1 h1 hp1
      have D1 := D.step hp1.1 hp1.2.1
      have hv1 := hp1.2.2
      clear hp1
      have fx1 := D1.d.cells
      rw [ha] at fx1
      generalize numS l 2 s = T1 at *
      obtain ⟨av, s2⟩ := T1
      simp only at *
      simp only [T.tv, hv1, seval]
      refine eff_store1_z T.zr_3 rfl rfl rfl rfl rfl fx1.2.2.2.1 (D1.d.notfz 3) ?_
      have D2 := D1.set 3 (.int .i64 av) { x with A := av } rfl rfl (fun _ _ => rfl)
      generalize setAt _ ⟨q, 3, none⟩ _ = h2 at *
      have fx2 := D2.d.cells
      rw [ha] at fx2
      have D9 := D2
      subst hY
      obtain ⟨vk9, vt9, q9, ok9, ot9, dj9⟩ := id D9.d.xr
      have hld := ld_agg T.ag_98 (Rd_block q9) rfl
      simp only [InV] at hld
      simp only [C.dec_one_gos, T.tv, seval, hld]
      refine eff_storeN_z T.zr_98 rfl rfl rfl ?_ D9.rk rfl ?_
      · intro u hu
        obtain ⟨_, ak, kk, rfl, _⟩ := ok9.slN
        obtain ⟨_, at7, kt, rfl, _⟩ := ot9.slN
        simp [Value.cells] at hu
        rcases hu with rfl | rfl | rfl | rfl | rfl | rfl | rfl | rfl <;> rfl
      intro h10 f10 b10
      obtain ⟨v, hv1, hv2⟩ := D9.fin q9 ok9 ot9 dj9 f10 b10
      simp only [T.tv, hv1, seval]
      exact hv2
    · simp only [Nat.reduceEqDiff, if_false, if_true, or_false] at hY
      rw [show ((6 : Nat) : Int) = 6 from rfl]
      simp only [C.dec_one_gos, T.tv, seval, fx0, Int.reduceEq]
      refine eff_call_of ?_
      simp only [T.tv, seval]
      have hU := num_any sz hl (by omega) D.d.rd
      rw [hs] at hU
      refine hU.mono ?_
      intro v1 h1 hp1
      have D1 := D.step hp1.1 hp1.2.1
      have hv1 := hp1.2.2
      clear hp1
      have fx1 := D1.d.cells
      rw [ha] at fx1
      generalize numS l sz s = T1 at *
      obtain ⟨av, s2⟩ := T1
      simp only at *
      simp only [T.tv, hv1, seval]
      refine eff_store1_z T.zr_3 rfl rfl rfl rfl rfl fx1.2.2.2.1 (D1.d.notfz 3) ?_
      have D2 := D1.set 3 (.int .i64 av) { x with A := av } rfl rfl (fun _ _ => rfl)
      generalize setAt _ ⟨q, 3, none⟩ _ = h2 at *
      have fx2 := D2.d.cells
      rw [ha] at fx2
      have D9 := D2
      subst hY
      obtain ⟨vk9, vt9, q9, ok9, ot9, dj9⟩ := id D9.d.xr
      have hld := ld_agg T.ag_98 (Rd_block q9) rfl
      simp only [InV] at hld
      simp only [C.dec_one_gos, T.tv, seval, hld]
      refine eff_storeN_z T.zr_98 rfl rfl rfl ?_ D9.rk rfl ?_
      · intro u hu
        obtain ⟨_, ak, kk, rfl, _⟩ := ok9.slN
        obtain ⟨_, at7, kt, rfl, _⟩ := ot9.slN
        simp [Value.cells] at hu
        rcases hu with rfl | rfl | rfl | rfl | rfl | rfl | rfl | rfl <;> rfl
      intro h10 f10 b10
      obtain ⟨v, hv1, hv2⟩ := D9.fin q9 ok9 ot9 dj9 f10 b10
      simp only [T.tv, hv1, seval]
      exact hv2
    · simp only [Nat.reduceEqDiff, if_false, if_true, or_false] at hY
      rw [show ((7 : Nat) : Int) = 7 from rfl]
      simp only [C.dec_one_gos, T.tv, seval, fx0, Int.reduceEq]
      refine eff_call_of ?_
      simp only [T.tv, seval]
      have hU := num_any sz hl (by omega) D.d.rd
      rw [hs] at hU
      refine hU.mono ?_
      intro v1 h1 hp1
      have D1 := D.step hp1.1 hp1.2.1
      have hv1 := hp1.2.2
      clear hp1
      have fx1 := D1.d.cells
      rw [ha] at fx1
      generalize numS l sz s = T1 at *
      obtain ⟨av, s2⟩ := T1
      simp only at *
      simp only [T.tv, hv1, seval]
      refine eff_store1_z T.zr_3 rfl rfl rfl rfl rfl fx1.2.2.2.1 (D1.d.notfz 3) ?_
      have D2 := D1.set 3 (.int .i64 av) { x with A := av } rfl rfl (fun _ _ => rfl)
      generalize setAt _ ⟨q, 3, none⟩ _ = h2 at *
      have fx2 := D2.d.cells
      rw [ha] at fx2
      simp only [C.dec_one_gos, T.tv, seval, fx2]
      refine eff_call_of ?_
      simp only [T.tv, seval]
      have hU := dsgn_any sz (by omega) hl D2.d.rd
      rw [hs] at hU
      refine hU.mono ?_
      intro v3 h3 hp3
      have D3 := D2.step hp3.1 hp3.2.1
      have hv3 := hp3.2.2
      clear hp3
      have fx3 := D3.d.cells
      rw [ha] at fx3
      generalize sgnD l sz s2 = T3 at *
      obtain ⟨bv, s3⟩ := T3
      simp only at *
      simp only [T.tv, hv3, seval]
      refine eff_store1_z T.zr_3 rfl rfl rfl rfl rfl fx3.2.2.2.2.1 (D3.d.notfz 4) ?_
      have D4 := D3.set 4 (.int .i64 bv) { x with A := av, B := bv } rfl rfl (fun _ _ => rfl)
      generalize setAt _ ⟨q, 4, none⟩ _ = h4 at *
      have fx4 := D4.d.cells
      rw [ha] at fx4
      have D9 := D4
      subst hY
      obtain ⟨vk9, vt9, q9, ok9, ot9, dj9⟩ := id D9.d.xr
      have hld := ld_agg T.ag_98 (Rd_block q9) rfl
      simp only [InV] at hld
      simp only [C.dec_one_gos, T.tv, seval, hld]
      refine eff_storeN_z T.zr_98 rfl rfl rfl ?_ D9.rk rfl ?_
      · intro u hu
        obtain ⟨_, ak, kk, rfl, _⟩ := ok9.slN
        obtain ⟨_, at7, kt, rfl, _⟩ := ot9.slN
        simp [Value.cells] at hu
        rcases hu with rfl | rfl | rfl | rfl | rfl | rfl | rfl | rfl <;> rfl
      intro h10 f10 b10
      obtain ⟨v, hv1, hv2⟩ := D9.fin q9 ok9 ot9 dj9 f10 b10
      simp only [T.tv, hv1, seval]
      exact hv2
    · simp only [Nat.reduceEqDiff, if_false, if_true, or_false] at hY
      rw [show ((8 : Nat) : Int) = 8 from rfl]
      have b0 := sgnD_fit l 2 s (by omega)
      simp only [C.dec_one_gos, T.tv, seval, fx0, Int.reduceEq]
      refine eff_callF rfl ((dsgn_any 2 (by omega) hl D.d.rd).mono ?_)
      intro v1 h1 hp1
      have D1 := D.step hp1.1 hp1.2.1
      have hv1 := hp1.2.2
      clear hp1
      have fx1 := D1.d.cells
      rw [ha] at fx1
      generalize sgnD l 2 s = T1 at *
      obtain ⟨tv, s2⟩ := T1
      simp only at *
      simp (disch := omega) only [T.tv, fx1, seval, hv1]
      refine eff_lits T.slT_96 rfl rfl (by decide) ?_
      simp only [T.tv, seval]
      obtain ⟨vk4, vt4, q4, own4k, own4t, _⟩ := D1.d.xr
      refine eff_store1_z T.zr_96 rfl rfl rfl rfl rfl (by rw [cellAt_of (push_blk q4)]; rfl) ((D1.d.push _).notfz 7) ?_
      have D2 := D1.tg1 ((a : Int) + tv)
      clear q4 own4k own4t
      generalize setAt _ ⟨q, 7, none⟩ _ = h2 at *
      have fx2 := D2.d.cells
      rw [ha] at fx2
      have D9 := D2
      subst hY
      obtain ⟨vk9, vt9, q9, ok9, ot9, dj9⟩ := id D9.d.xr
      have hld := ld_agg T.ag_98 (Rd_block q9) rfl
      simp only [InV] at hld
      simp only [C.dec_one_gos, T.tv, seval, hld]
      refine eff_storeN_z T.zr_98 rfl rfl rfl ?_ D9.rk rfl ?_
      · intro u hu
        obtain ⟨_, ak, kk, rfl, _⟩ := ok9.slN
        obtain ⟨_, at7, kt, rfl, _⟩ := ot9.slN
        simp [Value.cells] at hu
        rcases hu with rfl | rfl | rfl | rfl | rfl | rfl | rfl | rfl <;> rfl
      intro h10 f10 b10
      obtain ⟨v, hv1, hv2⟩ := D9.fin q9 ok9 ot9 dj9 f10 b10
      simp only [T.tv, hv1, seval]
      exact hv2
    · simp only [Nat.reduceEqDiff, if_false, if_true, or_false] at hY
      rw [show ((9 : Nat) : Int) = 9 from rfl]
      have b0 := sgnD_fit l 4 s (by omega)
      simp only [C.dec_one_gos, T.tv, seval, fx0, Int.reduceEq]
      refine eff_callF rfl ((dsgn_any 4 (by omega) hl D.d.rd).mono ?_)
      intro v1 h1 hp1
      have D1 := D.step hp1.1 hp1.2.1
      have hv1 := hp1.2.2
      clear hp1
      have fx1 := D1.d.cells
      rw [ha] at fx1
      generalize sgnD l 4 s = T1 at *
      obtain ⟨tv, s2⟩ := T1
      simp only at *
      simp (disch := omega) only [T.tv, fx1, seval, hv1]
      refine eff_lits T.slT_96 rfl rfl (by decide) ?_
      simp only [T.tv, seval]
      obtain ⟨vk4, vt4, q4, own4k, own4t, _⟩ := D1.d.xr
      refine eff_store1_z T.zr_96 rfl rfl rfl rfl rfl (by rw [cellAt_of (push_blk q4)]; rfl) ((D1.d.push _).notfz 7) ?_
      have D2 := D1.tg1 ((a : Int) + tv)
      clear q4 own4k own4t
      generalize setAt _ ⟨q, 7, none⟩ _ = h2 at *
      have fx2 := D2.d.cells
      rw [ha] at fx2
      have D9 := D2
      subst hY
      obtain ⟨vk9, vt9, q9, ok9, ot9, dj9⟩ := id D9.d.xr
      have hld := ld_agg T.ag_98 (Rd_block q9) rfl
      simp only [InV] at hld
      simp only [C.dec_one_gos, T.tv, seval, hld]
      refine eff_storeN_z T.zr_98 rfl rfl rfl ?_ D9.rk rfl ?_
      · intro u hu
        obtain ⟨_, ak, kk, rfl, _⟩ := ok9.slN
        obtain ⟨_, at7, kt, rfl, _⟩ := ot9.slN
        simp [Value.cells] at hu
        rcases hu with rfl | rfl | rfl | rfl | rfl | rfl | rfl | rfl <;> rfl
      intro h10 f10 b10
      obtain ⟨v, hv1, hv2⟩ := D9.fin q9 ok9 ot9 dj9 f10 b10
      simp only [T.tv, hv1, seval]
      exact hv2
    · simp only [Nat.reduceEqDiff, if_false, or_false] at hY
      rw [show ((0 : Nat) : Int) = 0 from rfl]
      have hmore := dmore_any x a 0 (by omega) hl ha hal hk ht D.d.rd hq
      rw [hY0] at hmore
      clear hY hY0
      simp only [C.dec_one_gos, T.tv, seval, fx0, Int.reduceEq]
      refine eff_callF rfl ((hmore).mono ?_)
      intro v1 h1 hp1
      have D1 := D.more hp1.1 hp1.2.1 hp1.2.2
      obtain ⟨x9, s9⟩ := Y
      have D9 := D1
      obtain ⟨vk9, vt9, q9, ok9, ot9, dj9⟩ := id D9.d.xr
      have hld := ld_agg T.ag_98 (Rd_block q9) rfl
      simp only [InV] at hld
      simp only [C.dec_one_gos, T.tv, seval, hld]
      refine eff_storeN_z T.zr_98 rfl rfl rfl ?_ D9.rk rfl ?_
      · intro u hu
        obtain ⟨_, ak, kk, rfl, _⟩ := ok9.slN
        obtain ⟨_, at7, kt, rfl, _⟩ := ot9.slN
        simp [Value.cells] at hu
        rcases hu with rfl | rfl | rfl | rfl | rfl | rfl | rfl | rfl <;> rfl
      intro h10 f10 b10
      obtain ⟨v, hv1, hv2⟩ := D9.fin q9 ok9 ot9 dj9 f10 b10
      simp only [T.tv, hv1, seval]
      exact hv2
    · simp only [Nat.reduceEqDiff, if_false, if_true, or_false] at hY
      rw [show ((10 : Nat) : Int) = 10 from rfl]
      have hmore := dmore_any x a 10 (by omega) hl ha hal hk ht D.d.rd hq
      rw [hY0] at hmore
      clear hY hY0
      simp only [C.dec_one_gos, T.tv, seval, fx0, Int.reduceEq]
      refine eff_callF rfl ((hmore).mono ?_)
      intro v1 h1 hp1
      have D1 := D.more hp1.1 hp1.2.1 hp1.2.2
      obtain ⟨x9, s9⟩ := Y
      have D9 := D1
      obtain ⟨vk9, vt9, q9, ok9, ot9, dj9⟩ := id D9.d.xr
      have hld := ld_agg T.ag_98 (Rd_block q9) rfl
      simp only [InV] at hld
      simp only [C.dec_one_gos, T.tv, seval, hld]
      refine eff_storeN_z T.zr_98 rfl rfl rfl ?_ D9.rk rfl ?_
      · intro u hu
        obtain ⟨_, ak, kk, rfl, _⟩ := ok9.slN
        obtain ⟨_, at7, kt, rfl, _⟩ := ot9.slN
        simp [Value.cells] at hu
        rcases hu with rfl | rfl | rfl | rfl | rfl | rfl | rfl | rfl <;> rfl
      intro h10 f10 b10
      obtain ⟨v, hv1, hv2⟩ := D9.fin q9 ok9 ot9 dj9 f10 b10
      simp only [T.tv, hv1, seval]
      exact hv2
    · simp only [Nat.reduceEqDiff, if_false, if_true, or_true] at hY
      rw [show ((11 : Nat) : Int) = 11 from rfl]
      have hmore := dmore_any x a 11 (by omega) hl ha hal hk ht D.d.rd hq
      rw [hY0] at hmore
      clear hY hY0
      simp only [C.dec_one_gos, T.tv, seval, fx0, Int.reduceEq]
      refine eff_callF rfl ((hmore).mono ?_)
      intro v1 h1 hp1
      have D1 := D.more hp1.1 hp1.2.1 hp1.2.2
      obtain ⟨x9, s9⟩ := Y
      have D9 := D1
      obtain ⟨vk9, vt9, q9, ok9, ot9, dj9⟩ := id D9.d.xr
      have hld := ld_agg T.ag_98 (Rd_block q9) rfl
      simp only [InV] at hld
      simp only [C.dec_one_gos, T.tv, seval, hld]
      refine eff_storeN_z T.zr_98 rfl rfl rfl ?_ D9.rk rfl ?_
      · intro u hu
        obtain ⟨_, ak, kk, rfl, _⟩ := ok9.slN
        obtain ⟨_, at7, kt, rfl, _⟩ := ot9.slN
        simp [Value.cells] at hu
        rcases hu with rfl | rfl | rfl | rfl | rfl | rfl | rfl | rfl <;> rfl
      intro h10 f10 b10
      obtain ⟨v, hv1, hv2⟩ := D9.fin q9 ok9 ot9 dj9 f10 b10
      simp only [T.tv, hv1, seval]
      exact hv2
    · simp only [Nat.reduceEqDiff, if_false, if_true, or_false] at hY
      rw [show ((12 : Nat) : Int) = 12 from rfl]
      have hmore := dmore_any x a 12 (by omega) hl ha hal hk ht D.d.rd hq
      rw [hY0] at hmore
      clear hY hY0
      simp only [C.dec_one_gos, T.tv, seval, fx0, Int.reduceEq]
      refine eff_callF rfl ((hmore).mono ?_)
      intro v1 h1 hp1
      have D1 := D.more hp1.1 hp1.2.1 hp1.2.2
      obtain ⟨x9, s9⟩ := Y
      have D9 := D1
      obtain ⟨vk9, vt9, q9, ok9, ot9, dj9⟩ := id D9.d.xr
      have hld := ld_agg T.ag_98 (Rd_block q9) rfl
      simp only [InV] at hld
      simp only [C.dec_one_gos, T.tv, seval, hld]
      refine eff_storeN_z T.zr_98 rfl rfl rfl ?_ D9.rk rfl ?_
      · intro u hu
        obtain ⟨_, ak, kk, rfl, _⟩ := ok9.slN
        obtain ⟨_, at7, kt, rfl, _⟩ := ot9.slN
        simp [Value.cells] at hu
        rcases hu with rfl | rfl | rfl | rfl | rfl | rfl | rfl | rfl <;> rfl
      intro h10 f10 b10
      obtain ⟨v, hv1, hv2⟩ := D9.fin q9 ok9 ot9 dj9 f10 b10
      simp only [T.tv, hv1, seval]
      exact hv2
    · simp only [Nat.reduceEqDiff, if_false, if_true, or_false] at hY
      rw [show ((13 : Nat) : Int) = 13 from rfl]
      have hmore := dmore_any x a 13 (by omega) hl ha hal hk ht D.d.rd hq
      rw [hY0] at hmore
      clear hY hY0
      simp only [C.dec_one_gos, T.tv, seval, fx0, Int.reduceEq]
      refine eff_callF rfl ((hmore).mono ?_)
      intro v1 h1 hp1
      have D1 := D.more hp1.1 hp1.2.1 hp1.2.2
      obtain ⟨x9, s9⟩ := Y
      have D9 := D1
      obtain ⟨vk9, vt9, q9, ok9, ot9, dj9⟩ := id D9.d.xr
      have hld := ld_agg T.ag_98 (Rd_block q9) rfl
      simp only [InV] at hld
      simp only [C.dec_one_gos, T.tv, seval, hld]
      refine eff_storeN_z T.zr_98 rfl rfl rfl ?_ D9.rk rfl ?_
      · intro u hu
        obtain ⟨_, ak, kk, rfl, _⟩ := ok9.slN
        obtain ⟨_, at7, kt, rfl, _⟩ := ot9.slN
        simp [Value.cells] at hu
        rcases hu with rfl | rfl | rfl | rfl | rfl | rfl | rfl | rfl <;> rfl
      intro h10 f10 b10
      obtain ⟨v, hv1, hv2⟩ := D9.fin q9 ok9 ot9 dj9 f10 b10
      simp only [T.tv, hv1, seval]
      exact hv2
    · simp only [Nat.reduceEqDiff, if_false, if_true, or_false] at hY
      rw [show ((14 : Nat) : Int) = 14 from rfl]
      have hmore := dmore_any x a 14 (by omega) hl ha hal hk ht D.d.rd hq
      rw [hY0] at hmore
      clear hY hY0
      simp only [C.dec_one_gos, T.tv, seval, fx0, Int.reduceEq]
      refine eff_callF rfl ((hmore).mono ?_)
      intro v1 h1 hp1
      have D1 := D.more hp1.1 hp1.2.1 hp1.2.2
      obtain ⟨x9, s9⟩ := Y
      have D9 := D1
      obtain ⟨vk9, vt9, q9, ok9, ot9, dj9⟩ := id D9.d.xr
      have hld := ld_agg T.ag_98 (Rd_block q9) rfl
      simp only [InV] at hld
      simp only [C.dec_one_gos, T.tv, seval, hld]
      refine eff_storeN_z T.zr_98 rfl rfl rfl ?_ D9.rk rfl ?_
      · intro u hu
        obtain ⟨_, ak, kk, rfl, _⟩ := ok9.slN
        obtain ⟨_, at7, kt, rfl, _⟩ := ot9.slN
        simp [Value.cells] at hu
        rcases hu with rfl | rfl | rfl | rfl | rfl | rfl | rfl | rfl <;> rfl
      intro h10 f10 b10
      obtain ⟨v, hv1, hv2⟩ := D9.fin q9 ok9 ot9 dj9 f10 b10
      simp only [T.tv, hv1, seval]
      exact hv2
end
end Go.Proofs.YtflocjbhcjhenaaGreatDoor
namespace Go.Proofs.YtflocjbhcjhenaaGreatDoor
open Go.Vc
set_option maxRecDepth 100000
def oneR (l : List UInt8) (p : Nat) (o : Nat × RS) : In × RS :=
  if formS o.1 = 15 then
    if formS (numS l 1 o.2).1 ≠ 6 ∧ formS (numS l 1 o.2).1 ≠ 7 then (ins0 p (numS l 1 o.2).1 true, failS 14 p (numS l 1 o.2).2)
    else opsD (ins0 p (numS l 1 o.2).1 true) p (formS (numS l 1 o.2).1) l (numS l 1 o.2).2
  else opsD (ins0 p o.1 false) p (formS o.1) l o.2
theorem oneD_eq (l : List UInt8) (s : RS) : oneD l s = oneR l s.p (numS l 1 s) := rfl
section
variable {h : Heap} {g q bd rb : Nat} {l : List UInt8} {s : RS}
set_option maxHeartbeats 8000000 in
theorem d2_any (p op : Nat) (hc : Heap) (u0 : Value) (hop : op < 256) (hl : l.length ≤ 1073741824) (hpl : p ≤ l.length)
    (D : DR h hc g q bd rb l (ins0 p op false) s) (hq : hc[q]? = some (.cells (InV (ins0 p op false) (.slice none 0 0) (.slice none 0 0)).toArray 98 (0, 0))) :
    Cd.vc Tryz.prog C.dec_one_t1 (retQ Tryz.prog [(2, some 98)] (OneR h g l (oneR l p (op, s))))
      [(0, u0), (1, .pointer (some ⟨bd, 0, none⟩)), (2, .pointer (some ⟨rb, 0, none⟩)), (3, .pointer (some ⟨q, 0, none⟩)), (4, undef), (5, undef), (18, undef), (33, undef), (41, undef), (42, undef), (46, undef), (53, undef), (58, undef), (63, undef), (69, undef), (75, undef), (82, undef), (93, undef), (102, undef)] hc := by
  rw [C.dec_one_t1_go]
  generalize hY : oneR l p (op, s) = Y
  unfold oneR at hY
  simp only at hY
  have fx0 := D.d.cells
  have e0 : (ins0 p op false).at' = (p : Int) := rfl
  have e1 : (ins0 p op false).op = op := rfl
  rw [e0, e1] at fx0
  simp only [C.dec_one_gos, T.tv, seval, fx0]
  refine eff_callF rfl ((form_any op hop hc).mono ?_)
  intro v1 h1 hp1
  have e2 := hp1.1
  subst e2
  have hv1 := hp1.2
  clear hp1
  have hfl := formS_lt op hop
  by_cases hw : formS op = 15
  case neg =>
    rw [if_neg hw] at hY
    have hw' : ¬ ((formS op : Nat) : Int) = 15 := by omega
    have h10 := d10_any (ins0 p op false) p (formS op) h1 u0 undef (.bool false) undef (by omega) hl rfl hpl rfl rfl D hq
    rw [hY] at h10
    simp only [C.dec_one_gos, T.tv, seval, hv1, eq_false hw']
    exact h10
  rw [if_pos hw] at hY
  have hw' : ((formS op : Nat) : Int) = 15 := by omega
  simp only [C.dec_one_gos, T.tv, seval, hv1, eq_true hw']
  refine eff_store1_z T.zr_4 rfl rfl rfl rfl rfl fx0.2.2.1 (D.d.notfz 2) ?_
  have D2 := D.set 2 (.bool true) (ins0 p op true) rfl rfl (fun _ _ => rfl)
  have q2 := setAt_get (o := 2) hq (.bool true)
  generalize setAt _ ⟨q, 2, none⟩ _ = h2 at *
  have fx2 := D2.d.cells
  simp only [C.dec_one_gos, T.tv, seval, fx2]
  refine eff_callF rfl ((num_any 1 hl (by omega) D2.d.rd).mono ?_)
  intro v3 h3 hp3
  have D3 := D2.step hp3.1 hp3.2.1
  have hv3 := hp3.2.2
  have q3 := Fr_blk hp3.1 q2 D2.d.gq.1
  clear hp3
  have bn : (numS l 1 s).1 < 256 := numS_lt
  generalize numS l 1 s = T at *
  obtain ⟨op2, s3⟩ := T
  simp only at *
  have fx3 := D3.d.cells
  have hw3 : IntKind.u8.wrap (op2 : Int) = (op2 : Int) := wrap_u8 (by omega) (by omega)
  simp only [T.tv, hv3, seval, hw3]
  refine eff_store1_z T.zr_5 rfl rfl rfl rfl rfl fx3.2.1 (D3.d.notfz 1) ?_
  have D4 := D3.set 1 (.int .u8 op2) (ins0 p op2 true) rfl rfl (fun _ _ => rfl)
  have q4 := setAt_get (o := 1) q3 (.int .u8 op2)
  generalize setAt _ ⟨q, 1, none⟩ _ = h4 at *
  have fx4 := D4.d.cells
  have e3 : (ins0 p op2 true).at' = (p : Int) := rfl
  have e4 : (ins0 p op2 true).op = op2 := rfl
  rw [e3, e4] at fx4
  simp only [C.dec_one_gos, T.tv, seval, fx4]
  refine eff_callF rfl ((form_any op2 bn h4).mono ?_)
  intro v5 h5 hp5
  have e5 := hp5.1
  subst e5
  have hv5 := hp5.2
  clear hp5
  have hfl2 := formS_lt op2 bn
  by_cases hbad : formS op2 ≠ 6 ∧ formS op2 ≠ 7
  · rw [if_pos hbad] at hY
    subst hY
    have g6 : ¬ ((formS op2 : Nat) : Int) = 6 := by omega
    have g7 : ¬ ((formS op2 : Nat) : Int) = 7 := by omega
    simp only [C.dec_one_gos, T.tv, seval, hv5, fx4, eq_false g6, eq_false g7]
    refine eff_callF rfl ((fail_any 14 p D4.d.rd).mono ?_)
    intro v6 h6 hp6
    have D9 := D4.step hp6.1 hp6.2
    clear hp6
    obtain ⟨vk9, vt9, q9, ok9, ot9, dj9⟩ := id D9.d.xr
    have hld := ld_agg T.ag_98 (Rd_block q9) rfl
    simp only [InV] at hld
    simp only [C.dec_one_gos, T.tv, seval, hld]
    refine eff_storeN_z T.zr_98 rfl rfl rfl ?_ D9.rk rfl ?_
    · intro u hu
      obtain ⟨_, ak, kk, rfl, _⟩ := ok9.slN
      obtain ⟨_, at7, kt, rfl, _⟩ := ot9.slN
      simp [Value.cells] at hu
      rcases hu with rfl | rfl | rfl | rfl | rfl | rfl | rfl | rfl <;> rfl
    intro h10 f10 b10
    obtain ⟨v, hv1, hv2⟩ := D9.fin q9 ok9 ot9 dj9 f10 b10
    simp only [T.tv, hv1, seval]
    exact hv2
  · rw [if_neg hbad] at hY
    have g67 : (((formS op2 : Nat) : Int) = 6) ∨ (¬ (((formS op2 : Nat) : Int) = 6) ∧ ((formS op2 : Nat) : Int) = 7) := by omega
    have h10 := fun u33 => d10_any (ins0 p op2 true) p (formS op2) h5 u0 undef (.bool true) u33 (by omega) hl rfl hpl rfl rfl D4 q4
    rw [hY] at h10
    rcases g67 with g6 | ⟨g6, g7⟩
    · simp only [C.dec_one_gos, T.tv, seval, hv5, eq_true g6]
      exact h10 _
    · simp only [C.dec_one_gos, T.tv, seval, hv5, eq_false g6, eq_true g7]
      exact h10 _
set_option maxHeartbeats 8000000 in
theorem done_any (hl : l.length ≤ 1073741824) (H : Rdr h g l s) :
    HCalls Tryz.prog 72 #[.agg #[.pointer (some ⟨g, 0, none⟩)]] h (OneR h g l (oneD l s)) := by
  refine C.dec_one_calls (args := [.agg #[.pointer (some ⟨g, 0, none⟩)]]) rfl ?_
  rw [oneD_eq]
  have hgl := H.lt
  have hpl := H.2
  simp only [C.dec_one_gos, T.tv]
  refine eff_box ?_
  have E1 := Ext.push h (.cells #[.pointer (some ⟨g, 0, none⟩)] 110)
  have b1 : (h.push (.cells #[.pointer (some ⟨g, 0, none⟩)] 110))[h.size]? = some (.cells #[.pointer (some ⟨g, 0, none⟩)] 110 (0, 0)) := by simp
  have s1 : (h.push (.cells #[.pointer (some ⟨g, 0, none⟩)] 110)).size = h.size + 1 := by simp
  simp only [T.tv, seval]
  generalize h.push (.cells #[.pointer (some ⟨g, 0, none⟩)] 110) = h1 at *
  refine eff_alloc_z T.zr_98 ?_
  have E2 := E1.trans (Ext.push h1 (.cells #[.int .i64 0, .int .u8 0, .bool false, .int .i64 0, .int .i64 0, .int .i64 0, .slice none 0 0, .slice none 0 0] 98))
  have b2 := push_blk (o' := .cells #[.int .i64 0, .int .u8 0, .bool false, .int .i64 0, .int .i64 0, .int .i64 0, .slice none 0 0, .slice none 0 0] 98) b1
  have r2 : (h1.push (.cells #[.int .i64 0, .int .u8 0, .bool false, .int .i64 0, .int .i64 0, .int .i64 0, .slice none 0 0, .slice none 0 0] 98))[h1.size]? = some (.cells #[.int .i64 0, .int .u8 0, .bool false, .int .i64 0, .int .i64 0, .int .i64 0, .slice none 0 0, .slice none 0 0] 98 (0, 0)) := by simp
  have s2 : (h1.push (.cells #[.int .i64 0, .int .u8 0, .bool false, .int .i64 0, .int .i64 0, .int .i64 0, .slice none 0 0, .slice none 0 0] 98)).size = h.size + 2 := by simp [s1]
  rw [s1] at r2 ⊢
  have H2 := H.fr E2 id
  have c2 : cellAt (h1.push (.cells #[.int .i64 0, .int .u8 0, .bool false, .int .i64 0, .int .i64 0, .int .i64 0, .slice none 0 0, .slice none 0 0] 98)) ⟨h.size, 0, none⟩ = some (.pointer (some ⟨g, 0, none⟩)) := by rw [cellAt_of b2]; rfl
  generalize h1.push (.cells #[.int .i64 0, .int .u8 0, .bool false, .int .i64 0, .int .i64 0, .int .i64 0, .slice none 0 0, .slice none 0 0] 98) = h2 at *
  clear E1 b1
  have bn : (numS l 1 s).1 < 256 := numS_lt
  -- the end of each order
  have fin : ∀ (hc : Heap) (q : Nat), Fr (fun k => k = g ∨ k = q) h hc → Rdr hc g l (numS l 1 s).2 → hc[h.size]? = some (.cells #[.pointer (some ⟨g, 0, none⟩)] 110 (0, 0)) → hc[h.size + 1]? = some (.cells #[.int .i64 0, .int .u8 0, .bool false, .int .i64 0, .int .i64 0, .int .i64 0, .slice none 0 0, .slice none 0 0] 98 (0, 0)) → h.size + 2 ≤ q →
      hc[q]? = some (.cells (InV (ins0 s.p (numS l 1 s).1 false) (.slice none 0 0) (.slice none 0 0)).toArray 98 (0, 0)) →
      Cd.vc Tryz.prog C.dec_one_t1 (retQ Tryz.prog [(2, some 98)] (OneR h g l (oneR l s.p (numS l 1 s))))
      [(0, .agg #[.pointer (some ⟨g, 0, none⟩)]), (1, .pointer (some ⟨h.size, 0, none⟩)), (2, .pointer (some ⟨h.size + 1, 0, none⟩)), (3, .pointer (some ⟨q, 0, none⟩)), (4, undef), (5, undef), (18, undef), (33, undef), (41, undef), (42, undef), (46, undef), (53, undef), (58, undef), (63, undef), (69, undef), (75, undef), (82, undef), (93, undef), (102, undef)] hc := by
    intro hc q f1 f2 f3 f4 f5 f6
    exact d2_any s.p (numS l 1 s).1 hc _ bn hl hpl ⟨⟨f1, f2, ⟨_, _, f6, Own.nil, Own.nil, by intro k hk; simp [Value.ownBlock] at hk⟩, f3⟩, f4, by omega, by omega, by omega⟩ f6
  generalize hN : numS l 1 s = N at *
  have hw3 : IntKind.u8.wrap (N.1 : Int) = (N.1 : Int) := wrap_u8 (by omega) (by omega)
  simp only [C.dec_one_gos, T.tv, seval, c2]
  refine ⟨?_, ?_⟩
  · refine eff_callF rfl ((at_any H2).mono ?_)
    intro v3 h3 hp3
    have e3 := hp3.1
    subst e3
    have hv3 := hp3.2
    clear hp3
    simp only [T.tv, c2, seval]
    refine ⟨?_, ?_⟩
    · refine eff_callF rfl ((num_any 1 hl (by omega) H2).mono ?_)
      intro v4 h4 hp4
      rw [hN] at hp4
      have f4 := hp4.1
      have r4 := hp4.2.1
      have hv4 := hp4.2.2
      clear hp4
      have b4 := Fr_blk f4 b2 (by omega)
      have rb4 := Fr_blk f4 r2 (by
        intro e
        have k1 := H2.1
        rw [← e, r2] at k1
        cases k1)
      have c4 : cellAt h4 ⟨h.size, 0, none⟩ = some (.pointer (some ⟨g, 0, none⟩)) := by rw [cellAt_of b4]; rfl
      simp only [T.tv, hv3, seval, hv4, hw3]
      refine eff_alloc_z T.zr_98 ?_
      have c5 : cellAt (h4.push (.cells #[.int .i64 0, .int .u8 0, .bool false, .int .i64 0, .int .i64 0, .int .i64 0, .slice none 0 0, .slice none 0 0] 98)) ⟨h.size, 0, none⟩ = some (.pointer (some ⟨g, 0, none⟩)) := by rw [cellAt_of (push_blk b4)]; rfl
      simp only [T.tv, c5, seval, hw3]
      refine eff_store_new_z T.zr_98 rfl rfl rfl (by simp [Value.cells, oneCell]) rfl ?_
      intro h6 x6 hlt6 hrd6 b6
      have hs4 := f4.size
      simp only [T.tv]
      exact fin h6 h4.size (Fr.trans (Fr.trans E2 f4 (fun _ _ h => h.elim) (fun _ _ h => Or.inl h)) x6 (fun _ _ h => h) (fun _ _ h => h.elim)) (r4.fr x6 id) (Fr_blk x6 b4 id) (Fr_blk x6 rb4 id) (by omega) b6
    · refine eff_alloc_z T.zr_98 ?_
      have x3 := Ext.push h3 (.cells #[.int .i64 0, .int .u8 0, .bool false, .int .i64 0, .int .i64 0, .int .i64 0, .slice none 0 0, .slice none 0 0] 98)
      have E3 := E2.trans x3
      have b3 := push_blk (o' := .cells #[.int .i64 0, .int .u8 0, .bool false, .int .i64 0, .int .i64 0, .int .i64 0, .slice none 0 0, .slice none 0 0] 98) b2
      have rr3 := push_blk (o' := .cells #[.int .i64 0, .int .u8 0, .bool false, .int .i64 0, .int .i64 0, .int .i64 0, .slice none 0 0, .slice none 0 0] 98) r2
      have H3 := H2.fr x3 id
      have q3 : (h3.push (.cells #[.int .i64 0, .int .u8 0, .bool false, .int .i64 0, .int .i64 0, .int .i64 0, .slice none 0 0, .slice none 0 0] 98))[h3.size]? = some (.cells #[.int .i64 0, .int .u8 0, .bool false, .int .i64 0, .int .i64 0, .int .i64 0, .slice none 0 0, .slice none 0 0] 98 (0, 0)) := by simp
      have c3 : cellAt (h3.push (.cells #[.int .i64 0, .int .u8 0, .bool false, .int .i64 0, .int .i64 0, .int .i64 0, .slice none 0 0, .slice none 0 0] 98)) ⟨h.size, 0, none⟩ = some (.pointer (some ⟨g, 0, none⟩)) := by rw [cellAt_of b3]; rfl
      simp only [T.tv, c3, seval, hv3]
      refine eff_callF rfl ((num_any 1 hl (by omega) H3).mono ?_)
      intro v4 h4 hp4
      rw [hN] at hp4
      have f4 := hp4.1
      have r4 := hp4.2.1
      have hv4 := hp4.2.2
      clear hp4
      have b4 := Fr_blk f4 b3 (by omega)
      have rb4 := Fr_blk f4 rr3 (by
        intro e
        have k1 := H3.1
        rw [← e, rr3] at k1
        cases k1)
      have q4 := Fr_blk f4 q3 (by omega)
      have c4 : cellAt h4 ⟨h.size, 0, none⟩ = some (.pointer (some ⟨g, 0, none⟩)) := by rw [cellAt_of b4]; rfl
      simp only [T.tv, hv4, seval, hw3]
      refine eff_storeN_z T.zr_98 rfl rfl rfl (by simp [Value.cells, oneCell]) q4 rfl ?_
      intro h6 f6 b6
      simp only [T.tv]
      exact fin h6 h3.size (Fr.trans (Fr.trans E3 f4 (fun _ _ h => h.elim) (fun _ _ h => Or.inl h)) f6 (fun _ _ h => h) (fun _ _ h => Or.inr h)) (r4.fr f6 (by omega)) (Fr_blk f6 b4 (by omega)) (Fr_blk f6 rb4 (by omega)) (by omega) b6
  · refine eff_alloc_z T.zr_98 ?_
    have x3 := Ext.push h2 (.cells #[.int .i64 0, .int .u8 0, .bool false, .int .i64 0, .int .i64 0, .int .i64 0, .slice none 0 0, .slice none 0 0] 98)
    have E3 := E2.trans x3
    have b3 := push_blk (o' := .cells #[.int .i64 0, .int .u8 0, .bool false, .int .i64 0, .int .i64 0, .int .i64 0, .slice none 0 0, .slice none 0 0] 98) b2
    have rr3 := push_blk (o' := .cells #[.int .i64 0, .int .u8 0, .bool false, .int .i64 0, .int .i64 0, .int .i64 0, .slice none 0 0, .slice none 0 0] 98) r2
    have H3 := H2.fr x3 id
    have q3 : (h2.push (.cells #[.int .i64 0, .int .u8 0, .bool false, .int .i64 0, .int .i64 0, .int .i64 0, .slice none 0 0, .slice none 0 0] 98))[h2.size]? = some (.cells #[.int .i64 0, .int .u8 0, .bool false, .int .i64 0, .int .i64 0, .int .i64 0, .slice none 0 0, .slice none 0 0] 98 (0, 0)) := by simp
    have c3 : cellAt (h2.push (.cells #[.int .i64 0, .int .u8 0, .bool false, .int .i64 0, .int .i64 0, .int .i64 0, .slice none 0 0, .slice none 0 0] 98)) ⟨h.size, 0, none⟩ = some (.pointer (some ⟨g, 0, none⟩)) := by rw [cellAt_of b3]; rfl
    simp only [T.tv, c3, seval]
    refine eff_callF rfl ((at_any H3).mono ?_)
    intro v3 h3 hp3
    have e3 := hp3.1
    subst e3
    have hv3 := hp3.2
    clear hp3
    simp only [T.tv, c3, seval, hv3]
    refine eff_callF rfl ((num_any 1 hl (by omega) H3).mono ?_)
    intro v4 h4 hp4
    rw [hN] at hp4
    have f4 := hp4.1
    have r4 := hp4.2.1
    have hv4 := hp4.2.2
    clear hp4
    have b4 := Fr_blk f4 b3 (by omega)
    have rb4 := Fr_blk f4 rr3 (by
      intro e
      have k1 := H3.1
      rw [← e, rr3] at k1
      cases k1)
    have q4 := Fr_blk f4 q3 (by omega)
    have c4 : cellAt h4 ⟨h.size, 0, none⟩ = some (.pointer (some ⟨g, 0, none⟩)) := by rw [cellAt_of b4]; rfl
    simp only [T.tv, hv4, seval, hw3]
    refine eff_storeN_z T.zr_98 rfl rfl rfl (by simp [Value.cells, oneCell]) q4 rfl ?_
    intro h6 f6 b6
    simp only [T.tv]
    exact fin h6 h2.size (Fr.trans (Fr.trans E3 f4 (fun _ _ h => h.elim) (fun _ _ h => Or.inl h)) f6 (fun _ _ h => h) (fun _ _ h => Or.inr h)) (r4.fr f6 (by omega)) (Fr_blk f6 b4 (by omega)) (Fr_blk f6 rb4 (by omega)) (by omega) b6
end
end Go.Proofs.YtflocjbhcjhenaaGreatDoor
namespace Go.Proofs.YtflocjbhcjhenaaGreatDoor
open Go.Vc
set_option maxRecDepth 100000
def InP (h : Heap) (base : Nat) (x : In) (r : List Value) : Prop := ∃ vk vt, r = InV x vk vt ∧ Own h base 3 1 vk x.keys.length (intsV x.keys) ∧ Own h base 3 1 vt x.tgts.length (intsV x.tgts) ∧ ∀ k, vk.ownBlock = some k → ¬ vt.ownBlock = some k
def rowB (r : List Value) (b : Nat) : Prop := (r.getD 6 undef).ownBlock = some b ∨ (r.getD 7 undef).ownBlock = some b
def InsF (h : Heap) (base : Nat) (v : Value) (xs : List In) : Prop := ∃ rows : List (List Value), rows.length = xs.length ∧ Own h base 98 8 v xs.length rows.flatten ∧
  (∀ j, j < xs.length → InP h base (xs.getD j in0) (rows.getD j [])) ∧ ∀ j k, j < k → k < xs.length → ∀ b c, rowB (rows.getD j []) b → rowB (rows.getD k []) c → b < c
theorem InP.lt {h : Heap} {base : Nat} {x : In} {r : List Value} (H : InP h base x r) {b : Nat} (hb : rowB r b) : base ≤ b ∧ b < h.size := by
  obtain ⟨vk, vt, rfl, h2, h3, _⟩ := H
  rcases hb with hb | hb
  · exact h2.lt b hb
  · exact h3.lt b hb
theorem InP.fr {S : Nat → Prop} {h h' : Heap} {base : Nat} {x : In} {r : List Value} (H : InP h base x r) (f : Fr S h h') (hS : ∀ b, rowB r b → ¬ S b) : InP h' base x r := by
  obtain ⟨vk, vt, rfl, h2, h3, h4⟩ := H
  exact ⟨vk, vt, rfl, h2.fr f (fun k hk => hS k (Or.inl hk)), h3.fr f (fun k hk => hS k (Or.inr hk)), h4⟩
theorem InP.int {h : Heap} {base : Nat} {x : In} {r : List Value} (H : InP h base x r) {b : Nat} (hb : rowB r b) {cs : Array Value} {t : TypeId} {fz : Nat × Nat} (hc : h[b]? = some (.cells cs t fz)) : t = 3 := by
  obtain ⟨vk, vt, rfl, h2, h3, _⟩ := H
  refine Classical.byContradiction fun hne => ?_
  rcases hb with hb | hb
  · exact Own_ne h2 hc (Ne.symm hne) hb
  · exact Own_ne h3 hc (Ne.symm hne) hb
theorem InP.inc {h : Heap} {base : Nat} {x : In} {r : List Value} (H : InP h base x r) : InC h x r := by
  obtain ⟨vk, vt, h1, h2, h3, _⟩ := H
  exact ⟨vk, vt, h1, h2.slN, h2.capOk, h3.slN, h3.capOk⟩
theorem InsF.insC {h : Heap} {base : Nat} {v : Value} {xs : List In} (H : InsF h base v xs) : InsC h v xs := by
  obtain ⟨rows, h1, h2, h3, _⟩ := H
  exact ⟨rows, h1, h2.slN, fun j hj => (h3 j hj).inc⟩
theorem Own_le {h : Heap} {base : Nat} {e : TypeId} {size n : Nat} {v : Value} {xs : List Value} (H : Own h base e size v n xs) : n ≤ 9223372036854775807 := by
  rcases H.2 with ⟨_, rfl⟩ | ⟨g, cap, cur, fz, _, _, _, _, h5, h6, _⟩
  · exact Nat.zero_le _
  · have : maxLen = 9223372036854775807 := by decide +kernel
    omega
theorem InsF.ext {h h' : Heap} {base : Nat} {v : Value} {xs : List In} (H : InsF h base v xs) (hx : Ext h h') : InsF h' base v xs := by
  obtain ⟨rows, h1, h2, h3, h4⟩ := H
  exact ⟨rows, h1, h2.ext hx, fun j hj => (h3 j hj).fr hx (fun _ _ => id), h4⟩
theorem InsF.nil {h : Heap} {base : Nat} : InsF h base (.slice none 0 0) [] := ⟨[], rfl, Own.nil, fun j hj => by simp at hj, fun j k _ hk => by simp at hk⟩
theorem InsF.snoc {h h' : Heap} {base : Nat} {v' : Value} {xs : List In} {x : In} {r : List Value} {rows : List (List Value)} (h1 : rows.length = xs.length) (h3 : ∀ j, j < xs.length → InP h base (xs.getD j in0) (rows.getD j []))
    (h4 : ∀ j k, j < k → k < xs.length → ∀ b c, rowB (rows.getD j []) b → rowB (rows.getD k []) c → b < c)
    (own' : Own h' base 98 8 v' (xs.length + 1) (rows ++ [r]).flatten)
    (hr' : InP h' base x r) (hold : ∀ j, j < xs.length → InP h' base (xs.getD j in0) (rows.getD j [])) (hlt : ∀ b, rowB r b → h.size ≤ b) : InsF h' base v' (xs ++ [x]) := by
  refine ⟨rows ++ [r], by simp [h1], by simpa using own', ?_, ?_⟩
  · intro j hj
    rcases Nat.lt_or_ge j xs.length with hji | hji
    · have e1 : (rows ++ [r]).getD j [] = rows.getD j [] := by simp [List.getElem?_append_left (by omega : j < rows.length)]
      have e2 : (xs ++ [x]).getD j in0 = xs.getD j in0 := by simp [List.getElem?_append_left hji]
      rw [e1, e2]; exact hold j hji
    · have hje : j = xs.length := by simp at hj; omega
      subst hje
      have e1 : (rows ++ [r]).getD xs.length [] = r := by simp [← h1]
      have e2 : (xs ++ [x]).getD xs.length in0 = x := by simp
      rw [e1, e2]; exact hr'
  · intro j k hjk hk b c hb hc
    have hj' : j < xs.length := by simp at hk; omega
    have e1 : (rows ++ [r]).getD j [] = rows.getD j [] := by simp [List.getElem?_append_left (by omega : j < rows.length)]
    rw [e1] at hb
    rcases Nat.lt_or_ge k xs.length with hki | hki
    · have e2 : (rows ++ [r]).getD k [] = rows.getD k [] := by simp [List.getElem?_append_left (by omega : k < rows.length)]
      rw [e2] at hc
      exact h4 j k hjk hki b c hb hc
    · have hke : k = xs.length := by simp at hk; omega
      subst hke
      have e2 : (rows ++ [r]).getD xs.length [] = r := by simp [← h1]
      rw [e2] at hc
      have := ((h3 j hj').lt hb).2
      have := hlt c hc
      omega
theorem blk_ty {h : Heap} {b : Nat} {cs cs' : Array Value} {t t' : TypeId} {fz fz' : Nat × Nat} (h1 : h[b]? = some (.cells cs t fz)) (h2 : h[b]? = some (.cells cs' t' fz')) : t = t' := by
  rw [h1] at h2
  simp only [Option.some.injEq, Obj.cells.injEq] at h2
  exact h2.2.1
theorem Own.cells {h : Heap} {base : Nat} {e : TypeId} {size n k : Nat} {v : Value} {xs : List Value} (H : Own h base e size v n xs) (hk : v.ownBlock = some k) : ∃ cs fz, h[k]? = some (.cells cs e fz) := by
  rcases H.2 with ⟨rfl, _⟩ | ⟨g, cap, cur, fz, rfl, _, hg, _⟩
  · simp [Value.ownBlock] at hk
  · simp [Value.ownBlock] at hk
    subst hk
    exact ⟨_, _, hg⟩
theorem InsF.rd {h h' : Heap} {base g : Nat} {v : Value} {xs : List In} {l : List UInt8} {s : RS} (H : InsF h base v xs) (f : Fr (fun k => k = g) h h') (R : Rdr h g l s) : InsF h' base v xs := by
  obtain ⟨rows, h1, h2, h3, h4⟩ := H
  refine ⟨rows, h1, h2.fr f ?_, fun j hj => (h3 j hj).fr f ?_, h4⟩
  · intro k hk hs; subst hs; exact Own_ne h2 R.1 (by decide) hk
  · intro b hb hs; subst hs
    have := (h3 j hj).int hb R.1
    exact absurd this (by decide)
theorem InsF.at {h : Heap} {base : Nat} {v : Value} {l : List In} (H : InsF h base v l) {i : Nat} (hi : i < l.length) : ∃ b o c vk vt, v = .slice (some ⟨b, o, none⟩) l.length c ∧ Rd h b (o + i * 8) (InV (l.getD i in0) vk vt) ∧
    Own h base 3 1 vk (l.getD i in0).keys.length (intsV (l.getD i in0).keys) ∧ Own h base 3 1 vt (l.getD i in0).tgts.length (intsV (l.getD i in0).tgts) := by
  obtain ⟨rows, h1, h2, h3, _⟩ := H
  obtain ⟨b, o, c, e1, e2, e3⟩ := h2.slN.at hi
  have hall : ∀ r ∈ rows, r.length = 8 := by
    intro r hr
    obtain ⟨j, hj, rfl⟩ := List.mem_iff_getElem.1 hr
    have := (h3 j (by omega)).inc.len
    simpa [hj] using this
  rw [flatten_atW 8 rows i hall (by omega)] at e2
  obtain ⟨vk, vt, q1, q2, q3, q4⟩ := h3 i hi
  rw [q1] at e2
  exact ⟨b, o, c, vk, vt, e1, e2, q2, q3⟩
structure DecS (h hc : Heap) (g bd gb : Nat) (l : List UInt8) (ats : List Int) (sv : Value) (xs : List In) (s : RS) : Prop where
  x : Ext h hc
  r : Rdr hc g l s
  b : hc[bd]? = some (.cells #[.pointer (some ⟨g, 0, none⟩)] 110 (0, 0))
  k : hc[gb]? = some (.cells (begV l.length ats).toArray 4 (0, 0))
  f : InsF hc h.size sv xs
  g0 : h.size ≤ g
section
variable {h h1 h2 : Heap} {g bd gb : Nat} {l : List UInt8} {ats : List Int} {sv : Value} {xs : List In} {s s' : RS}
theorem DecS.step (H : DecS h h1 g bd gb l ats sv xs s) (f : Fr (fun k => k = g) h1 h2) (r : Rdr h2 g l s') : DecS h h2 g bd gb l ats sv xs s' := by
  have hg := H.g0
  refine ⟨Fr.trans H.x f (fun _ _ h => h) (fun k hk hs => by omega), r, Fr_blk f H.b ?_, Fr_blk f H.k ?_, H.f.rd f H.r, hg⟩
  · intro e; have k1 := H.r.1; rw [← e] at k1; exact absurd (blk_ty H.b k1) (by decide)
  · intro e; have k1 := H.r.1; rw [← e] at k1; exact absurd (blk_ty H.k k1) (by decide)
theorem DecS.ext (H : DecS h h1 g bd gb l ats sv xs s) (e : Ext h1 h2) : DecS h h2 g bd gb l ats sv xs s := ⟨H.x.trans e, H.r.fr e id, Fr_blk e H.b id, Fr_blk e H.k id, H.f.ext e, H.g0⟩
end
theorem opsD_at (x : In) (a f : Nat) (l : List UInt8) (s : RS) : (opsD x a f l s).1.at' = x.at' := by
  have hi : ∀ (c : Prop) [Decidable c] (y z : In × RS), y.1.at' = x.at' → z.1.at' = x.at' → (if c then y else z).1.at' = x.at' := by
    intro c _ y z hy hz
    split <;> assumption
  unfold opsD
  simp only
  refine hi _ _ _ rfl (hi _ _ _ rfl (hi _ _ _ rfl (hi _ _ _ rfl (hi _ _ _ rfl (hi _ _ _ rfl (hi _ _ _ rfl (hi _ _ _ rfl (hi _ _ _ rfl (hi _ _ _ ?_ (hi _ _ _ rfl (hi _ _ _ rfl (hi _ _ _ rfl rfl))))))))))))
  unfold choD
  simp only
  exact hi _ _ _ (hi _ _ _ rfl rfl) (hi _ _ _ rfl rfl)
theorem oneD_at (l : List UInt8) (s : RS) : (oneD l s).1.at' = (s.p : Int) := by
  unfold oneD
  simp only
  split
  · split
    · rfl
    · rw [opsD_at]; rfl
  · rw [opsD_at]; rfl
theorem allD_end {l : List UInt8} {k : Nat} {xs : List In} {s : RS} (h : ¬ (s.p < l.length ∧ s.e = 0)) : allD l k xs s = (xs, s) := by
  cases k with
  | zero => rfl
  | succ k => rw [allD, if_neg h]
set_option maxHeartbeats 8000000 in
theorem decode_any (l : List UInt8) (h : Heap) (hl : l.length ≤ 1073741824) :
    HCalls Tryz.prog 55 #[str l] h fun v h' => Ext h h' ∧ ∃ sv, v = .tuple #[sv, .int .i64 ((decD l).2.1 : Int), .int .i64 ((decD l).2.2 : Int)] ∧ InsF h' h.size sv (decD l).1 := by
  refine C.code_Decode_calls (args := [str l]) rfl ?_
  generalize hY : decD l = Y
  unfold decD at hY
  by_cases hlen : l.length = 0 ∨ 65535 < l.length
  · rw [if_pos hlen] at hY
    subst hY
    by_cases h0 : l = []
    · simp only [C.code_Decode_gos, T.tv, seval, eq_true h0]
      exact ⟨Ext.refl _, _, rfl, InsF.nil⟩
    · have h1 : (65535 : Int) < l.length := by
        have : l.length ≠ 0 := fun hh => h0 (List.eq_nil_of_length_eq_zero hh)
        omega
      simp only [C.code_Decode_gos, T.tv, seval, eq_false h0, h1]
      exact ⟨Ext.refl _, _, rfl, InsF.nil⟩
  rw [if_neg hlen] at hY
  have h0 : ¬ l = [] := by intro hh; rw [hh] at hlen; simp at hlen
  have h1 : ¬ (65535 : Int) < l.length := by omega
  simp only [C.code_Decode_gos, T.tv, seval, eq_false h0, h1]
  refine eff_callF rfl ((newReader_any l h).mono ?_)
  intro v2 h2 hp2
  have x2 := hp2.1
  have hv2 := hp2.2.1
  have r2 := hp2.2.2.1
  have hlt2 := hp2.2.2.2
  clear hp2
  obtain ⟨g, hg⟩ : ∃ g, g = h.size := ⟨_, rfl⟩
  rw [← hg] at hv2 r2
  have hgh : h.size ≤ g := by omega
  have hg2 : g < h2.size := by omega
  clear hlt2
  simp only [T.tv, hv2, seval]
  refine eff_alloc_z T.zr_110 ?_
  simp only [T.tv, seval]
  refine eff_store_new_z T.zr_110 rfl rfl rfl (by simp [Value.cells, oneCell]) rfl ?_
  intro h3 x3 hlt3 hrd3 b3
  change h3[h2.size]? = some (.cells #[.pointer (some ⟨g, 0, none⟩)] 110 (0, 0)) at b3
  have X3 := x2.trans x3
  have r3 := r2.fr x3 id
  have hbd : h.size ≤ h2.size := x2.size
  have hgb : h2.size ≠ g := by omega
  clear hrd3
  generalize h2.size = bd at *
  simp only [C.code_Decode_gos, T.tv, seval]
  refine eff_make T.slT_103 rfl rfl (by omega) (by omega) (by omega) ?_
  intro cs z ii hii hzz hcs
  have hz1 : z.cells = #[.bool false] := by
    obtain ⟨ii', z', w1, w2, w3, _⟩ := zr_spec T.zr_4
    rw [hii] at w1; cases w1
    rw [hzz] at w2; cases w2
    exact w3
  rw [hz1, show ((l.length : Nat) : Int).toNat * 1 = l.length by omega, begV_zero] at hcs
  subst hcs
  have X4 := X3.trans (Ext.push h3 (.cells (begV l.length []).toArray 4))
  have r4 := r3.fr (Ext.push h3 (.cells (begV l.length []).toArray 4)) id
  have b4 := push_blk (o' := .cells (begV l.length []).toArray 4) b3
  have k4 : (h3.push (.cells (begV l.length []).toArray 4))[h3.size]? = some (.cells (begV l.length []).toArray 4 (0, 0)) := by simp
  have hgs : h.size ≤ h3.size := X3.size
  generalize h3.push (.cells (begV l.length []).toArray 4) = h4 at *
  generalize h3.size = gb at *
  simp only [C.code_Decode_gos, T.tv, seval]
  clear X3 r3 b3 r2 x2 x3 hlt3
  refine loop_intro [0, 5, 6, 7] (fun m ρ hc => ∃ (xs : List In) (s : RS) (sv : Value) (rows : List (List Value)), xs.length + m ≤ l.length ∧ (s.e = 0 → l.length - s.p ≤ m) ∧ ρ = [(0, str l), (5, .pointer (some ⟨bd, 0, none⟩)), (6, .slice (some ⟨gb, 0, none⟩) l.length l.length), (7, sv)] ∧
      Ext h hc ∧ Rdr hc g l s ∧ hc[bd]? = some (.cells #[.pointer (some ⟨g, 0, none⟩)] 110 (0, 0)) ∧ hc[gb]? = some (.cells (begV l.length (xs.map In.at')).toArray 4 (0, 0)) ∧
      rows.length = xs.length ∧ Own hc h.size 98 8 sv xs.length rows.flatten ∧ (∀ j, j < xs.length → InP hc h.size (xs.getD j in0) (rows.getD j [])) ∧ (∀ j k, j < k → k < xs.length → ∀ b c, rowB (rows.getD j []) b → rowB (rows.getD k []) c → b < c) ∧
      (∀ x ∈ xs, ∃ a : Nat, x.at' = (a : Int) ∧ a ≤ l.length) ∧ endD l (allD l m xs s) = Y) ?_ ?_
  · simp only [T.tv, seval]
    exact ⟨l.length, [], ⟨0, 0, 0⟩, _, [], by simp, by simp, rfl, X4, r4, b4, k4, rfl, Own.nil, fun j hj => by simp at hj, fun j k _ hk => by simp at hk, by simp, hY⟩
  clear X4 r4 b4 k4 hY
  rintro m ρ hc ⟨xs, s, sv, rows, hm1, hm2, rfl, X, R, B, KB, hr1, own, hr3, hr4, hats, hY⟩
  have cb : cellAt hc ⟨bd, 0, none⟩ = some (.pointer (some ⟨g, 0, none⟩)) := by rw [cellAt_of B]; rfl
  have hld : ld Tryz.prog 110 ⟨bd, 0, none⟩ hc = some (.agg #[.pointer (some ⟨g, 0, none⟩)]) := ld_agg T.ag_110 (Rd_block (vs := [.pointer (some ⟨g, 0, none⟩)]) B) rfl
  have hpl := R.2
  simp only [C.code_Decode_gos, T.tv, seval, cb]
  refine eff_callF rfl ((left_any hl R).mono ?_)
  intro v5 h5 hp5
  have e5 := hp5.1
  subst e5
  have hv5 := hp5.2
  clear hp5
  by_cases hmore : s.p < l.length ∧ s.e = 0
  case neg =>
    rw [allD_end hmore] at hY
    have S0 : DecS h h5 g bd gb l (xs.map In.at') sv xs s := ⟨X, R, B, KB, ⟨rows, hr1, own, hr3, hr4⟩, hgh⟩
    obtain ⟨sa, sc, rfl, _⟩ := own.slN.2
    have hxl := Own_le own
    unfold endD at hY
    simp only at hY
    generalize hF : chkD l.length (xs.map In.at') xs s = F at *
    by_cases hp : s.p < l.length
    case' pos =>
      have hlt' : (0 : Int) < ((l.length - s.p : Nat) : Int) := by omega
      have he : (s.e ≠ 0) = True := eq_true (fun hh => hmore ⟨hp, hh⟩)
      simp only [T.tv, hv5, seval, cb, hlt']
      refine eff_callF rfl ((bad_any R).mono ?_)
      intro v6 h6 hp6
      have e6 := hp6.1
      subst e6
      have hv6 := hp6.2
      simp only [he, decide_true] at hv6
      clear hp6
      simp only [C.code_Decode_gos, T.tv, seval, hv6]
    case' neg =>
      have hlt' : ¬ (0 : Int) < ((l.length - s.p : Nat) : Int) := by omega
      simp only [C.code_Decode_gos, T.tv, seval, hv5, hlt']
    all_goals
      refine loop_intro [0, 5, 6, 7, 47, 48, 49] (fun m ρ hc => ∃ (i : Nat) (s1 : RS), m = xs.length - i ∧ i ≤ xs.length ∧ ρ = [(0, str l), (5, .pointer (some ⟨bd, 0, none⟩)), (6, .slice (some ⟨gb, 0, none⟩) l.length l.length), (7, .slice sa xs.length sc), (47, .slice sa xs.length sc), (48, .int .i64 xs.length), (49, .int .i64 i)] ∧
        DecS h hc g bd gb l (xs.map In.at') (.slice sa xs.length sc) xs s1 ∧ chkD l.length (xs.map In.at') (xs.drop i) s1 = F) ?_ ?_
      · simp only [T.tv, seval]
        exact ⟨_, 0, s, rfl, Nat.zero_le _, rfl, S0, hF⟩
      clear S0 hF X R B KB own hr3 hr4 cb hld hr1
      rintro m ρ hc ⟨i, s1, rfl, hi, rfl, S1, hF⟩
      have cb : cellAt hc ⟨bd, 0, none⟩ = some (.pointer (some ⟨g, 0, none⟩)) := by rw [cellAt_of S1.b]; rfl
      rcases Nat.lt_or_ge i xs.length with hlt | hge
      case inr =>
        have hlt' : ¬ (i : Int) < xs.length := by omega
        have hd : xs.drop i = [] := by rw [List.drop_eq_nil_iff]; omega
        rw [hd, chkD] at hF
        subst hF
        simp only [C.code_Decode_gos, T.tv, seval, hlt', cb]
        refine eff_callF rfl ((err_any S1.r).mono ?_)
        intro v7 h7 hp7
        have e7 := hp7.1
        subst e7
        have hv7 := hp7.2
        clear hp7
        by_cases he : s1.e = 0
        · have he' : (s1.e : Int) = 0 := by omega
          rw [if_neg (by simp [he])] at hY
          subst hY
          simp only [C.code_Decode_gos, T.tv, seval, hv7, eq_true he']
          exact ⟨S1.x, _, rfl, S1.f⟩
        · have he' : ¬ (s1.e : Int) = 0 := by omega
          rw [if_pos (by simpa using he)] at hY
          subst hY
          simp only [C.code_Decode_gos, T.tv, seval, hv7, eq_false he']
          exact ⟨S1.x, _, rfl, InsF.nil⟩
      have hlt' : (i : Int) < xs.length := by omega
      rw [drop_getD (d := in0) hlt, chkD] at hF
      obtain ⟨rb, ro, rc, vk, vt, heq, hrd0, sk, st⟩ := S1.f.at hlt
      cases heq
      obtain ⟨a, ha, hal⟩ := hats _ (getD_mem (d := in0) hlt)
      have htl := Own_le st
      generalize xs.getD i in0 = x at *
      rw [ha, Int.toNat_natCast] at hF
      have hldx := ld_agg T.ag_98 hrd0 rfl
      obtain ⟨_, ak, kk, rfl, _⟩ := sk.slN
      obtain ⟨_, at7, kt, rfl, _⟩ := st.slN
      simp only [InV] at hldx
      simp (disch := omega) only [C.code_Decode_gos, T.tv, seval, hlt', hldx]
      refine eff_alloc_z T.zr_98 ?_
      simp only [T.tv, seval]
      refine eff_store_new_z T.zr_98 rfl rfl rfl (by simp [Value.cells, oneCell]) rfl ?_
      intro h3 x3 hlt3 hrd3 b3
      change h3[hc.size]? = some (.cells (InV x (.slice ak x.keys.length kk) (.slice at7 x.tgts.length kt)).toArray 98 (0, 0)) at b3
      have c7 : cellAt h3 ⟨hc.size, 7, none⟩ = some (.slice at7 x.tgts.length kt) := hrd3 7 _ rfl
      have S3 := S1.ext x3
      have st3 := st.ext x3
      have hqg : hc.size ≠ g := by have := S1.r.lt; omega
      clear hldx hrd0 hrd3
      generalize hc.size = q at *
      simp only [C.code_Decode_gos, T.tv, seval, c7]
      refine loop_intro [0, 5, 6, 7, 9, 47, 48, 49, 54, 55, 56] (fun m ρ hc => ∃ (j : Nat) (s2 : RS), m = x.tgts.length - j ∧ j ≤ x.tgts.length ∧
        ρ = [(0, str l), (5, .pointer (some ⟨bd, 0, none⟩)), (6, .slice (some ⟨gb, 0, none⟩) l.length l.length), (7, .slice (some ⟨rb, ro, none⟩) xs.length sc), (9, .pointer (some ⟨q, 0, none⟩)), (47, .slice (some ⟨rb, ro, none⟩) xs.length sc), (48, .int .i64 xs.length), (49, .int .i64 i), (54, .slice at7 x.tgts.length kt), (55, .int .i64 x.tgts.length), (56, .int .i64 j)] ∧
        DecS h hc g bd gb l (xs.map In.at') (.slice (some ⟨rb, ro, none⟩) xs.length sc) xs s2 ∧ hc[q]? = some (.cells (InV x (.slice ak x.keys.length kk) (.slice at7 x.tgts.length kt)).toArray 98 (0, 0)) ∧ Own hc h.size 3 1 (.slice at7 x.tgts.length kt) x.tgts.length (intsV x.tgts) ∧
        chkD l.length (xs.map In.at') (xs.drop (i + 1)) (tgtsD l.length (xs.map In.at') a (x.tgts.drop j) s2) = F) ?_ ?_
      · simp only [T.tv, seval]
        exact ⟨_, 0, s1, rfl, Nat.zero_le _, rfl, S3, b3, st3, hF⟩
      clear S3 b3 st3 hF S1 st sk c7 x3 hlt3
      rintro m ρ hc2 ⟨j, s2, rfl, hj, rfl, S4, b4, st4, hF⟩
      rcases Nat.lt_or_ge j x.tgts.length with hjl | hjg
      case inr =>
        have hlt2 : ¬ (j : Int) < x.tgts.length := by omega
        have hd : x.tgts.drop j = [] := by rw [List.drop_eq_nil_iff]; omega
        rw [hd, tgtsD] at hF
        simp (disch := omega) only [C.code_Decode_gos, T.tv, seval, hlt2]
        exact ⟨_, by omega, i + 1, s2, rfl, by omega, by simp, S4, hF⟩
      have hlt2 : (j : Int) < x.tgts.length := by omega
      rw [drop_getD (d := 0) hjl, tgtsD] at hF
      obtain ⟨tb, to, tc, heqt, hcs, _⟩ := st4.slN.at hjl
      cases heqt
      have t0 : cellAt hc2 ⟨tb, to + j, none⟩ = some (.int .i64 (x.tgts.getD j 0)) := by
        have := hcs 0 (.int .i64 (x.tgts.getD j 0)) (by simp [intsV, hjl])
        simpa using this
      generalize x.tgts.getD j 0 = t at *
      have cb2 : cellAt hc2 ⟨bd, 0, none⟩ = some (.pointer (some ⟨g, 0, none⟩)) := by rw [cellAt_of S4.b]; rfl
      have cq : cellAt hc2 ⟨q, 0, none⟩ = some (.int .i64 (a : Int)) := by rw [cellAt_of b4, ← ha]; rfl
      by_cases hbt : badT l.length (xs.map In.at') t = true
      case neg =>
        rw [if_neg hbt] at hF
        have hb3 : 0 ≤ t ∧ t < (l.length : Int) ∧ (xs.map In.at').contains t = true := by
          unfold badT at hbt
          simp only [Bool.not_eq_true', Bool.and_eq_false_iff, not_or, Bool.not_eq_false, decide_eq_true_eq] at hbt
          exact ⟨hbt.1.1, hbt.1.2, hbt.2⟩
        obtain ⟨tn, rfl⟩ : ∃ tn : Nat, t = (tn : Int) := ⟨t.toNat, by omega⟩
        have g1 : ¬ (tn : Int) < 0 := by omega
        have g2 : ¬ (l.length : Int) ≤ (tn : Int) := by omega
        have g3 : (tn : Int) < (l.length : Int) := hb3.2.1
        have hbc : cellAt hc2 ⟨gb, tn, none⟩ = some (.bool true) := by
          rw [cellAt_of S4.k, List.getElem?_toArray, begV_at (by omega), hb3.2.2]
        simp (disch := omega) only [C.code_Decode_gos, T.tv, seval, hlt2, t0, g1, g2, hbc]
        exact ⟨_, by omega, j + 1, s2, rfl, by omega, by simp, S4, b4, st4, hF⟩
      rw [if_pos hbt] at hF
      have hfin : ∀ (h6 : Heap), Fr (fun k => k = g) hc2 h6 ∧ Rdr h6 g l (failS 16 a s2) → DecS h h6 g bd gb l (xs.map In.at') (.slice (some ⟨rb, ro, none⟩) xs.length sc) xs (failS 16 a s2) ∧ h6[q]? = some (.cells (InV x (.slice ak x.keys.length kk) (.slice (some ⟨tb, to, none⟩) x.tgts.length kt)).toArray 98 (0, 0)) ∧ Own h6 h.size 3 1 (.slice (some ⟨tb, to, none⟩) x.tgts.length kt) x.tgts.length (intsV x.tgts) := by
        intro h6 hp6
        refine ⟨S4.step hp6.1 hp6.2, Fr_blk hp6.1 b4 hqg, st4.fr hp6.1 ?_⟩
        intro k hk hs
        subst hs
        exact Own_ne st4 S4.r.1 (by decide) hk
      by_cases g1 : t < 0
      case' pos =>
        simp (disch := omega) only [C.code_Decode_gos, T.tv, seval, hlt2, t0, g1, cb2, cq]
      case' neg =>
        by_cases g2 : (l.length : Int) ≤ t
        case' pos =>
          simp (disch := omega) only [C.code_Decode_gos, T.tv, seval, hlt2, t0, g1, g2, cb2, cq]
        case' neg =>
          obtain ⟨tn, rfl⟩ : ∃ tn : Nat, t = (tn : Int) := ⟨t.toNat, by omega⟩
          have g3 : (tn : Int) < (l.length : Int) := by omega
          have hct : (xs.map In.at').contains ((tn : Nat) : Int) = false := by
            unfold badT at hbt
            rw [decide_eq_true (by omega : 0 ≤ (tn : Int)), decide_eq_true g3] at hbt
            simpa using hbt
          have hbc : cellAt hc2 ⟨gb, tn, none⟩ = some (.bool false) := by
            rw [cellAt_of S4.k, List.getElem?_toArray, begV_at (by omega), hct]
          simp (disch := omega) only [C.code_Decode_gos, T.tv, seval, hlt2, t0, g1, g2, hbc, cb2, cq]
      all_goals
        refine eff_callF rfl ((fail_any 16 a S4.r).mono ?_)
        intro v6 h6 hp6
        obtain ⟨S6, b6, st6⟩ := hfin h6 hp6
        simp (disch := omega) only [C.code_Decode_gos, T.tv, seval]
        exact ⟨_, by omega, j + 1, _, rfl, by omega, by simp, S6, b6, st6, hF⟩
  have hlt' : (0 : Int) < ((l.length - s.p : Nat) : Int) := by omega
  have hem : (s.e ≠ 0) = False := eq_false (by simp [hmore.2])
  simp only [T.tv, hv5, seval, cb, hlt']
  refine eff_callF rfl ((bad_any R).mono ?_)
  intro v6 h6 hp6
  have e6 := hp6.1
  subst e6
  have hv6 := hp6.2
  simp only [hem, decide_false] at hv6
  clear hp6
  simp only [C.code_Decode_gos, T.tv, seval, hv6, cb]
  refine eff_callF rfl ((at_any R).mono ?_)
  intro v7 h7 hp7
  have e7 := hp7.1
  subst e7
  have hv7 := hp7.2
  clear hp7
  have hpi : (s.p : Int) < (l.length : Int) := by omega
  have hbc : cellAt h7 ⟨gb, s.p, none⟩ = some (.bool ((xs.map In.at').contains ((s.p : Nat) : Int))) := by
    rw [cellAt_of KB, List.getElem?_toArray]
    exact begV_at hmore.1 _
  simp (disch := omega) only [T.tv, hv7, seval]
  refine eff_store1_z T.zr_4 rfl rfl rfl rfl rfl hbc (by simp [frozenAt, KB]) ?_
  have f8 : Fr (fun k => k = gb) h7 (setAt h7 ⟨gb, s.p, none⟩ (.bool true)) := Fr.set (S := fun k => k = gb) _ _ _ fun _ => rfl
  have KB8 := setAt_get (o := s.p) KB (.bool true)
  rw [begV_set] at KB8
  have hgbg : gb ≠ g := by intro e; have k1 := R.1; rw [← e] at k1; exact absurd (blk_ty KB k1) (by decide)
  have hbg : bd ≠ gb := by intro e; rw [e] at B; exact absurd (blk_ty KB B) (by decide)
  have R8 := R.fr f8 (Ne.symm hgbg)
  have B8 := Fr_blk f8 B hbg
  have X8 : Ext h (setAt h7 ⟨gb, s.p, none⟩ (.bool true)) := Fr.trans X f8 (fun _ _ h => h) (fun k hk hs => by omega)
  have own8 := own.fr f8 (fun k hk hS => by subst hS; exact Own_ne own KB (by decide) hk)
  have hr8 : ∀ j, j < xs.length → InP (setAt h7 ⟨gb, s.p, none⟩ (.bool true)) h.size (xs.getD j in0) (rows.getD j []) := fun j hj => (hr3 j hj).fr f8 (fun b hb hs => by subst hs; exact absurd ((hr3 j hj).int hb KB) (by decide))
  generalize setAt h7 ⟨gb, s.p, none⟩ (.bool true) = h8 at *
  clear f8 hbc KB X own hr3 cb hld B R
  have hld : ld Tryz.prog 110 ⟨bd, 0, none⟩ h8 = some (.agg #[.pointer (some ⟨g, 0, none⟩)]) := ld_agg T.ag_110 (Rd_block (vs := [.pointer (some ⟨g, 0, none⟩)]) B8) rfl
  simp only [C.code_Decode_gos, T.tv, seval, hld]
  refine eff_callF rfl ((done_any hl R8).mono ?_)
  intro v9 h9 hp9
  have f9 := hp9.1
  have R9 := hp9.2.1
  obtain ⟨vk, vt, hv9, ok9, ot9, dj9⟩ := hp9.2.2
  clear hp9
  obtain ⟨m', rfl⟩ : ∃ m', m = m' + 1 := ⟨m - 1, by have := hm2 hmore.2; omega⟩
  rw [allD, if_pos hmore] at hY
  have hxa := oneD_at l s
  have hok := ok_one l s hpl
  generalize oneD l s = O at *
  obtain ⟨x, s9⟩ := O
  simp only at hY R9 hv9 ok9 ot9 hxa hok
  have hgd : g ≠ bd ∧ g ≠ gb := ⟨(by intro e; have k1 := R8.1; rw [e] at k1; exact absurd (blk_ty B8 k1) (by decide)), (by intro e; exact hgbg e.symm)⟩
  have B9 := Fr_blk f9 B8 (Ne.symm hgd.1)
  have KB9 := Fr_blk f9 KB8 (Ne.symm hgd.2)
  have X9 : Ext h h9 := Fr.trans X8 f9 (fun _ _ h => h) (fun k hk hs => by omega)
  have own9 := own8.fr f9 (fun k hk hS => by subst hS; exact Own_ne own8 R8.1 (by decide) hk)
  have hr9 : ∀ j, j < xs.length → InP h9 h.size (xs.getD j in0) (rows.getD j []) := fun j hj => (hr8 j hj).fr f9 (fun b hb hs => by subst hs; exact absurd ((hr8 j hj).int hb R8.1) (by decide))
  have hsz8 : h.size ≤ h8.size := X8.size
  simp only [InV] at hv9
  simp only [T.tv, hv9]
  refine eff_lits T.slT_91 rfl rfl (by decide) ?_
  simp only [T.tv, seval]
  have one9 : ∀ u ∈ InV x vk vt, oneCell u = true := by
    intro u hu
    obtain ⟨_, ak, kk, rfl, _⟩ := ok9.slN
    obtain ⟨_, at7, kt, rfl, _⟩ := ot9.slN
    simp [InV] at hu
    rcases hu with rfl | rfl | rfl | rfl | rfl | rfl | rfl | rfl <;> rfl
  refine eff_append_own (m := 1) T.slT_91 rfl rfl (own9.push _) rfl (Rd_new (vs := InV x vk vt)) one9 (by omega) (by omega) (by have := X9.size; simp; omega) ?_
  intro v10 h10 own10 fr10 _
  have o' : Obj := .cells (InV x vk vt).toArray 98
  have R9p := R9.fr (Ext.push h9 (.cells (InV x vk vt).toArray 98)) id
  have B9p := push_blk (o' := .cells (InV x vk vt).toArray 98) B9
  have KB9p := push_blk (o' := .cells (InV x vk vt).toArray 98) KB9
  have ownp := own9.push (.cells (InV x vk vt).toArray 98)
  have R10 := R9p.fr fr10 (Own_ne ownp R9p.1 (by decide))
  have B10 := Fr_blk fr10 B9p (Own_ne ownp B9p (by decide))
  have KB10 := Fr_blk fr10 KB9p (Own_ne ownp KB9p (by decide))
  have X10 : Ext h h10 := Ext.app (X9.trans (Ext.push _ _)) fr10 (fun k hk => (own9.lt k hk).1)
  have hrow : ∀ (y : In) (r : List Value) (hh : InP h9 h.size y r), InP h10 h.size y r := by
    intro y r hh
    have h1 := hh.fr (Ext.push h9 (.cells (InV x vk vt).toArray 98)) (fun _ _ => id)
    refine h1.fr fr10 (fun b hb hs => ?_)
    obtain ⟨cs, fz, hc⟩ := Own.cells ownp hs
    exact absurd (h1.int hb hc) (by decide)
  have hnew : InP h9 h.size x (InV x vk vt) := ⟨vk, vt, rfl, ok9.mono hsz8, ot9.mono hsz8, dj9⟩
  have hnlt : ∀ b, rowB (InV x vk vt) b → h8.size ≤ b := by
    intro b hb
    rcases hb with hb | hb
    · exact (ok9.lt b hb).1
    · exact (ot9.lt b hb).1
  have own11 : Own h10 h.size 98 8 v10 (xs.length + 1) (rows ++ [InV x vk vt]).flatten := by
    rw [List.flatten_append]; simpa using own10
  obtain ⟨rows', q1, q2, q3, q4⟩ := InsF.snoc (h := h8) (x := x) hr1 hr8 hr4 own11 (hrow _ _ hnew) (fun j hj => hrow _ _ (hr9 j hj)) hnlt
  rw [List.length_append, List.length_singleton] at q1
  have e10 : (xs ++ [x]).length = xs.length + 1 := by simp
  rw [e10] at q2
  have KB11 : h10[gb]? = some (.cells (begV l.length ((xs ++ [x]).map In.at')).toArray 4 (0, 0)) := by
    rw [KB10, List.map_append, List.map_singleton, hxa]
  simp only [T.tv, seval]
  refine ⟨m', Nat.lt_succ_self _, xs ++ [x], s9, v10, rows', by rw [e10]; omega, ?_, by simp, X10, R10, B10, KB11, by rw [e10]; exact q1, by rw [e10]; exact q2, q3, q4, ?_, hY⟩
  · intro he
    have h1 := hok.2 hmore.1 hmore.2
    have h2 := hm2 hmore.2
    omega
  · intro y hy
    rcases List.mem_append.1 hy with hy | hy
    · exact hats y hy
    · rw [List.mem_singleton.1 hy, hxa]
      exact ⟨s.p, rfl, hpl⟩
end Go.Proofs.YtflocjbhcjhenaaGreatDoor
