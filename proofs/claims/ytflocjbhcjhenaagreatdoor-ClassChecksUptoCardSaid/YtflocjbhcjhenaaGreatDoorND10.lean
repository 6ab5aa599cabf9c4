/- The decoder of instructions, by the reference: one instruction. The decoder of instructions, by the reference: one instruction, whole. The decoder of instructions, by the reference: all of them. Instructions out of bytes: how long (plain). No condition. -/
import Derived.Test.YtflocjbhcjhenaaGreatDoorND8
import Derived.Test.YtflocjbhcjhenaaGreatDoorR1
set_option linter.unusedSimpArgs false
set_option linter.unusedVariables false
namespace Go.Proofs.YtflocjbhcjhenaaGreatDoor
open Go.Vc
set_option maxRecDepth 100000
def OneC (h : Heap) (g : Nat) (l : List UInt8) (r : In × RS) : Value → Heap → Prop := fun v h' => Fr (fun k => k = g) h h' ∧ Cutr h' g l r.2 ∧
  ∃ vk vt, v = .agg (InV r.1 vk vt).toArray ∧ Own h' h.size 3 1 vk r.1.keys.length (intsV r.1.keys) ∧ Own h' h.size 3 1 vt r.1.tgts.length (intsV r.1.tgts) ∧ ∀ k, vk.ownBlock = some k → ¬ vt.ownBlock = some k
structure ER' (h h' : Heap) (g q rb : Nat) (l : List UInt8) (x : In) (s : RS) : Prop where
  d : CS h h' g q l x s
  rk : h'[rb]? = some (.cells #[.int .i64 0, .int .u8 0, .bool false, .int .i64 0, .int .i64 0, .int .i64 0, .slice none 0 0, .slice none 0 0] 98 (0, 0))
  ne : rb ≠ q
  hq : h.size ≤ q
  hr : h.size ≤ rb
section
variable {h h1 h2 : Heap} {g q rb : Nat} {l : List UInt8} {x : In} {s s' : RS}
theorem ER'.rg (H : ER' h h1 g q rb l x s) : rb ≠ g := by
  intro e; subst e
  exact absurd (blk_ty H.rk H.d.rd.1) (by decide)
theorem ER'.step (H : ER' h h1 g q rb l x s) (f : Fr (fun k => k = g) h1 h2) (r : Cutr h2 g l s') : ER' h h2 g q rb l x s' := ⟨H.d.step f r, Fr_blk f H.rk H.rg, H.ne, H.hq, H.hr⟩
theorem ER'.set (H : ER' h h1 g q rb l x s) (o : Nat) (v : Value) (x' : In) (hk : x'.keys = x.keys) (ht : x'.tgts = x.tgts) (hv : ∀ vk vt, (InV x vk vt).toArray.setIfInBounds o v = (InV x' vk vt).toArray) :
    ER' h (setAt h1 ⟨q, o, none⟩ v) g q rb l x' s :=
  ⟨H.d.set o v x' hk ht hv, Fr_blk (Fr.set (S := fun k => k = q) h1 ⟨q, o, none⟩ v fun _ => rfl) H.rk H.ne, H.ne, H.hq, H.hr⟩
theorem ER'.tg1 (H : ER' h h1 g q rb l x s) (n : Int) :
    ER' h (setAt (h1.push (.cells #[.int .i64 n] 3)) ⟨q, 7, none⟩ (.slice (some ⟨h1.size, 0, none⟩) 1 1)) g q rb l { x with tgts := [n] } s :=
  ⟨H.d.tg1 n, Fr_blk (Fr.set (S := fun k => k = q) _ ⟨q, 7, none⟩ _ fun _ => rfl) (push_blk H.rk) H.ne, H.ne, H.hq, H.hr⟩
theorem ER'.more (H : ER' h h1 g q rb l x s) {x' : In} (f : Fr (fun k => k = g ∨ k = q) h1 h2) (r : Cutr h2 g l s') (xr : XR h2 h1.size q x') : ER' h h2 g q rb l x' s' :=
  ⟨⟨Fr.trans H.d.fr f (fun _ _ h => h) (fun _ _ h => h), r, xr.mono H.d.size⟩, Fr_blk f H.rk (fun hh => hh.elim H.rg H.ne), H.ne, H.hq, H.hr⟩
theorem ER'.fin (H : ER' h h1 g q rb l x s) {vk vt : Value} (hq : h1[q]? = some (.cells (InV x vk vt).toArray 98 (0, 0))) (ok : Own h1 h.size 3 1 vk x.keys.length (intsV x.keys)) (ot : Own h1 h.size 3 1 vt x.tgts.length (intsV x.tgts)) (dj : ∀ k, vk.ownBlock = some k → ¬ vt.ownBlock = some k)
    (f : Fr (fun k => k = rb) h1 h2) (hb : h2[rb]? = some (.cells (InV x vk vt).toArray 98 (0, 0))) :
    ∃ v, ld Tryz.prog 98 ⟨rb, 0, none⟩ h2 = some v ∧ OneC h g l (x, s) v h2 := by
  have h1q := H.hq
  have h1r := H.hr
  refine ⟨_, ld_agg T.ag_98 (Rd_block hb) rfl, Fr.trans H.d.fr f (fun k hk hs => by omega) (fun k hk hs => by omega), H.d.rd.fr f (Ne.symm H.rg), vk, vt, rfl, ?_, ?_, dj⟩
  · exact ok.fr f fun k hk hS => by subst hS; exact Own_ne ok H.rk (by decide) hk
  · exact ot.fr f fun k hk hS => by subst hS; exact Own_ne ot H.rk (by decide) hk
set_option maxHeartbeats 16000000 in
theorem c14_any (x : In) (a f : Nat) (hc : Heap) (sz : Nat) (u4 u17 u28 : Value) (hf : f = 1 ∨ f = 2 ∨ f = 3 ∨ f = 4 ∨ f = 5 ∨ f = 6 ∨ f = 7 ∨ f = 8 ∨ f = 9 ∨ f = 0 ∨ f = 10 ∨ f = 11 ∨ f = 12 ∨ f = 13 ∨ f = 14) (hsz : (if x.wide = true then 2 else 1) = sz) (hl : l.length ≤ 1073741824) (ha : x.at' = (a : Int)) (hal : a ≤ l.length) (hk : x.keys = []) (ht : x.tgts = [])
    (D : ER' h hc g q rb l x s) (hq : hc[q]? = some (.cells (InV x (.slice none 0 0) (.slice none 0 0)).toArray 98 (0, 0))) :
    Cd.vc Tryz.prog C.cut_one_t0 (retQ Tryz.prog [(2, some 98)] (OneC h g l (opsD x a f l s)))
      [(0, .pointer (some ⟨g, 0, none⟩)), (2, .pointer (some ⟨rb, 0, none⟩)), (3, .pointer (some ⟨q, 0, none⟩)), (4, u4), (5, str [letS f]), (6, .int .i64 sz), (17, u17), (28, u28), (36, undef), (37, undef), (43, undef), (48, undef), (53, undef), (70, undef), (75, undef), (80, undef), (86, undef), (96, undef), (105, undef), (114, undef), (134, undef), (139, undef)] hc := by
  generalize hY : opsD x a f l s = Y
  have hY0 := hY
  unfold opsD at hY
  rw [C.cut_one_t0_go]
  have fx0 := D.d.cells
  rw [ha] at fx0
  have hsz2 : sz = 1 ∨ sz = 2 := by rw [← hsz]; split <;> simp
  rw [hsz] at hY
  clear hsz
  rcases hf with rfl | rfl | rfl | rfl | rfl | rfl | rfl | rfl | rfl | rfl | rfl | rfl | rfl | rfl | rfl
  · simp only [Nat.reduceEqDiff, if_false, if_true, or_false] at hY
    rw [show [letS 1] = ([120] : List UInt8) from rfl]
    have L : ((([120] : List UInt8) = [98]) = False) ∧ ((([120] : List UInt8) = [115]) = False) ∧ ((([120] : List UInt8) = [99]) = False) ∧ ((([120] : List UInt8) = [97]) = False) ∧ ((([120] : List UInt8) = [105]) = False) ∧ ((([120] : List UInt8) = [108]) = False) ∧ ((([120] : List UInt8) = [110]) = False) ∧ ((([120] : List UInt8) = [106]) = False) ∧ ((([120] : List UInt8) = [74]) = False) ∧ ((([120] : List UInt8) = [102]) = False) ∧ ((([120] : List UInt8) = [109]) = False) ∧ ((([120] : List UInt8) = [116]) = False) ∧ ((([120] : List UInt8) = [107]) = False) := ⟨eq_false (by decide), eq_false (by decide), eq_false (by decide), eq_false (by decide), eq_false (by decide), eq_false (by decide), eq_false (by decide), eq_false (by decide), eq_false (by decide), eq_false (by decide), eq_false (by decide), eq_false (by decide), eq_false (by decide)⟩
    simp only [C.cut_one_gos, T.tv, seval, fx0]
    refine eff_callF rfl ((cfail_any 14 a D.d.rd).mono ?_)
    intro v1 h1 hp1
    have D1 := D.step hp1.1 hp1.2
    clear hp1
    have fx1 := D1.d.cells
    rw [ha] at fx1
    have D9 := D1
    subst hY
    obtain ⟨vk9, vt9, q9, ok9, ot9, dj9⟩ := id D9.d.xr
    have hld := ld_agg T.ag_98 (Rd_block q9) rfl
    simp only [InV] at hld
    simp only [C.cut_one_gos, T.tv, seval, hld]
    refine eff_storeN_z T.zr_98 rfl rfl rfl ?_ D9.rk rfl ?_
    · intro u hu
      obtain ⟨_, ak, kk, rfl, _⟩ := ok9.slN
      obtain ⟨_, at7, kt, rfl, _⟩ := ot9.slN
      simp [Value.cells] at hu
      rcases hu with rfl | rfl | rfl | rfl | rfl | rfl | rfl | rfl <;> rfl
    intro h10 f10 b10
    obtain ⟨v, hv1, hv2⟩ := D9.fin q9 ok9 ot9 dj9 f10 b10
    simp only [T.tv, hv1, seval]
    exact hv2
  · simp only [Nat.reduceEqDiff, if_false, if_true, or_false] at hY
    rw [show [letS 2] = ([98] : List UInt8) from rfl]
    have L : ((([98] : List UInt8) = [120]) = False) ∧ ((([98] : List UInt8) = [115]) = False) ∧ ((([98] : List UInt8) = [99]) = False) ∧ ((([98] : List UInt8) = [97]) = False) ∧ ((([98] : List UInt8) = [105]) = False) ∧ ((([98] : List UInt8) = [108]) = False) ∧ ((([98] : List UInt8) = [110]) = False) ∧ ((([98] : List UInt8) = [106]) = False) ∧ ((([98] : List UInt8) = [74]) = False) ∧ ((([98] : List UInt8) = [102]) = False) ∧ ((([98] : List UInt8) = [109]) = False) ∧ ((([98] : List UInt8) = [116]) = False) ∧ ((([98] : List UInt8) = [107]) = False) := ⟨eq_false (by decide), eq_false (by decide), eq_false (by decide), eq_false (by decide), eq_false (by decide), eq_false (by decide), eq_false (by decide), eq_false (by decide), eq_false (by decide), eq_false (by decide), eq_false (by decide), eq_false (by decide), eq_false (by decide)⟩
    simp only [C.cut_one_gos, T.tv, seval, L]
    refine eff_callF rfl ((csgn_any 1 (by omega) hl D.d.rd).mono ?_)
    intro v1 h1 hp1
    have D1 := D.step hp1.1 hp1.2.1
    have hv1 := hp1.2.2
    clear hp1
    have fx1 := D1.d.cells
    rw [ha] at fx1
    generalize sgnD l 1 s = T1 at *
    obtain ⟨av, s2⟩ := T1
    simp only at *
    simp only [T.tv, hv1, seval]
    refine eff_store1_z T.zr_3 rfl rfl rfl rfl rfl fx1.2.2.2.1 (D1.d.notfz 3) ?_
    have D2 := D1.set 3 (.int .i64 av) { x with A := av } rfl rfl (fun _ _ => rfl)
    generalize setAt _ ⟨q, 3, none⟩ _ = h2 at *
    have fx2 := D2.d.cells
    rw [ha] at fx2
    have D9 := D2
    subst hY
    obtain ⟨vk9, vt9, q9, ok9, ot9, dj9⟩ := id D9.d.xr
    have hld := ld_agg T.ag_98 (Rd_block q9) rfl
    simp only [InV] at hld
    simp only [C.cut_one_gos, T.tv, seval, hld]
    refine eff_storeN_z T.zr_98 rfl rfl rfl ?_ D9.rk rfl ?_
    · intro u hu
      obtain ⟨_, ak, kk, rfl, _⟩ := ok9.slN
      obtain ⟨_, at7, kt, rfl, _⟩ := ot9.slN
      simp [Value.cells] at hu
      rcases hu with rfl | rfl | rfl | rfl | rfl | rfl | rfl | rfl <;> rfl
    intro h10 f10 b10
    obtain ⟨v, hv1, hv2⟩ := D9.fin q9 ok9 ot9 dj9 f10 b10
    simp only [T.tv, hv1, seval]
    exact hv2
  · simp only [Nat.reduceEqDiff, if_false, if_true, or_false] at hY
    rw [show [letS 3] = ([115] : List UInt8) from rfl]
    have L : ((([115] : List UInt8) = [120]) = False) ∧ ((([115] : List UInt8) = [98]) = False) ∧ ((([115] : List UInt8) = [99]) = False) ∧ ((([115] : List UInt8) = [97]) = False) ∧ ((([115] : List UInt8) = [105]) = False) ∧ ((([115] : List UInt8) = [108]) = False) ∧ ((([115] : List UInt8) = [110]) = False) ∧ ((([115] : List UInt8) = [106]) = False) ∧ ((([115] : List UInt8) = [74]) = False) ∧ ((([115] : List UInt8) = [102]) = False) ∧ ((([115] : List UInt8) = [109]) = False) ∧ ((([115] : List UInt8) = [116]) = False) ∧ ((([115] : List UInt8) = [107]) = False) := ⟨eq_false (by decide), eq_false (by decide), eq_false (by decide), eq_false (by decide), eq_false (by decide), eq_false (by decide), eq_false (by decide), eq_false (by decide), eq_false (by decide), eq_false (by decide), eq_false (by decide), eq_false (by decide), eq_false (by decide)⟩
    simp only [C.cut_one_gos, T.tv, seval, L]
    refine eff_callF rfl ((csgn_any 2 (by omega) hl D.d.rd).mono ?_)
    intro v1 h1 hp1
    have D1 := D.step hp1.1 hp1.2.1
    have hv1 := hp1.2.2
    clear hp1
    have fx1 := D1.d.cells
    rw [ha] at fx1
    generalize sgnD l 2 s = T1 at *
    obtain ⟨av, s2⟩ := T1
    simp only at *
    simp only [T.tv, hv1, seval]
    refine eff_store1_z T.zr_3 rfl rfl rfl rfl rfl fx1.2.2.2.1 (D1.d.notfz 3) ?_
    have D2 := D1.set 3 (.int .i64 av) { x with A := av } rfl rfl (fun _ _ => rfl)
    generalize setAt _ ⟨q, 3, none⟩ _ = h2 at *
    have fx2 := D2.d.cells
    rw [ha] at fx2
    have D9 := D2
    subst hY
    obtain ⟨vk9, vt9, q9, ok9, ot9, dj9⟩ := id D9.d.xr
    have hld := ld_agg T.ag_98 (Rd_block q9) rfl
    simp only [InV] at hld
    simp only [C.cut_one_gos, T.tv, seval, hld]
    refine eff_storeN_z T.zr_98 rfl rfl rfl ?_ D9.rk rfl ?_
    · intro u hu
      obtain ⟨_, ak, kk, rfl, _⟩ := ok9.slN
      obtain ⟨_, at7, kt, rfl, _⟩ := ot9.slN
      simp [Value.cells] at hu
      rcases hu with rfl | rfl | rfl | rfl | rfl | rfl | rfl | rfl <;> rfl
    intro h10 f10 b10
    obtain ⟨v, hv1, hv2⟩ := D9.fin q9 ok9 ot9 dj9 f10 b10
    simp only [T.tv, hv1, seval]
    exact hv2
  · simp only [Nat.reduceEqDiff, if_false, if_true, or_false] at hY
    rw [show [letS 4] = ([99] : List UInt8) from rfl]
    have L : ((([99] : List UInt8) = [120]) = False) ∧ ((([99] : List UInt8) = [98]) = False) ∧ ((([99] : List UInt8) = [115]) = False) ∧ ((([99] : List UInt8) = [97]) = False) ∧ ((([99] : List UInt8) = [105]) = False) ∧ ((([99] : List UInt8) = [108]) = False) ∧ ((([99] : List UInt8) = [110]) = False) ∧ ((([99] : List UInt8) = [106]) = False) ∧ ((([99] : List UInt8) = [74]) = False) ∧ ((([99] : List UInt8) = [102]) = False) ∧ ((([99] : List UInt8) = [109]) = False) ∧ ((([99] : List UInt8) = [116]) = False) ∧ ((([99] : List UInt8) = [107]) = False) := ⟨eq_false (by decide), eq_false (by decide), eq_false (by decide), eq_false (by decide), eq_false (by decide), eq_false (by decide), eq_false (by decide), eq_false (by decide), eq_false (by decide), eq_false (by decide), eq_false (by decide), eq_false (by decide), eq_false (by decide)⟩
    simp only [C.cut_one_gos, T.tv, seval, L]
    refine eff_callF rfl ((cnum_any 1 hl (by omega) D.d.rd).mono ?_)
    intro v1 h1 hp1
    have D1 := D.step hp1.1 hp1.2.1
    have hv1 := hp1.2.2
    clear hp1
    have fx1 := D1.d.cells
    rw [ha] at fx1
    generalize numS l 1 s = T1 at *
    obtain ⟨av, s2⟩ := T1
    simp only at *
    simp only [T.tv, hv1, seval]
    refine eff_store1_z T.zr_3 rfl rfl rfl rfl rfl fx1.2.2.2.1 (D1.d.notfz 3) ?_
    have D2 := D1.set 3 (.int .i64 av) { x with A := av } rfl rfl (fun _ _ => rfl)
    generalize setAt _ ⟨q, 3, none⟩ _ = h2 at *
    have fx2 := D2.d.cells
    rw [ha] at fx2
    have D9 := D2
    subst hY
    obtain ⟨vk9, vt9, q9, ok9, ot9, dj9⟩ := id D9.d.xr
    have hld := ld_agg T.ag_98 (Rd_block q9) rfl
    simp only [InV] at hld
    simp only [C.cut_one_gos, T.tv, seval, L, hld]
    refine eff_storeN_z T.zr_98 rfl rfl rfl ?_ D9.rk rfl ?_
    · intro u hu
      obtain ⟨_, ak, kk, rfl, _⟩ := ok9.slN
      obtain ⟨_, at7, kt, rfl, _⟩ := ot9.slN
      simp [Value.cells] at hu
      rcases hu with rfl | rfl | rfl | rfl | rfl | rfl | rfl | rfl <;> rfl
    intro h10 f10 b10
    obtain ⟨v, hv1, hv2⟩ := D9.fin q9 ok9 ot9 dj9 f10 b10
    simp only [T.tv, hv1, seval]
    exact hv2
  · simp only [Nat.reduceEqDiff, if_false, if_true, or_false] at hY
    rw [show [letS 5] = ([105] : List UInt8) from rfl]
    have L : ((([105] : List UInt8) = [120]) = False) ∧ ((([105] : List UInt8) = [98]) = False) ∧ ((([105] : List UInt8) = [115]) = False) ∧ ((([105] : List UInt8) = [99]) = False) ∧ ((([105] : List UInt8) = [97]) = False) ∧ ((([105] : List UInt8) = [108]) = False) ∧ ((([105] : List UInt8) = [110]) = False) ∧ ((([105] : List UInt8) = [106]) = False) ∧ ((([105] : List UInt8) = [74]) = False) ∧ ((([105] : List UInt8) = [102]) = False) ∧ ((([105] : List UInt8) = [109]) = False) ∧ ((([105] : List UInt8) = [116]) = False) ∧ ((([105] : List UInt8) = [107]) = False) := ⟨eq_false (by decide), eq_false (by decide), eq_false (by decide), eq_false (by decide), eq_false (by decide), eq_false (by decide), eq_false (by decide), eq_false (by decide), eq_false (by decide), eq_false (by decide), eq_false (by decide), eq_false (by decide), eq_false (by decide)⟩
    simp only [C.cut_one_gos, T.tv, seval, L]
    refine eff_callF rfl ((cnum_any 2 hl (by omega) D.d.rd).mono ?_)
    intro v1 h1 hp1
    have D1 := D.step hp1.1 hp1.2.1
    have hv1 := hp1.2.2
    clear hp1
    have fx1 := D1.d.cells
    rw [ha] at fx1
    generalize numS l 2 s = T1 at *
    obtain ⟨av, s2⟩ := T1
    simp only at *
    simp only [T.tv, hv1, seval]
    refine eff_store1_z T.zr_3 rfl rfl rfl rfl rfl fx1.2.2.2.1 (D1.d.notfz 3) ?_
    have D2 := D1.set 3 (.int .i64 av) { x with A := av } rfl rfl (fun _ _ => rfl)
    generalize setAt _ ⟨q, 3, none⟩ _ = h2 at *
    have fx2 := D2.d.cells
    rw [ha] at fx2
    have D9 := D2
    subst hY
    obtain ⟨vk9, vt9, q9, ok9, ot9, dj9⟩ := id D9.d.xr
    have hld := ld_agg T.ag_98 (Rd_block q9) rfl
    simp only [InV] at hld
    simp only [C.cut_one_gos, T.tv, seval, hld]
    refine eff_storeN_z T.zr_98 rfl rfl rfl ?_ D9.rk rfl ?_
    · intro u hu
      obtain ⟨_, ak, kk, rfl, _⟩ := ok9.slN
      obtain ⟨_, at7, kt, rfl, _⟩ := ot9.slN
      simp [Value.cells] at hu
      rcases hu with rfl | rfl | rfl | rfl | rfl | rfl | rfl | rfl <;> rfl
    intro h10 f10 b10
    obtain ⟨v, hv1, hv2⟩ := D9.fin q9 ok9 ot9 dj9 f10 b10
    simp only [T.tv, hv1, seval]
    exact hv2
  · simp only [Nat.reduceEqDiff, if_false, if_true, or_false] at hY
    rw [show [letS 6] = ([108] : List UInt8) from rfl]
    have L : ((([108] : List UInt8) = [120]) = False) ∧ ((([108] : List UInt8) = [98]) = False) ∧ ((([108] : List UInt8) = [115]) = False) ∧ ((([108] : List UInt8) = [99]) = False) ∧ ((([108] : List UInt8) = [97]) = False) ∧ ((([108] : List UInt8) = [105]) = False) ∧ ((([108] : List UInt8) = [110]) = False) ∧ ((([108] : List UInt8) = [106]) = False) ∧ ((([108] : List UInt8) = [74]) = False) ∧ ((([108] : List UInt8) = [102]) = False) ∧ ((([108] : List UInt8) = [109]) = False) ∧ ((([108] : List UInt8) = [116]) = False) ∧ ((([108] : List UInt8) = [107]) = False) := ⟨eq_false (by decide), eq_false (by decide), eq_false (by decide), eq_false (by decide), eq_false (by decide), eq_false (by decide), eq_false (by decide), eq_false (by decide), eq_false (by decide), eq_false (by decide), eq_false (by decide), eq_false (by decide), eq_false (by decide)⟩
    simp only [C.cut_one_gos, T.tv, seval, L]
    refine eff_callF rfl ((cnum_any sz hl (by omega) D.d.rd).mono ?_)
    intro v1 h1 hp1
    have D1 := D.step hp1.1 hp1.2.1
    have hv1 := hp1.2.2
    clear hp1
    have fx1 := D1.d.cells
    rw [ha] at fx1
    generalize numS l sz s = T1 at *
    obtain ⟨av, s2⟩ := T1
    simp only at *
    simp only [T.tv, hv1, seval]
    refine eff_store1_z T.zr_3 rfl rfl rfl rfl rfl fx1.2.2.2.1 (D1.d.notfz 3) ?_
    have D2 := D1.set 3 (.int .i64 av) { x with A := av } rfl rfl (fun _ _ => rfl)
    generalize setAt _ ⟨q, 3, none⟩ _ = h2 at *
    have fx2 := D2.d.cells
    rw [ha] at fx2
    have D9 := D2
    subst hY
    obtain ⟨vk9, vt9, q9, ok9, ot9, dj9⟩ := id D9.d.xr
    have hld := ld_agg T.ag_98 (Rd_block q9) rfl
    simp only [InV] at hld
    simp only [C.cut_one_gos, T.tv, seval, hld]
    refine eff_storeN_z T.zr_98 rfl rfl rfl ?_ D9.rk rfl ?_
    · intro u hu
      obtain ⟨_, ak, kk, rfl, _⟩ := ok9.slN
      obtain ⟨_, at7, kt, rfl, _⟩ := ot9.slN
      simp [Value.cells] at hu
      rcases hu with rfl | rfl | rfl | rfl | rfl | rfl | rfl | rfl <;> rfl
    intro h10 f10 b10
    obtain ⟨v, hv1, hv2⟩ := D9.fin q9 ok9 ot9 dj9 f10 b10
    simp only [T.tv, hv1, seval]
    exact hv2
  · simp only [Nat.reduceEqDiff, if_false, if_true, or_false] at hY
    rw [show [letS 7] = ([110] : List UInt8) from rfl]
    have L : ((([110] : List UInt8) = [120]) = False) ∧ ((([110] : List UInt8) = [98]) = False) ∧ ((([110] : List UInt8) = [115]) = False) ∧ ((([110] : List UInt8) = [99]) = False) ∧ ((([110] : List UInt8) = [97]) = False) ∧ ((([110] : List UInt8) = [105]) = False) ∧ ((([110] : List UInt8) = [108]) = False) ∧ ((([110] : List UInt8) = [106]) = False) ∧ ((([110] : List UInt8) = [74]) = False) ∧ ((([110] : List UInt8) = [102]) = False) ∧ ((([110] : List UInt8) = [109]) = False) ∧ ((([110] : List UInt8) = [116]) = False) ∧ ((([110] : List UInt8) = [107]) = False) := ⟨eq_false (by decide), eq_false (by decide), eq_false (by decide), eq_false (by decide), eq_false (by decide), eq_false (by decide), eq_false (by decide), eq_false (by decide), eq_false (by decide), eq_false (by decide), eq_false (by decide), eq_false (by decide), eq_false (by decide)⟩
    simp only [C.cut_one_gos, T.tv, seval, L]
    refine eff_callF rfl ((cnum_any sz hl (by omega) D.d.rd).mono ?_)
    intro v1 h1 hp1
    have D1 := D.step hp1.1 hp1.2.1
    have hv1 := hp1.2.2
    clear hp1
    have fx1 := D1.d.cells
    rw [ha] at fx1
    generalize numS l sz s = T1 at *
    obtain ⟨av, s2⟩ := T1
    simp only at *
    simp only [T.tv, hv1, seval]
    refine eff_store1_z T.zr_3 rfl rfl rfl rfl rfl fx1.2.2.2.1 (D1.d.notfz 3) ?_
    have D2 := D1.set 3 (.int .i64 av) { x with A := av } rfl rfl (fun _ _ => rfl)
    generalize setAt _ ⟨q, 3, none⟩ _ = h2 at *
    have fx2 := D2.d.cells
    rw [ha] at fx2
    simp only [C.cut_one_gos, T.tv, seval]
    refine eff_callF rfl ((csgn_any sz (by omega) hl D2.d.rd).mono ?_)
    intro v3 h3 hp3
    have D3 := D2.step hp3.1 hp3.2.1
    have hv3 := hp3.2.2
    clear hp3
    have fx3 := D3.d.cells
    rw [ha] at fx3
    generalize sgnD l sz s2 = T3 at *
    obtain ⟨bv, s3⟩ := T3
    simp only at *
    simp only [T.tv, hv3, seval]
    refine eff_store1_z T.zr_3 rfl rfl rfl rfl rfl fx3.2.2.2.2.1 (D3.d.notfz 4) ?_
    have D4 := D3.set 4 (.int .i64 bv) { x with A := av, B := bv } rfl rfl (fun _ _ => rfl)
    generalize setAt _ ⟨q, 4, none⟩ _ = h4 at *
    have fx4 := D4.d.cells
    rw [ha] at fx4
    have D9 := D4
    subst hY
    obtain ⟨vk9, vt9, q9, ok9, ot9, dj9⟩ := id D9.d.xr
    have hld := ld_agg T.ag_98 (Rd_block q9) rfl
    simp only [InV] at hld
    simp only [C.cut_one_gos, T.tv, seval, hld]
    refine eff_storeN_z T.zr_98 rfl rfl rfl ?_ D9.rk rfl ?_
    · intro u hu
      obtain ⟨_, ak, kk, rfl, _⟩ := ok9.slN
      obtain ⟨_, at7, kt, rfl, _⟩ := ot9.slN
      simp [Value.cells] at hu
      rcases hu with rfl | rfl | rfl | rfl | rfl | rfl | rfl | rfl <;> rfl
    intro h10 f10 b10
    obtain ⟨v, hv1, hv2⟩ := D9.fin q9 ok9 ot9 dj9 f10 b10
    simp only [T.tv, hv1, seval]
    exact hv2
  · simp only [Nat.reduceEqDiff, if_false, if_true, or_false] at hY
    rw [show [letS 8] = ([106] : List UInt8) from rfl]
    have L : ((([106] : List UInt8) = [120]) = False) ∧ ((([106] : List UInt8) = [98]) = False) ∧ ((([106] : List UInt8) = [115]) = False) ∧ ((([106] : List UInt8) = [99]) = False) ∧ ((([106] : List UInt8) = [97]) = False) ∧ ((([106] : List UInt8) = [105]) = False) ∧ ((([106] : List UInt8) = [108]) = False) ∧ ((([106] : List UInt8) = [110]) = False) ∧ ((([106] : List UInt8) = [74]) = False) ∧ ((([106] : List UInt8) = [102]) = False) ∧ ((([106] : List UInt8) = [109]) = False) ∧ ((([106] : List UInt8) = [116]) = False) ∧ ((([106] : List UInt8) = [107]) = False) := ⟨eq_false (by decide), eq_false (by decide), eq_false (by decide), eq_false (by decide), eq_false (by decide), eq_false (by decide), eq_false (by decide), eq_false (by decide), eq_false (by decide), eq_false (by decide), eq_false (by decide), eq_false (by decide), eq_false (by decide)⟩
    have b0 := sgnD_fit l 2 s (by omega)
    simp only [C.cut_one_gos, T.tv, seval, L, fx0]
    refine eff_callF rfl ((csgn_any 2 (by omega) hl D.d.rd).mono ?_)
    intro v1 h1 hp1
    have D1 := D.step hp1.1 hp1.2.1
    have hv1 := hp1.2.2
    clear hp1
    have fx1 := D1.d.cells
    rw [ha] at fx1
    generalize sgnD l 2 s = T1 at *
    obtain ⟨tv, s2⟩ := T1
    simp only at *
    simp (disch := omega) only [T.tv, fx1, seval, hv1]
    refine eff_lits T.slT_96 rfl rfl (by decide) ?_
    simp only [T.tv, seval]
    obtain ⟨vk4, vt4, q4, own4k, own4t, _⟩ := D1.d.xr
    refine eff_store1_z T.zr_96 rfl rfl rfl rfl rfl (by rw [cellAt_of (push_blk q4)]; rfl) ((D1.d.push _).notfz 7) ?_
    have D2 := D1.tg1 ((a : Int) + tv)
    clear q4 own4k own4t
    generalize setAt _ ⟨q, 7, none⟩ _ = h2 at *
    have fx2 := D2.d.cells
    rw [ha] at fx2
    have D9 := D2
    subst hY
    obtain ⟨vk9, vt9, q9, ok9, ot9, dj9⟩ := id D9.d.xr
    have hld := ld_agg T.ag_98 (Rd_block q9) rfl
    simp only [InV] at hld
    simp only [C.cut_one_gos, T.tv, seval, hld]
    refine eff_storeN_z T.zr_98 rfl rfl rfl ?_ D9.rk rfl ?_
    · intro u hu
      obtain ⟨_, ak, kk, rfl, _⟩ := ok9.slN
      obtain ⟨_, at7, kt, rfl, _⟩ := ot9.slN
      simp [Value.cells] at hu
      rcases hu with rfl | rfl | rfl | rfl | rfl | rfl | rfl | rfl <;> rfl
    intro h10 f10 b10
    obtain ⟨v, hv1, hv2⟩ := D9.fin q9 ok9 ot9 dj9 f10 b10
    simp only [T.tv, hv1, seval]
    exact hv2
  · simp only [Nat.reduceEqDiff, if_false, if_true, or_false] at hY
    rw [show [letS 9] = ([74] : List UInt8) from rfl]
    have L : ((([74] : List UInt8) = [120]) = False) ∧ ((([74] : List UInt8) = [98]) = False) ∧ ((([74] : List UInt8) = [115]) = False) ∧ ((([74] : List UInt8) = [99]) = False) ∧ ((([74] : List UInt8) = [97]) = False) ∧ ((([74] : List UInt8) = [105]) = False) ∧ ((([74] : List UInt8) = [108]) = False) ∧ ((([74] : List UInt8) = [110]) = False) ∧ ((([74] : List UInt8) = [106]) = False) ∧ ((([74] : List UInt8) = [102]) = False) ∧ ((([74] : List UInt8) = [109]) = False) ∧ ((([74] : List UInt8) = [116]) = False) ∧ ((([74] : List UInt8) = [107]) = False) := ⟨eq_false (by decide), eq_false (by decide), eq_false (by decide), eq_false (by decide), eq_false (by decide), eq_false (by decide), eq_false (by decide), eq_false (by decide), eq_false (by decide), eq_false (by decide), eq_false (by decide), eq_false (by decide), eq_false (by decide)⟩
    have b0 := sgnD_fit l 4 s (by omega)
    simp only [C.cut_one_gos, T.tv, seval, L, fx0]
    refine eff_callF rfl ((csgn_any 4 (by omega) hl D.d.rd).mono ?_)
    intro v1 h1 hp1
    have D1 := D.step hp1.1 hp1.2.1
    have hv1 := hp1.2.2
    clear hp1
    have fx1 := D1.d.cells
    rw [ha] at fx1
    generalize sgnD l 4 s = T1 at *
    obtain ⟨tv, s2⟩ := T1
    simp only at *
    simp (disch := omega) only [T.tv, fx1, seval, hv1]
    refine eff_lits T.slT_96 rfl rfl (by decide) ?_
    simp only [T.tv, seval]
    obtain ⟨vk4, vt4, q4, own4k, own4t, _⟩ := D1.d.xr
    refine eff_store1_z T.zr_96 rfl rfl rfl rfl rfl (by rw [cellAt_of (push_blk q4)]; rfl) ((D1.d.push _).notfz 7) ?_
    have D2 := D1.tg1 ((a : Int) + tv)
    clear q4 own4k own4t
    generalize setAt _ ⟨q, 7, none⟩ _ = h2 at *
    have fx2 := D2.d.cells
    rw [ha] at fx2
    have D9 := D2
    subst hY
    obtain ⟨vk9, vt9, q9, ok9, ot9, dj9⟩ := id D9.d.xr
    have hld := ld_agg T.ag_98 (Rd_block q9) rfl
    simp only [InV] at hld
    simp only [C.cut_one_gos, T.tv, seval, hld]
    refine eff_storeN_z T.zr_98 rfl rfl rfl ?_ D9.rk rfl ?_
    · intro u hu
      obtain ⟨_, ak, kk, rfl, _⟩ := ok9.slN
      obtain ⟨_, at7, kt, rfl, _⟩ := ot9.slN
      simp [Value.cells] at hu
      rcases hu with rfl | rfl | rfl | rfl | rfl | rfl | rfl | rfl <;> rfl
    intro h10 f10 b10
    obtain ⟨v, hv1, hv2⟩ := D9.fin q9 ok9 ot9 dj9 f10 b10
    simp only [T.tv, hv1, seval]
    exact hv2
  · simp only [Nat.reduceEqDiff, if_false, or_false] at hY
    rw [show [letS 0] = ([46] : List UInt8) from rfl]
    have L : ((([46] : List UInt8) = [120]) = False) ∧ ((([46] : List UInt8) = [98]) = False) ∧ ((([46] : List UInt8) = [115]) = False) ∧ ((([46] : List UInt8) = [99]) = False) ∧ ((([46] : List UInt8) = [97]) = False) ∧ ((([46] : List UInt8) = [105]) = False) ∧ ((([46] : List UInt8) = [108]) = False) ∧ ((([46] : List UInt8) = [110]) = False) ∧ ((([46] : List UInt8) = [106]) = False) ∧ ((([46] : List UInt8) = [74]) = False) ∧ ((([46] : List UInt8) = [102]) = False) ∧ ((([46] : List UInt8) = [109]) = False) ∧ ((([46] : List UInt8) = [116]) = False) ∧ ((([46] : List UInt8) = [107]) = False) := ⟨eq_false (by decide), eq_false (by decide), eq_false (by decide), eq_false (by decide), eq_false (by decide), eq_false (by decide), eq_false (by decide), eq_false (by decide), eq_false (by decide), eq_false (by decide), eq_false (by decide), eq_false (by decide), eq_false (by decide), eq_false (by decide)⟩
    simp only [C.cut_one_gos, T.tv, seval, L]
    have D9 := D
    subst hY
    obtain ⟨vk9, vt9, q9, ok9, ot9, dj9⟩ := id D9.d.xr
    have hld := ld_agg T.ag_98 (Rd_block q9) rfl
    simp only [InV] at hld
    simp only [T.tv, hld]
    refine eff_storeN_z T.zr_98 rfl rfl rfl ?_ D9.rk rfl ?_
    · intro u hu
      obtain ⟨_, ak, kk, rfl, _⟩ := ok9.slN
      obtain ⟨_, at7, kt, rfl, _⟩ := ot9.slN
      simp [Value.cells] at hu
      rcases hu with rfl | rfl | rfl | rfl | rfl | rfl | rfl | rfl <;> rfl
    intro h10 f10 b10
    obtain ⟨v, hv1, hv2⟩ := D9.fin q9 ok9 ot9 dj9 f10 b10
    simp only [T.tv, hv1, seval]
    exact hv2
  · simp only [Nat.reduceEqDiff, if_false, if_true, or_false] at hY
    rw [show [letS 10] = ([116] : List UInt8) from rfl]
    have L : ((([116] : List UInt8) = [120]) = False) ∧ ((([116] : List UInt8) = [98]) = False) ∧ ((([116] : List UInt8) = [115]) = False) ∧ ((([116] : List UInt8) = [99]) = False) ∧ ((([116] : List UInt8) = [97]) = False) ∧ ((([116] : List UInt8) = [105]) = False) ∧ ((([116] : List UInt8) = [108]) = False) ∧ ((([116] : List UInt8) = [110]) = False) ∧ ((([116] : List UInt8) = [106]) = False) ∧ ((([116] : List UInt8) = [74]) = False) ∧ ((([116] : List UInt8) = [102]) = False) ∧ ((([116] : List UInt8) = [109]) = False) ∧ ((([116] : List UInt8) = [107]) = False) := ⟨eq_false (by decide), eq_false (by decide), eq_false (by decide), eq_false (by decide), eq_false (by decide), eq_false (by decide), eq_false (by decide), eq_false (by decide), eq_false (by decide), eq_false (by decide), eq_false (by decide), eq_false (by decide), eq_false (by decide)⟩
    have hmore := rcho_any' x a 10 (by omega) hl ha hal hk ht D.d.rd hq
    have hYc : choD x a 10 l s = Y := hY
    rw [hYc] at hmore
    simp only [Nat.reduceEqDiff, decide_false] at hmore
    clear hY hY0 hYc
    simp only [C.cut_one_gos, T.tv, seval, L]
    refine eff_callF rfl ((hmore).mono ?_)
    intro v1 h1 hp1
    have D1 := D.more hp1.1 hp1.2.1 hp1.2.2
    obtain ⟨x9, s9⟩ := Y
    have D9 := D1
    obtain ⟨vk9, vt9, q9, ok9, ot9, dj9⟩ := id D9.d.xr
    have hld := ld_agg T.ag_98 (Rd_block q9) rfl
    simp only [InV] at hld
    simp only [C.cut_one_gos, T.tv, seval, hld]
    refine eff_storeN_z T.zr_98 rfl rfl rfl ?_ D9.rk rfl ?_
    · intro u hu
      obtain ⟨_, ak, kk, rfl, _⟩ := ok9.slN
      obtain ⟨_, at7, kt, rfl, _⟩ := ot9.slN
      simp [Value.cells] at hu
      rcases hu with rfl | rfl | rfl | rfl | rfl | rfl | rfl | rfl <;> rfl
    intro h10 f10 b10
    obtain ⟨v, hv1, hv2⟩ := D9.fin q9 ok9 ot9 dj9 f10 b10
    simp only [T.tv, hv1, seval]
    exact hv2
  · simp only [Nat.reduceEqDiff, if_false, if_true, or_true] at hY
    rw [show [letS 11] = ([107] : List UInt8) from rfl]
    have L : ((([107] : List UInt8) = [120]) = False) ∧ ((([107] : List UInt8) = [98]) = False) ∧ ((([107] : List UInt8) = [115]) = False) ∧ ((([107] : List UInt8) = [99]) = False) ∧ ((([107] : List UInt8) = [97]) = False) ∧ ((([107] : List UInt8) = [105]) = False) ∧ ((([107] : List UInt8) = [108]) = False) ∧ ((([107] : List UInt8) = [110]) = False) ∧ ((([107] : List UInt8) = [106]) = False) ∧ ((([107] : List UInt8) = [74]) = False) ∧ ((([107] : List UInt8) = [102]) = False) ∧ ((([107] : List UInt8) = [109]) = False) ∧ ((([107] : List UInt8) = [116]) = False) := ⟨eq_false (by decide), eq_false (by decide), eq_false (by decide), eq_false (by decide), eq_false (by decide), eq_false (by decide), eq_false (by decide), eq_false (by decide), eq_false (by decide), eq_false (by decide), eq_false (by decide), eq_false (by decide), eq_false (by decide)⟩
    have hmore := rcho_any' x a 11 (by omega) hl ha hal hk ht D.d.rd hq
    have hYc : choD x a 11 l s = Y := hY
    rw [hYc] at hmore
    simp only [decide_true] at hmore
    clear hY hY0 hYc
    simp only [C.cut_one_gos, T.tv, seval, L]
    refine eff_callF rfl ((hmore).mono ?_)
    intro v1 h1 hp1
    have D1 := D.more hp1.1 hp1.2.1 hp1.2.2
    obtain ⟨x9, s9⟩ := Y
    have D9 := D1
    obtain ⟨vk9, vt9, q9, ok9, ot9, dj9⟩ := id D9.d.xr
    have hld := ld_agg T.ag_98 (Rd_block q9) rfl
    simp only [InV] at hld
    simp only [C.cut_one_gos, T.tv, seval, hld]
    refine eff_storeN_z T.zr_98 rfl rfl rfl ?_ D9.rk rfl ?_
    · intro u hu
      obtain ⟨_, ak, kk, rfl, _⟩ := ok9.slN
      obtain ⟨_, at7, kt, rfl, _⟩ := ot9.slN
      simp [Value.cells] at hu
      rcases hu with rfl | rfl | rfl | rfl | rfl | rfl | rfl | rfl <;> rfl
    intro h10 f10 b10
    obtain ⟨v, hv1, hv2⟩ := D9.fin q9 ok9 ot9 dj9 f10 b10
    simp only [T.tv, hv1, seval]
    exact hv2
  · simp only [Nat.reduceEqDiff, if_false, if_true, or_false] at hY
    rw [show [letS 12] = ([102] : List UInt8) from rfl]
    have L : ((([102] : List UInt8) = [120]) = False) ∧ ((([102] : List UInt8) = [98]) = False) ∧ ((([102] : List UInt8) = [115]) = False) ∧ ((([102] : List UInt8) = [99]) = False) ∧ ((([102] : List UInt8) = [97]) = False) ∧ ((([102] : List UInt8) = [105]) = False) ∧ ((([102] : List UInt8) = [108]) = False) ∧ ((([102] : List UInt8) = [110]) = False) ∧ ((([102] : List UInt8) = [106]) = False) ∧ ((([102] : List UInt8) = [74]) = False) ∧ ((([102] : List UInt8) = [109]) = False) ∧ ((([102] : List UInt8) = [116]) = False) ∧ ((([102] : List UInt8) = [107]) = False) := ⟨eq_false (by decide), eq_false (by decide), eq_false (by decide), eq_false (by decide), eq_false (by decide), eq_false (by decide), eq_false (by decide), eq_false (by decide), eq_false (by decide), eq_false (by decide), eq_false (by decide), eq_false (by decide), eq_false (by decide)⟩
    simp only [C.cut_one_gos, T.tv, seval, L]
    refine eff_callF rfl ((cnum_any 2 hl (by omega) D.d.rd).mono ?_)
    intro v1 h1 hp1
    have D1 := D.step hp1.1 hp1.2.1
    have hv1 := hp1.2.2
    clear hp1
    have fx1 := D1.d.cells
    rw [ha] at fx1
    generalize numS l 2 s = T1 at *
    obtain ⟨av, s2⟩ := T1
    simp only at *
    simp only [T.tv, hv1, seval]
    refine eff_store1_z T.zr_3 rfl rfl rfl rfl rfl fx1.2.2.2.1 (D1.d.notfz 3) ?_
    have D2 := D1.set 3 (.int .i64 av) { x with A := av } rfl rfl (fun _ _ => rfl)
    generalize setAt _ ⟨q, 3, none⟩ _ = h2 at *
    have fx2 := D2.d.cells
    rw [ha] at fx2
    simp only [C.cut_one_gos, T.tv, seval]
    refine eff_callF rfl ((cnum_any 1 hl (by omega) D2.d.rd).mono ?_)
    intro v3 h3 hp3
    have D3 := D2.step hp3.1 hp3.2.1
    have hv3 := hp3.2.2
    clear hp3
    have fx3 := D3.d.cells
    rw [ha] at fx3
    generalize numS l 1 s2 = T3 at *
    obtain ⟨bv, s3⟩ := T3
    simp only at *
    simp only [T.tv, hv3, seval]
    refine eff_store1_z T.zr_3 rfl rfl rfl rfl rfl fx3.2.2.2.2.1 (D3.d.notfz 4) ?_
    have D4 := D3.set 4 (.int .i64 bv) { x with A := av, B := bv } rfl rfl (fun _ _ => rfl)
    generalize setAt _ ⟨q, 4, none⟩ _ = h4 at *
    have fx4 := D4.d.cells
    rw [ha] at fx4
    simp only [C.cut_one_gos, T.tv, seval]
    refine eff_callF rfl ((cnum_any 1 hl (by omega) D4.d.rd).mono ?_)
    intro v5 h5 hp5
    have D5 := D4.step hp5.1 hp5.2.1
    have hv5 := hp5.2.2
    clear hp5
    have fx5 := D5.d.cells
    rw [ha] at fx5
    generalize numS l 1 s3 = T5 at *
    obtain ⟨cv, s6⟩ := T5
    simp only at *
    have hcs : ((((cv : Int) = 0) = False) ∧ (cv ≠ 0 ∨ bv = 0)) ∨ ((((cv : Int) = 0) = True) ∧ (((bv : Int) = 0) = True) ∧ (cv ≠ 0 ∨ bv = 0)) ∨ ((((cv : Int) = 0) = True) ∧ (((bv : Int) = 0) = False) ∧ ¬ (cv ≠ 0 ∨ bv = 0)) := by
      by_cases g1 : cv = 0
      · by_cases g2 : bv = 0
        · exact Or.inr (Or.inl ⟨eq_true (by omega), eq_true (by omega), Or.inr g2⟩)
        · exact Or.inr (Or.inr ⟨eq_true (by omega), eq_false (by omega), by omega⟩)
      · exact Or.inl ⟨eq_false (by omega), Or.inl g1⟩
    rcases hcs with ⟨fc, hb⟩ | ⟨fc, fd, hb⟩ | ⟨fc, fd, hb⟩
    · skip
      rw [if_pos hb] at hY
      simp only [C.cut_one_gos, T.tv, seval, fx5, hv5, fc]
      refine eff_callF rfl ((cfail_any 15 a D5.d.rd).mono ?_)
      intro v6 h6 hp6
      have D6 := D5.step hp6.1 hp6.2
      clear hp6
      have fx6 := D6.d.cells
      rw [ha] at fx6
      have D9 := D6
      subst hY
      obtain ⟨vk9, vt9, q9, ok9, ot9, dj9⟩ := id D9.d.xr
      have hld := ld_agg T.ag_98 (Rd_block q9) rfl
      simp only [InV] at hld
      simp only [C.cut_one_gos, T.tv, seval, hld]
      refine eff_storeN_z T.zr_98 rfl rfl rfl ?_ D9.rk rfl ?_
      · intro u hu
        obtain ⟨_, ak, kk, rfl, _⟩ := ok9.slN
        obtain ⟨_, at7, kt, rfl, _⟩ := ot9.slN
        simp [Value.cells] at hu
        rcases hu with rfl | rfl | rfl | rfl | rfl | rfl | rfl | rfl <;> rfl
      intro h10 f10 b10
      obtain ⟨v, hv1, hv2⟩ := D9.fin q9 ok9 ot9 dj9 f10 b10
      simp only [T.tv, hv1, seval]
      exact hv2
    · skip
      rw [if_pos hb] at hY
      simp only [C.cut_one_gos, T.tv, seval, fx5, hv5, fc, fd]
      refine eff_callF rfl ((cfail_any 15 a D5.d.rd).mono ?_)
      intro v6 h6 hp6
      have D6 := D5.step hp6.1 hp6.2
      clear hp6
      have fx6 := D6.d.cells
      rw [ha] at fx6
      have D9 := D6
      subst hY
      obtain ⟨vk9, vt9, q9, ok9, ot9, dj9⟩ := id D9.d.xr
      have hld := ld_agg T.ag_98 (Rd_block q9) rfl
      simp only [InV] at hld
      simp only [C.cut_one_gos, T.tv, seval, hld]
      refine eff_storeN_z T.zr_98 rfl rfl rfl ?_ D9.rk rfl ?_
      · intro u hu
        obtain ⟨_, ak, kk, rfl, _⟩ := ok9.slN
        obtain ⟨_, at7, kt, rfl, _⟩ := ot9.slN
        simp [Value.cells] at hu
        rcases hu with rfl | rfl | rfl | rfl | rfl | rfl | rfl | rfl <;> rfl
      intro h10 f10 b10
      obtain ⟨v, hv1, hv2⟩ := D9.fin q9 ok9 ot9 dj9 f10 b10
      simp only [T.tv, hv1, seval]
      exact hv2
    · skip
      rw [if_neg hb] at hY
      simp only [C.cut_one_gos, T.tv, seval, fx5, hv5, fc, fd]
      have D9 := D5
      subst hY
      obtain ⟨vk9, vt9, q9, ok9, ot9, dj9⟩ := id D9.d.xr
      have hld := ld_agg T.ag_98 (Rd_block q9) rfl
      simp only [InV] at hld
      simp only [T.tv, hld]
      refine eff_storeN_z T.zr_98 rfl rfl rfl ?_ D9.rk rfl ?_
      · intro u hu
        obtain ⟨_, ak, kk, rfl, _⟩ := ok9.slN
        obtain ⟨_, at7, kt, rfl, _⟩ := ot9.slN
        simp [Value.cells] at hu
        rcases hu with rfl | rfl | rfl | rfl | rfl | rfl | rfl | rfl <;> rfl
      intro h10 f10 b10
      obtain ⟨v, hv1, hv2⟩ := D9.fin q9 ok9 ot9 dj9 f10 b10
      simp only [T.tv, hv1, seval]
      exact hv2
  · simp only [Nat.reduceEqDiff, if_false, if_true, or_false] at hY
    rw [show [letS 13] = ([97] : List UInt8) from rfl]
    have L : ((([97] : List UInt8) = [120]) = False) ∧ ((([97] : List UInt8) = [98]) = False) ∧ ((([97] : List UInt8) = [115]) = False) ∧ ((([97] : List UInt8) = [99]) = False) ∧ ((([97] : List UInt8) = [105]) = False) ∧ ((([97] : List UInt8) = [108]) = False) ∧ ((([97] : List UInt8) = [110]) = False) ∧ ((([97] : List UInt8) = [106]) = False) ∧ ((([97] : List UInt8) = [74]) = False) ∧ ((([97] : List UInt8) = [102]) = False) ∧ ((([97] : List UInt8) = [109]) = False) ∧ ((([97] : List UInt8) = [116]) = False) ∧ ((([97] : List UInt8) = [107]) = False) := ⟨eq_false (by decide), eq_false (by decide), eq_false (by decide), eq_false (by decide), eq_false (by decide), eq_false (by decide), eq_false (by decide), eq_false (by decide), eq_false (by decide), eq_false (by decide), eq_false (by decide), eq_false (by decide), eq_false (by decide)⟩
    simp only [C.cut_one_gos, T.tv, seval, L]
    refine eff_callF rfl ((cnum_any 1 hl (by omega) D.d.rd).mono ?_)
    intro v1 h1 hp1
    have D1 := D.step hp1.1 hp1.2.1
    have hv1 := hp1.2.2
    clear hp1
    have fx1 := D1.d.cells
    rw [ha] at fx1
    generalize numS l 1 s = T1 at *
    obtain ⟨av, s2⟩ := T1
    simp only at *
    simp only [T.tv, hv1, seval]
    refine eff_store1_z T.zr_3 rfl rfl rfl rfl rfl fx1.2.2.2.1 (D1.d.notfz 3) ?_
    have D2 := D1.set 3 (.int .i64 av) { x with A := av } rfl rfl (fun _ _ => rfl)
    generalize setAt _ ⟨q, 3, none⟩ _ = h2 at *
    have fx2 := D2.d.cells
    rw [ha] at fx2
    have hcs : ((((av : Int) < 4) = True) ∧ (av < 4 ∨ 11 < av)) ∨ ((((av : Int) < 4) = False) ∧ (((11 : Int) < (av : Int)) = True) ∧ (av < 4 ∨ 11 < av)) ∨ ((((av : Int) < 4) = False) ∧ (((11 : Int) < (av : Int)) = False) ∧ ¬ (av < 4 ∨ 11 < av)) := by
      by_cases g1 : av < 4
      · exact Or.inl ⟨eq_true (by omega), Or.inl g1⟩
      · by_cases g2 : 11 < av
        · exact Or.inr (Or.inl ⟨eq_false (by omega), eq_true (by omega), Or.inr g2⟩)
        · exact Or.inr (Or.inr ⟨eq_false (by omega), eq_false (by omega), by omega⟩)
    rcases hcs with ⟨fc, hb⟩ | ⟨fc, fd, hb⟩ | ⟨fc, fd, hb⟩
    · skip
      rw [if_pos hb] at hY
      simp only [C.cut_one_gos, T.tv, seval, fx2, fc]
      refine eff_callF rfl ((cfail_any 15 a D2.d.rd).mono ?_)
      intro v3 h3 hp3
      have D3 := D2.step hp3.1 hp3.2
      clear hp3
      have fx3 := D3.d.cells
      rw [ha] at fx3
      have D9 := D3
      subst hY
      obtain ⟨vk9, vt9, q9, ok9, ot9, dj9⟩ := id D9.d.xr
      have hld := ld_agg T.ag_98 (Rd_block q9) rfl
      simp only [InV] at hld
      simp only [C.cut_one_gos, T.tv, seval, hld]
      refine eff_storeN_z T.zr_98 rfl rfl rfl ?_ D9.rk rfl ?_
      · intro u hu
        obtain ⟨_, ak, kk, rfl, _⟩ := ok9.slN
        obtain ⟨_, at7, kt, rfl, _⟩ := ot9.slN
        simp [Value.cells] at hu
        rcases hu with rfl | rfl | rfl | rfl | rfl | rfl | rfl | rfl <;> rfl
      intro h10 f10 b10
      obtain ⟨v, hv1, hv2⟩ := D9.fin q9 ok9 ot9 dj9 f10 b10
      simp only [T.tv, hv1, seval]
      exact hv2
    · skip
      rw [if_pos hb] at hY
      simp only [C.cut_one_gos, T.tv, seval, fx2, fc, fd]
      refine eff_callF rfl ((cfail_any 15 a D2.d.rd).mono ?_)
      intro v3 h3 hp3
      have D3 := D2.step hp3.1 hp3.2
      clear hp3
      have fx3 := D3.d.cells
      rw [ha] at fx3
      have D9 := D3
      subst hY
      obtain ⟨vk9, vt9, q9, ok9, ot9, dj9⟩ := id D9.d.xr
      have hld := ld_agg T.ag_98 (Rd_block q9) rfl
      simp only [InV] at hld
      simp only [C.cut_one_gos, T.tv, seval, hld]
      refine eff_storeN_z T.zr_98 rfl rfl rfl ?_ D9.rk rfl ?_
      · intro u hu
        obtain ⟨_, ak, kk, rfl, _⟩ := ok9.slN
        obtain ⟨_, at7, kt, rfl, _⟩ := ot9.slN
        simp [Value.cells] at hu
        rcases hu with rfl | rfl | rfl | rfl | rfl | rfl | rfl | rfl <;> rfl
      intro h10 f10 b10
      obtain ⟨v, hv1, hv2⟩ := D9.fin q9 ok9 ot9 dj9 f10 b10
      simp only [T.tv, hv1, seval]
      exact hv2
    · skip
      rw [if_neg hb] at hY
      simp only [C.cut_one_gos, T.tv, seval, fx2, fc, fd]
      have D9 := D2
      subst hY
      obtain ⟨vk9, vt9, q9, ok9, ot9, dj9⟩ := id D9.d.xr
      have hld := ld_agg T.ag_98 (Rd_block q9) rfl
      simp only [InV] at hld
      simp only [T.tv, hld]
      refine eff_storeN_z T.zr_98 rfl rfl rfl ?_ D9.rk rfl ?_
      · intro u hu
        obtain ⟨_, ak, kk, rfl, _⟩ := ok9.slN
        obtain ⟨_, at7, kt, rfl, _⟩ := ot9.slN
        simp [Value.cells] at hu
        rcases hu with rfl | rfl | rfl | rfl | rfl | rfl | rfl | rfl <;> rfl
      intro h10 f10 b10
      obtain ⟨v, hv1, hv2⟩ := D9.fin q9 ok9 ot9 dj9 f10 b10
      simp only [T.tv, hv1, seval]
      exact hv2
  · simp only [Nat.reduceEqDiff, if_false, if_true, or_false] at hY
    rw [show [letS 14] = ([109] : List UInt8) from rfl]
    have L : ((([109] : List UInt8) = [120]) = False) ∧ ((([109] : List UInt8) = [98]) = False) ∧ ((([109] : List UInt8) = [115]) = False) ∧ ((([109] : List UInt8) = [99]) = False) ∧ ((([109] : List UInt8) = [97]) = False) ∧ ((([109] : List UInt8) = [105]) = False) ∧ ((([109] : List UInt8) = [108]) = False) ∧ ((([109] : List UInt8) = [110]) = False) ∧ ((([109] : List UInt8) = [106]) = False) ∧ ((([109] : List UInt8) = [74]) = False) ∧ ((([109] : List UInt8) = [102]) = False) ∧ ((([109] : List UInt8) = [116]) = False) ∧ ((([109] : List UInt8) = [107]) = False) := ⟨eq_false (by decide), eq_false (by decide), eq_false (by decide), eq_false (by decide), eq_false (by decide), eq_false (by decide), eq_false (by decide), eq_false (by decide), eq_false (by decide), eq_false (by decide), eq_false (by decide), eq_false (by decide), eq_false (by decide)⟩
    simp only [C.cut_one_gos, T.tv, seval, L]
    refine eff_callF rfl ((cnum_any 2 hl (by omega) D.d.rd).mono ?_)
    intro v1 h1 hp1
    have D1 := D.step hp1.1 hp1.2.1
    have hv1 := hp1.2.2
    clear hp1
    have fx1 := D1.d.cells
    rw [ha] at fx1
    generalize numS l 2 s = T1 at *
    obtain ⟨av, s2⟩ := T1
    simp only at *
    simp only [T.tv, hv1, seval]
    refine eff_store1_z T.zr_3 rfl rfl rfl rfl rfl fx1.2.2.2.1 (D1.d.notfz 3) ?_
    have D2 := D1.set 3 (.int .i64 av) { x with A := av } rfl rfl (fun _ _ => rfl)
    generalize setAt _ ⟨q, 3, none⟩ _ = h2 at *
    have fx2 := D2.d.cells
    rw [ha] at fx2
    simp only [C.cut_one_gos, T.tv, seval]
    refine eff_callF rfl ((cnum_any 1 hl (by omega) D2.d.rd).mono ?_)
    intro v3 h3 hp3
    have D3 := D2.step hp3.1 hp3.2.1
    have hv3 := hp3.2.2
    clear hp3
    have fx3 := D3.d.cells
    rw [ha] at fx3
    generalize numS l 1 s2 = T3 at *
    obtain ⟨bv, s3⟩ := T3
    simp only at *
    simp only [T.tv, hv3, seval]
    refine eff_store1_z T.zr_3 rfl rfl rfl rfl rfl fx3.2.2.2.2.1 (D3.d.notfz 4) ?_
    have D4 := D3.set 4 (.int .i64 bv) { x with A := av, B := bv } rfl rfl (fun _ _ => rfl)
    generalize setAt _ ⟨q, 4, none⟩ _ = h4 at *
    have fx4 := D4.d.cells
    rw [ha] at fx4
    have hcs : ((((bv : Int) = 0) = True) ∧ bv = 0) ∨ ((((bv : Int) = 0) = False) ∧ ¬ bv = 0) := by
      by_cases g1 : bv = 0
      · exact Or.inl ⟨eq_true (by omega), g1⟩
      · exact Or.inr ⟨eq_false (by omega), g1⟩
    rcases hcs with ⟨fc, hb⟩ | ⟨fc, hb⟩
    · skip
      rw [if_pos hb] at hY
      simp only [C.cut_one_gos, T.tv, seval, L, fx4, fc]
      refine eff_callF rfl ((cfail_any 15 a D4.d.rd).mono ?_)
      intro v5 h5 hp5
      have D5 := D4.step hp5.1 hp5.2
      clear hp5
      have fx5 := D5.d.cells
      rw [ha] at fx5
      have D9 := D5
      subst hY
      obtain ⟨vk9, vt9, q9, ok9, ot9, dj9⟩ := id D9.d.xr
      have hld := ld_agg T.ag_98 (Rd_block q9) rfl
      simp only [InV] at hld
      simp only [C.cut_one_gos, T.tv, seval, hld]
      refine eff_storeN_z T.zr_98 rfl rfl rfl ?_ D9.rk rfl ?_
      · intro u hu
        obtain ⟨_, ak, kk, rfl, _⟩ := ok9.slN
        obtain ⟨_, at7, kt, rfl, _⟩ := ot9.slN
        simp [Value.cells] at hu
        rcases hu with rfl | rfl | rfl | rfl | rfl | rfl | rfl | rfl <;> rfl
      intro h10 f10 b10
      obtain ⟨v, hv1, hv2⟩ := D9.fin q9 ok9 ot9 dj9 f10 b10
      simp only [T.tv, hv1, seval]
      exact hv2
    · skip
      rw [if_neg hb] at hY
      simp only [C.cut_one_gos, T.tv, seval, L, fx4, fc]
      have D9 := D4
      subst hY
      obtain ⟨vk9, vt9, q9, ok9, ot9, dj9⟩ := id D9.d.xr
      have hld := ld_agg T.ag_98 (Rd_block q9) rfl
      simp only [InV] at hld
      simp only [T.tv, hld]
      refine eff_storeN_z T.zr_98 rfl rfl rfl ?_ D9.rk rfl ?_
      · intro u hu
        obtain ⟨_, ak, kk, rfl, _⟩ := ok9.slN
        obtain ⟨_, at7, kt, rfl, _⟩ := ot9.slN
        simp [Value.cells] at hu
        rcases hu with rfl | rfl | rfl | rfl | rfl | rfl | rfl | rfl <;> rfl
      intro h10 f10 b10
      obtain ⟨v, hv1, hv2⟩ := D9.fin q9 ok9 ot9 dj9 f10 b10
      simp only [T.tv, hv1, seval]
      exact hv2
end
end Go.Proofs.YtflocjbhcjhenaaGreatDoor
namespace Go.Proofs.YtflocjbhcjhenaaGreatDoor
open Go.Vc
set_option maxRecDepth 100000
theorem ops0 (x : In) (a : Nat) (l : List UInt8) (s : RS) : opsD x a 0 l s = (x, s) := rfl
theorem letS_w1 : ∀ f, f < 16 → (([letS f] : List UInt8) = [119] ↔ f = 15) := by decide +kernel
theorem letS_l1 : ∀ f, f < 16 → (([letS f] : List UInt8) = [108] ↔ f = 6) := by decide +kernel
theorem letS_n1 : ∀ f, f < 16 → (([letS f] : List UInt8) = [110] ↔ f = 7) := by decide +kernel
section
variable {h : Heap} {g : Nat} {l : List UInt8} {s : RS}
set_option maxHeartbeats 8000000 in
theorem cone_any (hl : l.length ≤ 1073741824) (H : Cutr h g l s) :
    HCalls Tryz.prog 77 #[.pointer (some ⟨g, 0, none⟩)] h (OneC h g l (oneD l s)) := by
  refine C.cut_one_calls (args := [.pointer (some ⟨g, 0, none⟩)]) rfl ?_
  rw [oneD_eq]
  have hgl := H.lt
  have hpl := H.2
  simp only [C.cut_one_gos, T.tv]
  refine eff_alloc_z T.zr_98 ?_
  have E1 := Ext.push h (.cells #[.int .i64 0, .int .u8 0, .bool false, .int .i64 0, .int .i64 0, .int .i64 0, .slice none 0 0, .slice none 0 0] 98)
  have r1 : (h.push (.cells #[.int .i64 0, .int .u8 0, .bool false, .int .i64 0, .int .i64 0, .int .i64 0, .slice none 0 0, .slice none 0 0] 98))[h.size]? = some (.cells #[.int .i64 0, .int .u8 0, .bool false, .int .i64 0, .int .i64 0, .int .i64 0, .slice none 0 0, .slice none 0 0] 98 (0, 0)) := by simp
  have s1 : (h.push (.cells #[.int .i64 0, .int .u8 0, .bool false, .int .i64 0, .int .i64 0, .int .i64 0, .slice none 0 0, .slice none 0 0] 98)).size = h.size + 1 := by simp
  have H1 := H.fr E1 id
  have c1 := H1.c1
  simp only [C.cut_one_gos, T.tv, seval, c1]
  generalize h.push (.cells #[.int .i64 0, .int .u8 0, .bool false, .int .i64 0, .int .i64 0, .int .i64 0, .slice none 0 0, .slice none 0 0] 98) = h1 at *
  refine eff_alloc_z T.zr_98 ?_
  simp only [T.tv, seval]
  refine eff_store_new_z T.zr_98 rfl rfl rfl (by simp [Value.cells, oneCell]) rfl ?_
  intro h3 x3 hlt3 hrd3 b3
  change h3[h1.size]? = some (.cells (InV (ins0 s.p 0 false) (.slice none 0 0) (.slice none 0 0)).toArray 98 (0, 0)) at b3
  rw [s1] at b3 ⊢
  have D0 : ER' h h3 g (h.size + 1) h.size l (ins0 s.p 0 false) s :=
    ⟨⟨Fr.mono (E1.trans x3) (fun _ _ h => h.elim), H1.fr x3 id, ⟨_, _, b3, Own.nil, Own.nil, by intro k hk; simp [Value.ownBlock] at hk⟩⟩, Fr_blk x3 r1 id, by omega, by omega, by omega⟩
  obtain ⟨q, hq⟩ : ∃ q, q = h.size + 1 := ⟨_, rfl⟩
  obtain ⟨rb, hrb⟩ : ∃ rb, rb = h.size := ⟨_, rfl⟩
  have D0' : ER' h h3 g q rb l (ins0 s.p 0 false) s := by rw [hq, hrb]; exact D0
  have q0 : h3[q]? = some (.cells (InV (ins0 s.p 0 false) (.slice none 0 0) (.slice none 0 0)).toArray 98 (0, 0)) := by rw [hq]; exact b3
  rw [← hq, ← hrb]
  clear D0 b3 hrd3 r1 s1 H1 c1 x3 E1 hq hrb hlt3
  simp only [C.cut_one_gos, T.tv, seval]
  refine eff_callF rfl ((cnum_any 1 hl (by omega) D0'.d.rd).mono ?_)
  intro v4 h4 hp4
  have D4 := D0'.step hp4.1 hp4.2.1
  have hv4 := hp4.2.2
  have q4 := Fr_blk hp4.1 q0 D0'.d.gq
  clear hp4
  have bn : (numS l 1 s).1 < 256 := numS_lt
  generalize numS l 1 s = T at *
  obtain ⟨op, s4⟩ := T
  simp only at hv4 D4 bn
  have hfl := formS_lt op bn
  have hfq := frm_eq op bn
  simp only [C.cut_one_gos, T.tv, seval, hv4]
  refine eff_callF rfl ((rform_any op bn h4).mono ?_)
  intro v5 h5 hp5
  have e5 := hp5.1
  subst e5
  have hv5 := hp5.2
  rw [hfq] at hv5
  clear hp5 hfq
  by_cases hw : formS op = 15
  case neg =>
    have hw' : (([letS (formS op)] : List UInt8) = [119]) = False := eq_false (fun e => hw ((letS_w1 _ hfl).1 e))
    have hwr : IntKind.u8.wrap (op : Int) = (op : Int) := wrap_u8 (by omega) (by omega)
    have hY : oneR l s.p (op, s4) = opsD (ins0 s.p op false) s.p (formS op) l s4 := by
      unfold oneR; rw [if_neg hw]
    rw [hY]
    have fx4 := D4.d.cells
    simp only [C.cut_one_gos, T.tv, seval, hv5, hw', hwr]
    refine eff_store1_z T.zr_5 rfl rfl rfl rfl rfl fx4.2.1 (D4.d.notfz 1) ?_
    have D6 := D4.set 1 (.int .u8 op) (ins0 s.p op false) rfl rfl (fun _ _ => rfl)
    have q6 := setAt_get (o := 1) q4 (.int .u8 op)
    generalize setAt _ ⟨q, 1, none⟩ _ = h6 at *
    have h14 := c14_any (ins0 s.p op false) s.p (formS op) h6 1 (.int .i64 op) (.bool false) undef (by omega) rfl hl rfl hpl rfl rfl D6 q6
    simp only [T.tv]
    exact h14
  have hw' : (([letS (formS op)] : List UInt8) = [119]) = True := eq_true ((letS_w1 _ hfl).2 hw)
  have fx4 := D4.d.cells
  simp only [C.cut_one_gos, T.tv, seval, hv5, hw']
  refine eff_store1_z T.zr_4 rfl rfl rfl rfl rfl fx4.2.2.1 (D4.d.notfz 2) ?_
  have D6 := D4.set 2 (.bool true) (ins0 s.p 0 true) rfl rfl (fun _ _ => rfl)
  have q6 := setAt_get (o := 2) q4 (.bool true)
  generalize setAt _ ⟨q, 2, none⟩ _ = h6 at *
  simp only [C.cut_one_gos, T.tv, seval]
  refine eff_callF rfl ((cnum_any 1 hl (by omega) D6.d.rd).mono ?_)
  intro v7 h7 hp7
  have D7 := D6.step hp7.1 hp7.2.1
  have hv7 := hp7.2.2
  have q7 := Fr_blk hp7.1 q6 D6.d.gq
  clear hp7
  have bn2 : (numS l 1 s4).1 < 256 := numS_lt
  have hYd : oneR l s.p (op, s4) = if formS (numS l 1 s4).1 ≠ 6 ∧ formS (numS l 1 s4).1 ≠ 7 then (ins0 s.p (numS l 1 s4).1 true, failS 14 s.p (numS l 1 s4).2) else opsD (ins0 s.p (numS l 1 s4).1 true) s.p (formS (numS l 1 s4).1) l (numS l 1 s4).2 := by
    unfold oneR; rw [if_pos hw]
  rw [hYd]
  clear hYd
  generalize numS l 1 s4 = T2 at *
  obtain ⟨op2, s7⟩ := T2
  simp only at hv7 D7 bn2 ⊢
  have hfl2 := formS_lt op2 bn2
  have hfq2 := frm_eq op2 bn2
  have hwr : IntKind.u8.wrap (op2 : Int) = (op2 : Int) := wrap_u8 (by omega) (by omega)
  simp only [C.cut_one_gos, T.tv, seval, hv7]
  refine eff_callF rfl ((rform_any op2 bn2 h7).mono ?_)
  intro v8 h8 hp8
  have e8 := hp8.1
  subst e8
  have hv8 := hp8.2
  rw [hfq2] at hv8
  clear hp8 hfq2
  by_cases hbad : formS op2 ≠ 6 ∧ formS op2 ≠ 7
  · rw [if_pos hbad]
    have g6 : (([letS (formS op2)] : List UInt8) = [108]) = False := eq_false (fun e => hbad.1 ((letS_l1 _ hfl2).1 e))
    have g7 : (([letS (formS op2)] : List UInt8) = [110]) = False := eq_false (fun e => hbad.2 ((letS_n1 _ hfl2).1 e))
    have fx7 := D7.d.cells
    have e0 : (ins0 s.p 0 true).at' = (s.p : Int) := rfl
    rw [e0] at fx7
    simp only [C.cut_one_gos, T.tv, seval, hv8, fx7, g6, g7]
    refine eff_callF rfl ((cfail_any 14 s.p D7.d.rd).mono ?_)
    intro v9 h9 hp9
    have D9 := D7.step hp9.1 hp9.2
    have q9 := Fr_blk hp9.1 q7 D7.d.gq
    clear hp9
    have fx9 := D9.d.cells
    simp only [C.cut_one_gos, T.tv, seval, hwr]
    refine eff_store1_z T.zr_5 rfl rfl rfl rfl rfl fx9.2.1 (D9.d.notfz 1) ?_
    have D10 := D9.set 1 (.int .u8 op2) (ins0 s.p op2 true) rfl rfl (fun _ _ => rfl)
    have q10 := setAt_get (o := 1) q9 (.int .u8 op2)
    generalize setAt _ ⟨q, 1, none⟩ _ = h10 at *
    have h14 := c14_any (ins0 s.p op2 true) s.p 0 h10 2 (.int .i64 op2) (.bool true) (.bool true) (by omega) rfl hl rfl hpl rfl rfl D10 q10
    rw [ops0] at h14
    simp only [T.tv]
    exact h14
  · rw [if_neg hbad]
    have g67 : ((([letS (formS op2)] : List UInt8) = [108]) = True) ∨ (((([letS (formS op2)] : List UInt8) = [108]) = False) ∧ ((([letS (formS op2)] : List UInt8) = [110]) = True)) := by
      by_cases h6 : formS op2 = 6
      · exact Or.inl (eq_true ((letS_l1 _ hfl2).2 h6))
      · exact Or.inr ⟨eq_false (fun e => h6 ((letS_l1 _ hfl2).1 e)), eq_true ((letS_n1 _ hfl2).2 (by omega))⟩
    have fx7 := D7.d.cells
    rcases g67 with fc | fc
    all_goals
      simp only [C.cut_one_gos, T.tv, seval, hv8, fc, hwr]
      refine eff_store1_z T.zr_5 rfl rfl rfl rfl rfl fx7.2.1 (D7.d.notfz 1) ?_
      have D10 := D7.set 1 (.int .u8 op2) (ins0 s.p op2 true) rfl rfl (fun _ _ => rfl)
      have q10 := setAt_get (o := 1) q7 (.int .u8 op2)
      generalize setAt _ ⟨q, 1, none⟩ _ = h10 at *
      have h14 := c14_any (ins0 s.p op2 true) s.p (formS op2) h10 2 (.int .i64 op2) (.bool true) (.bool false) (by omega) rfl hl rfl hpl rfl rfl D10 q10
      simp only [T.tv]
      exact h14
end
end Go.Proofs.YtflocjbhcjhenaaGreatDoor
namespace Go.Proofs.YtflocjbhcjhenaaGreatDoor
open Go.Vc
set_option maxRecDepth 100000
theorem InsF.rc {h h' : Heap} {base g : Nat} {v : Value} {xs : List In} {l : List UInt8} {s : RS} (H : InsF h base v xs) (f : Fr (fun k => k = g) h h') (R : Cutr h g l s) : InsF h' base v xs := by
  obtain ⟨rows, h1, h2, h3, h4⟩ := H
  refine ⟨rows, h1, h2.fr f ?_, fun j hj => (h3 j hj).fr f ?_, h4⟩
  · intro k hk hs; subst hs; exact Own_ne h2 R.1 (by decide) hk
  · intro b hb hs; subst hs
    have := (h3 j hj).int hb R.1
    exact absurd this (by decide)
structure RecS (h hc : Heap) (g gb : Nat) (l : List UInt8) (ats : List Int) (sv : Value) (xs : List In) (s : RS) : Prop where
  x : Ext h hc
  r : Cutr hc g l s
  k : hc[gb]? = some (.cells (begV l.length ats).toArray 4 (0, 0))
  f : InsF hc h.size sv xs
  g0 : h.size ≤ g
section
variable {h h1 h2 : Heap} {g gb : Nat} {l : List UInt8} {ats : List Int} {sv : Value} {xs : List In} {s s' : RS}
theorem RecS.step (H : RecS h h1 g gb l ats sv xs s) (f : Fr (fun k => k = g) h1 h2) (r : Cutr h2 g l s') : RecS h h2 g gb l ats sv xs s' := by
  have hg := H.g0
  refine ⟨Fr.trans H.x f (fun _ _ h => h) (fun k hk hs => by omega), r, Fr_blk f H.k ?_, H.f.rc f H.r, hg⟩
  · intro e; have k1 := H.r.1; rw [← e] at k1; exact absurd (blk_ty H.k k1) (by decide)
theorem RecS.ext (H : RecS h h1 g gb l ats sv xs s) (e : Ext h1 h2) : RecS h h2 g gb l ats sv xs s := ⟨H.x.trans e, H.r.fr e id, Fr_blk e H.k id, H.f.ext e, H.g0⟩
end
set_option maxHeartbeats 8000000 in
theorem rdecode_any (l : List UInt8) (h : Heap) (hl : l.length ≤ 1073741824) :
    HCalls Tryz.prog 62 #[str l] h fun v h' => Ext h h' ∧ ∃ sv, v = .tuple #[sv, .int .i64 ((decD l).2.1 : Int), .int .i64 ((decD l).2.2 : Int)] ∧ InsF h' h.size sv (decD l).1 := by
  refine C.ref2_Decode_calls (args := [str l]) rfl ?_
  generalize hY : decD l = Y
  unfold decD at hY
  by_cases hlen : l.length = 0 ∨ 65535 < l.length
  · rw [if_pos hlen] at hY
    subst hY
    by_cases h0 : l.length = 0
    · have h0' : (l.length : Int) < 1 := by omega
      simp only [C.ref2_Decode_gos, T.tv, seval, h0']
      exact ⟨Ext.refl _, _, rfl, InsF.nil⟩
    · have h0' : ¬ (l.length : Int) < 1 := by omega
      have h1 : (65535 : Int) < l.length := by omega
      simp only [C.ref2_Decode_gos, T.tv, seval, h0', h1]
      exact ⟨Ext.refl _, _, rfl, InsF.nil⟩
  rw [if_neg hlen] at hY
  have h0 : ¬ (l.length : Int) < 1 := by omega
  have h1 : ¬ (65535 : Int) < l.length := by omega
  simp only [C.ref2_Decode_gos, T.tv, seval, h0, h1]
  refine eff_box ?_
  have X3 := Ext.push h (.cells #[str l, .int .i64 0, .int .i64 0, .int .i64 0] 120)
  have r3 : Cutr (h.push (.cells #[str l, .int .i64 0, .int .i64 0, .int .i64 0] 120)) h.size l ⟨0, 0, 0⟩ := ⟨by simp, Nat.zero_le _⟩
  simp only [C.ref2_Decode_gos, T.tv, seval]
  generalize h.push (.cells #[str l, .int .i64 0, .int .i64 0, .int .i64 0] 120) = h3 at *
  obtain ⟨g, hg⟩ : ∃ g, g = h.size := ⟨_, rfl⟩
  have r3 : Cutr h3 g l ⟨0, 0, 0⟩ := by rw [hg]; exact r3
  have hgh : h.size ≤ g := by omega
  rw [← hg]
  refine eff_make T.slT_103 rfl rfl (by omega) (by omega) (by omega) ?_
  intro cs z ii hii hzz hcs
  have hz1 : z.cells = #[.bool false] := by
    obtain ⟨ii', z', w1, w2, w3, _⟩ := zr_spec T.zr_4
    rw [hii] at w1; cases w1
    rw [hzz] at w2; cases w2
    exact w3
  rw [hz1, show ((l.length : Nat) : Int).toNat * 1 = l.length by omega, begV_zero] at hcs
  subst hcs
  have X4 := X3.trans (Ext.push h3 (.cells (begV l.length []).toArray 4))
  have r4 := r3.fr (Ext.push h3 (.cells (begV l.length []).toArray 4)) id
  have k4 : (h3.push (.cells (begV l.length []).toArray 4))[h3.size]? = some (.cells (begV l.length []).toArray 4 (0, 0)) := by simp
  have hgs : h.size ≤ h3.size := X3.size
  generalize h3.push (.cells (begV l.length []).toArray 4) = h4 at *
  generalize h3.size = gb at *
  simp only [C.ref2_Decode_gos, T.tv, seval]
  clear X3 r3
  refine loop_intro [0, 5, 6, 7] (fun m ρ hc => ∃ (xs : List In) (s : RS) (sv : Value) (rows : List (List Value)), xs.length + m ≤ l.length ∧ (s.e = 0 → l.length - s.p ≤ m) ∧ ρ = [(0, str l), (5, .pointer (some ⟨g, 0, none⟩)), (6, .slice (some ⟨gb, 0, none⟩) l.length l.length), (7, sv)] ∧
      Ext h hc ∧ Cutr hc g l s ∧ hc[gb]? = some (.cells (begV l.length (xs.map In.at')).toArray 4 (0, 0)) ∧
      rows.length = xs.length ∧ Own hc h.size 98 8 sv xs.length rows.flatten ∧ (∀ j, j < xs.length → InP hc h.size (xs.getD j in0) (rows.getD j [])) ∧ (∀ j k, j < k → k < xs.length → ∀ b c, rowB (rows.getD j []) b → rowB (rows.getD k []) c → b < c) ∧
      (∀ x ∈ xs, ∃ a : Nat, x.at' = (a : Int) ∧ a ≤ l.length) ∧ endD l (allD l m xs s) = Y) ?_ ?_
  · simp only [T.tv, seval]
    exact ⟨l.length, [], ⟨0, 0, 0⟩, _, [], by simp, by simp, rfl, X4, r4, k4, rfl, Own.nil, fun j hj => by simp at hj, fun j k _ hk => by simp at hk, by simp, hY⟩
  clear X4 r4 k4 hY
  rintro m ρ hc ⟨xs, s, sv, rows, hm1, hm2, rfl, X, R, KB, hr1, own, hr3, hr4, hats, hY⟩
  have hpl := R.2
  have d1 := R.c1
  have d2 := R.c2
  by_cases hmore : s.p < l.length ∧ s.e = 0
  case neg =>
    rw [allD_end hmore] at hY
    have S0 : RecS h hc g gb l (xs.map In.at') sv xs s := ⟨X, R, KB, ⟨rows, hr1, own, hr3, hr4⟩, hgh⟩
    obtain ⟨sa, sc, rfl, _⟩ := own.slN.2
    have hxl := Own_le own
    unfold endD at hY
    simp only at hY
    generalize hF : chkD l.length (xs.map In.at') xs s = F at *
    by_cases hp : s.p < l.length
    case' pos =>
      have hlt' : (s.p : Int) < (l.length : Int) := by omega
      have he : ¬ (s.e : Int) = 0 := by omega
      simp only [C.ref2_Decode_gos, T.tv, seval, d1, d2, hlt', eq_false he]
    case' neg =>
      have hlt' : ¬ (s.p : Int) < (l.length : Int) := by omega
      simp only [C.ref2_Decode_gos, T.tv, seval, d1, hlt']
    all_goals
      refine loop_intro [0, 5, 6, 7, 51, 52, 53] (fun m ρ hc => ∃ (i : Nat) (s1 : RS), m = xs.length - i ∧ i ≤ xs.length ∧ ρ = [(0, str l), (5, .pointer (some ⟨g, 0, none⟩)), (6, .slice (some ⟨gb, 0, none⟩) l.length l.length), (7, .slice sa xs.length sc), (51, .slice sa xs.length sc), (52, .int .i64 xs.length), (53, .int .i64 i)] ∧
        RecS h hc g gb l (xs.map In.at') (.slice sa xs.length sc) xs s1 ∧ chkD l.length (xs.map In.at') (xs.drop i) s1 = F) ?_ ?_
      · simp only [T.tv, seval]
        exact ⟨_, 0, s, rfl, Nat.zero_le _, rfl, S0, hF⟩
      clear S0 hF X R KB own hr3 hr4 hr1 d1 d2
      rintro m ρ hc ⟨i, s1, rfl, hi, rfl, S1, hF⟩
      rcases Nat.lt_or_ge i xs.length with hlt | hge
      case inr =>
        have hlt' : ¬ (i : Int) < xs.length := by omega
        have hd : xs.drop i = [] := by rw [List.drop_eq_nil_iff]; omega
        rw [hd, chkD] at hF
        subst hF
        have d2 := S1.r.c2
        have d3 := S1.r.c3
        by_cases he : s1.e = 0
        · have he' : (s1.e : Int) = 0 := by omega
          rw [if_neg (by simp [he])] at hY
          subst hY
          simp only [C.ref2_Decode_gos, T.tv, seval, hlt', d2, eq_true he']
          exact ⟨S1.x, _, rfl, by rw [hg]; exact S1.f⟩
        · have he' : ¬ (s1.e : Int) = 0 := by omega
          rw [if_pos (by simpa using he)] at hY
          subst hY
          simp only [C.ref2_Decode_gos, T.tv, seval, hlt', d2, d3, eq_false he']
          exact ⟨S1.x, _, rfl, InsF.nil⟩
      have hlt' : (i : Int) < xs.length := by omega
      rw [drop_getD (d := in0) hlt, chkD] at hF
      obtain ⟨rb, ro, rc, vk, vt, heq, hrd0, sk, st⟩ := S1.f.at hlt
      cases heq
      obtain ⟨a, ha, hal⟩ := hats _ (getD_mem (d := in0) hlt)
      have htl := Own_le st
      generalize xs.getD i in0 = x at *
      rw [ha, Int.toNat_natCast] at hF
      have hldx := ld_agg T.ag_98 hrd0 rfl
      obtain ⟨_, ak, kk, rfl, _⟩ := sk.slN
      obtain ⟨_, at7, kt, rfl, _⟩ := st.slN
      simp only [InV] at hldx
      simp (disch := omega) only [C.ref2_Decode_gos, T.tv, seval, hlt', hldx]
      refine eff_alloc_z T.zr_98 ?_
      simp only [T.tv, seval]
      refine eff_store_new_z T.zr_98 rfl rfl rfl (by simp [Value.cells, oneCell]) rfl ?_
      intro h3 x3 hlt3 hrd3 b3
      change h3[hc.size]? = some (.cells (InV x (.slice ak x.keys.length kk) (.slice at7 x.tgts.length kt)).toArray 98 (0, 0)) at b3
      have c7 : cellAt h3 ⟨hc.size, 7, none⟩ = some (.slice at7 x.tgts.length kt) := hrd3 7 _ rfl
      have S3 := S1.ext x3
      have st3 := st.ext x3
      have hqg : hc.size ≠ g := by have := S1.r.lt; omega
      clear hldx hrd0 hrd3
      generalize hc.size = q at *
      simp only [C.ref2_Decode_gos, T.tv, seval, c7]
      refine loop_intro [0, 5, 6, 7, 9, 51, 52, 53, 58, 59, 60] (fun m ρ hc => ∃ (j : Nat) (s2 : RS), m = x.tgts.length - j ∧ j ≤ x.tgts.length ∧
        ρ = [(0, str l), (5, .pointer (some ⟨g, 0, none⟩)), (6, .slice (some ⟨gb, 0, none⟩) l.length l.length), (7, .slice (some ⟨rb, ro, none⟩) xs.length sc), (9, .pointer (some ⟨q, 0, none⟩)), (51, .slice (some ⟨rb, ro, none⟩) xs.length sc), (52, .int .i64 xs.length), (53, .int .i64 i), (58, .slice at7 x.tgts.length kt), (59, .int .i64 x.tgts.length), (60, .int .i64 j)] ∧
        RecS h hc g gb l (xs.map In.at') (.slice (some ⟨rb, ro, none⟩) xs.length sc) xs s2 ∧ hc[q]? = some (.cells (InV x (.slice ak x.keys.length kk) (.slice at7 x.tgts.length kt)).toArray 98 (0, 0)) ∧ Own hc h.size 3 1 (.slice at7 x.tgts.length kt) x.tgts.length (intsV x.tgts) ∧
        chkD l.length (xs.map In.at') (xs.drop (i + 1)) (tgtsD l.length (xs.map In.at') a (x.tgts.drop j) s2) = F) ?_ ?_
      · simp only [T.tv, seval]
        exact ⟨_, 0, s1, rfl, Nat.zero_le _, rfl, S3, b3, st3, hF⟩
      clear S3 b3 st3 hF S1 st sk c7 x3 hlt3
      rintro m ρ hc2 ⟨j, s2, rfl, hj, rfl, S4, b4, st4, hF⟩
      rcases Nat.lt_or_ge j x.tgts.length with hjl | hjg
      case inr =>
        have hlt2 : ¬ (j : Int) < x.tgts.length := by omega
        have hd : x.tgts.drop j = [] := by rw [List.drop_eq_nil_iff]; omega
        rw [hd, tgtsD] at hF
        simp (disch := omega) only [C.ref2_Decode_gos, T.tv, seval, hlt2]
        exact ⟨_, by omega, i + 1, s2, rfl, by omega, by simp, S4, hF⟩
      have hlt2 : (j : Int) < x.tgts.length := by omega
      rw [drop_getD (d := 0) hjl, tgtsD] at hF
      obtain ⟨tb, to, tc, heqt, hcs, _⟩ := st4.slN.at hjl
      cases heqt
      have t0 : cellAt hc2 ⟨tb, to + j, none⟩ = some (.int .i64 (x.tgts.getD j 0)) := by
        have := hcs 0 (.int .i64 (x.tgts.getD j 0)) (by simp [intsV, hjl])
        simpa using this
      generalize x.tgts.getD j 0 = t at *
      have cq : cellAt hc2 ⟨q, 0, none⟩ = some (.int .i64 (a : Int)) := by rw [cellAt_of b4, ← ha]; rfl
      by_cases hbt : badT l.length (xs.map In.at') t = true
      case neg =>
        rw [if_neg hbt] at hF
        have hb3 : 0 ≤ t ∧ t < (l.length : Int) ∧ (xs.map In.at').contains t = true := by
          unfold badT at hbt
          simp only [Bool.not_eq_true', Bool.and_eq_false_iff, not_or, Bool.not_eq_false, decide_eq_true_eq] at hbt
          exact ⟨hbt.1.1, hbt.1.2, hbt.2⟩
        obtain ⟨tn, rfl⟩ : ∃ tn : Nat, t = (tn : Int) := ⟨t.toNat, by omega⟩
        have g1 : ¬ (tn : Int) < 0 := by omega
        have g2 : ¬ (l.length : Int) ≤ (tn : Int) := by omega
        have g3 : (tn : Int) < (l.length : Int) := hb3.2.1
        have hbc : cellAt hc2 ⟨gb, tn, none⟩ = some (.bool true) := by
          rw [cellAt_of S4.k, List.getElem?_toArray, begV_at (by omega), hb3.2.2]
        simp (disch := omega) only [C.ref2_Decode_gos, T.tv, seval, hlt2, t0, g1, g2, hbc]
        exact ⟨_, by omega, j + 1, s2, rfl, by omega, by simp, S4, b4, st4, hF⟩
      rw [if_pos hbt] at hF
      have hfin : ∀ (h6 : Heap), Fr (fun k => k = g) hc2 h6 ∧ Cutr h6 g l (failS 16 a s2) → RecS h h6 g gb l (xs.map In.at') (.slice (some ⟨rb, ro, none⟩) xs.length sc) xs (failS 16 a s2) ∧ h6[q]? = some (.cells (InV x (.slice ak x.keys.length kk) (.slice (some ⟨tb, to, none⟩) x.tgts.length kt)).toArray 98 (0, 0)) ∧ Own h6 h.size 3 1 (.slice (some ⟨tb, to, none⟩) x.tgts.length kt) x.tgts.length (intsV x.tgts) := by
        intro h6 hp6
        refine ⟨S4.step hp6.1 hp6.2, Fr_blk hp6.1 b4 hqg, st4.fr hp6.1 ?_⟩
        intro k hk hs
        subst hs
        exact Own_ne st4 S4.r.1 (by decide) hk
      by_cases g1 : t < 0
      case' pos =>
        simp (disch := omega) only [C.ref2_Decode_gos, T.tv, seval, hlt2, t0, g1, cq]
      case' neg =>
        by_cases g2 : (l.length : Int) ≤ t
        case' pos =>
          simp (disch := omega) only [C.ref2_Decode_gos, T.tv, seval, hlt2, t0, g1, g2, cq]
        case' neg =>
          obtain ⟨tn, rfl⟩ : ∃ tn : Nat, t = (tn : Int) := ⟨t.toNat, by omega⟩
          have g3 : (tn : Int) < (l.length : Int) := by omega
          have hct : (xs.map In.at').contains ((tn : Nat) : Int) = false := by
            unfold badT at hbt
            rw [decide_eq_true (by omega : 0 ≤ (tn : Int)), decide_eq_true g3] at hbt
            simpa using hbt
          have hbc : cellAt hc2 ⟨gb, tn, none⟩ = some (.bool false) := by
            rw [cellAt_of S4.k, List.getElem?_toArray, begV_at (by omega), hct]
          simp (disch := omega) only [C.ref2_Decode_gos, T.tv, seval, hlt2, t0, g1, g2, hbc, cq]
      all_goals
        refine eff_callF rfl ((cfail_any 16 a S4.r).mono ?_)
        intro v6 h6 hp6
        obtain ⟨S6, b6, st6⟩ := hfin h6 hp6
        simp (disch := omega) only [C.ref2_Decode_gos, T.tv, seval]
        exact ⟨_, by omega, j + 1, _, rfl, by omega, by simp, S6, b6, st6, hF⟩
  have he0 : (s.e : Int) = 0 := by omega
  have hpi : (s.p : Int) < (l.length : Int) := by omega
  have hbc : cellAt hc ⟨gb, s.p, none⟩ = some (.bool ((xs.map In.at').contains ((s.p : Nat) : Int))) := by
    rw [cellAt_of KB, List.getElem?_toArray]
    exact begV_at hmore.1 _
  simp (disch := omega) only [C.ref2_Decode_gos, T.tv, seval, d1, d2, hpi, eq_true he0]
  refine eff_store1_z T.zr_4 rfl rfl rfl rfl rfl hbc (by simp [frozenAt, KB]) ?_
  have f8 : Fr (fun k => k = gb) hc (setAt hc ⟨gb, s.p, none⟩ (.bool true)) := Fr.set (S := fun k => k = gb) _ _ _ fun _ => rfl
  have KB8 := setAt_get (o := s.p) KB (.bool true)
  rw [begV_set] at KB8
  have hgbg : gb ≠ g := by intro e; have k1 := R.1; rw [← e] at k1; exact absurd (blk_ty KB k1) (by decide)
  have R8 := R.fr f8 (Ne.symm hgbg)
  have X8 : Ext h (setAt hc ⟨gb, s.p, none⟩ (.bool true)) := Fr.trans X f8 (fun _ _ h => h) (fun k hk hs => by omega)
  have own8 := own.fr f8 (fun k hk hS => by subst hS; exact Own_ne own KB (by decide) hk)
  have hr8 : ∀ j, j < xs.length → InP (setAt hc ⟨gb, s.p, none⟩ (.bool true)) h.size (xs.getD j in0) (rows.getD j []) := fun j hj => (hr3 j hj).fr f8 (fun b hb hs => by subst hs; exact absurd ((hr3 j hj).int hb KB) (by decide))
  generalize setAt hc ⟨gb, s.p, none⟩ (.bool true) = h8 at *
  clear f8 hbc KB X own hr3 R d1 d2
  simp only [C.ref2_Decode_gos, T.tv, seval]
  refine eff_callF rfl ((cone_any hl R8).mono ?_)
  intro v9 h9 hp9
  have f9 := hp9.1
  have R9 := hp9.2.1
  obtain ⟨vk, vt, hv9, ok9, ot9, dj9⟩ := hp9.2.2
  clear hp9
  obtain ⟨m', rfl⟩ : ∃ m', m = m' + 1 := ⟨m - 1, by have := hm2 hmore.2; omega⟩
  rw [allD, if_pos hmore] at hY
  have hxa := oneD_at l s
  have hok := ok_one l s hpl
  generalize oneD l s = O at *
  obtain ⟨x, s9⟩ := O
  simp only at hY R9 hv9 ok9 ot9 hxa hok
  have hgd : g ≠ gb := fun e => hgbg e.symm
  have KB9 := Fr_blk f9 KB8 (Ne.symm hgd)
  have X9 : Ext h h9 := Fr.trans X8 f9 (fun _ _ h => h) (fun k hk hs => by omega)
  have own9 := own8.fr f9 (fun k hk hS => by subst hS; exact Own_ne own8 R8.1 (by decide) hk)
  have hr9 : ∀ j, j < xs.length → InP h9 h.size (xs.getD j in0) (rows.getD j []) := fun j hj => (hr8 j hj).fr f9 (fun b hb hs => by subst hs; exact absurd ((hr8 j hj).int hb R8.1) (by decide))
  have hsz8 : h.size ≤ h8.size := X8.size
  simp only [InV] at hv9
  simp only [T.tv, hv9]
  refine eff_lits T.slT_91 rfl rfl (by decide) ?_
  simp only [T.tv, seval]
  have one9 : ∀ u ∈ InV x vk vt, oneCell u = true := by
    intro u hu
    obtain ⟨_, ak, kk, rfl, _⟩ := ok9.slN
    obtain ⟨_, at7, kt, rfl, _⟩ := ot9.slN
    simp [InV] at hu
    rcases hu with rfl | rfl | rfl | rfl | rfl | rfl | rfl | rfl <;> rfl
  refine eff_append_own (m := 1) T.slT_91 rfl rfl (own9.push _) rfl (Rd_new (vs := InV x vk vt)) one9 (by omega) (by omega) (by have := X9.size; simp; omega) ?_
  intro v10 h10 own10 fr10 _
  have o' : Obj := .cells (InV x vk vt).toArray 98
  have R9p := R9.fr (Ext.push h9 (.cells (InV x vk vt).toArray 98)) id
  have KB9p := push_blk (o' := .cells (InV x vk vt).toArray 98) KB9
  have ownp := own9.push (.cells (InV x vk vt).toArray 98)
  have R10 := R9p.fr fr10 (Own_ne ownp R9p.1 (by decide))
  have KB10 := Fr_blk fr10 KB9p (Own_ne ownp KB9p (by decide))
  have X10 : Ext h h10 := Ext.app (X9.trans (Ext.push _ _)) fr10 (fun k hk => (own9.lt k hk).1)
  have hrow : ∀ (y : In) (r : List Value) (hh : InP h9 h.size y r), InP h10 h.size y r := by
    intro y r hh
    have h1 := hh.fr (Ext.push h9 (.cells (InV x vk vt).toArray 98)) (fun _ _ => id)
    refine h1.fr fr10 (fun b hb hs => ?_)
    obtain ⟨cs, fz, hc⟩ := Own.cells ownp hs
    exact absurd (h1.int hb hc) (by decide)
  have hnew : InP h9 h.size x (InV x vk vt) := ⟨vk, vt, rfl, ok9.mono hsz8, ot9.mono hsz8, dj9⟩
  have hnlt : ∀ b, rowB (InV x vk vt) b → h8.size ≤ b := by
    intro b hb
    rcases hb with hb | hb
    · exact (ok9.lt b hb).1
    · exact (ot9.lt b hb).1
  have own11 : Own h10 h.size 98 8 v10 (xs.length + 1) (rows ++ [InV x vk vt]).flatten := by
    rw [List.flatten_append]; simpa using own10
  obtain ⟨rows', q1, q2, q3, q4⟩ := InsF.snoc (h := h8) (x := x) hr1 hr8 hr4 own11 (hrow _ _ hnew) (fun j hj => hrow _ _ (hr9 j hj)) hnlt
  rw [List.length_append, List.length_singleton] at q1
  have e10 : (xs ++ [x]).length = xs.length + 1 := by simp
  rw [e10] at q2
  have KB11 : h10[gb]? = some (.cells (begV l.length ((xs ++ [x]).map In.at')).toArray 4 (0, 0)) := by
    rw [KB10, List.map_append, List.map_singleton, hxa]
  simp only [T.tv, seval]
  refine ⟨m', Nat.lt_succ_self _, xs ++ [x], s9, v10, rows', by rw [e10]; omega, ?_, by simp, X10, R10, KB11, by rw [e10]; exact q1, by rw [e10]; exact q2, q3, q4, ?_, hY⟩
  · intro he
    have h1 := hok.2 hmore.1 hmore.2
    have h2 := hm2 hmore.2
    omega
  · intro y hy
    rcases List.mem_append.1 hy with hy | hy
    · exact hats y hy
    · rw [List.mem_singleton.1 hy, hxa]
      exact ⟨s.p, rfl, hpl⟩
end Go.Proofs.YtflocjbhcjhenaaGreatDoor
namespace Go.Proofs.YtflocjbhcjhenaaGreatDoor
open Go.Vc
set_option maxRecDepth 100000
def Bd (l : List UInt8) (x : In) : Prop := x.keys.length ≤ l.length + 8 ∧ x.tgts.length ≤ l.length + 8
theorem oneD_fit (l : List UInt8) (s : RS) : (oneD l s).1.at' = (s.p : Int) ∧ (oneD l s).1.op < 256 := by
  have h1 := numS_lt (l := l) (n := 1) (s := s)
  have h2 := numS_lt (l := l) (n := 1) (s := (numS l 1 s).2)
  have hc : ∀ (x : In) (a f : Nat) (t : RS), (choD x a f l t).1.at' = x.at' ∧ (choD x a f l t).1.op = x.op := by
    intro x a f t
    unfold choD
    simp only
    split
    · split <;> exact ⟨rfl, rfl⟩
    · split <;> exact ⟨rfl, rfl⟩
  have ho : ∀ (x : In) (a f : Nat) (t : RS), (opsD x a f l t).1.at' = x.at' ∧ (opsD x a f l t).1.op = x.op := by
    intro x a f t
    have hi : ∀ (c : Prop) [Decidable c] (y z : In × RS), (y.1.at' = x.at' ∧ y.1.op = x.op) → (z.1.at' = x.at' ∧ z.1.op = x.op) → ((if c then y else z).1.at' = x.at' ∧ (if c then y else z).1.op = x.op) := by
      intro c _ y z hy hz
      split <;> assumption
    have r3 : x.at' = x.at' ∧ x.op = x.op := ⟨rfl, rfl⟩
    unfold opsD
    simp only
    exact hi _ _ _ r3 (hi _ _ _ r3 (hi _ _ _ r3 (hi _ _ _ r3 (hi _ _ _ r3 (hi _ _ _ r3 (hi _ _ _ r3 (hi _ _ _ r3 (hi _ _ _ r3 (hi _ _ _ (hc x a f t) (hi _ _ _ r3 (hi _ _ _ r3 (hi _ _ _ r3 r3))))))))))))
  unfold oneD
  simp only
  split
  · split
    · exact ⟨rfl, h2⟩
    · exact ⟨(ho _ _ _ _).1, by rw [(ho _ _ _ _).2]; exact h2⟩
  · exact ⟨(ho _ _ _ _).1, by rw [(ho _ _ _ _).2]; exact h1⟩
theorem allD_fit (l : List UInt8) (hl : l.length ≤ 1073741824) : ∀ (k : Nat) (xs : List In) (s : RS), s.p ≤ l.length → (∀ x ∈ xs, x.Fit) → ∀ x ∈ (allD l k xs s).1, x.Fit := by
  intro k
  induction k with
  | zero => intro xs s _ h; exact h
  | succ k ih =>
    intro xs s hs h
    rw [allD]
    split
    · refine ih _ _ ((ok_one l s hs).1.2.1 hs) (fun x hx => ?_)
      rcases List.mem_append.1 hx with hx | hx
      · exact h x hx
      · rw [List.mem_singleton.1 hx]
        obtain ⟨e1, e2⟩ := oneD_fit l s
        exact ⟨e2, by rw [e1]; omega, by rw [e1]; omega⟩
    · exact h
theorem decD_fit (l : List UInt8) (hl : l.length ≤ 1073741824) : ∀ x ∈ (decD l).1, x.Fit := by
  unfold decD
  split
  · simp
  · unfold endD
    simp only
    split
    · simp
    · exact allD_fit l hl _ _ _ (Nat.zero_le _) (by simp)
end Go.Proofs.YtflocjbhcjhenaaGreatDoor
