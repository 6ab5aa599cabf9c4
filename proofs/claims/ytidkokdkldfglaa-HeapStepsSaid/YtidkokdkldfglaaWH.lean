/- A thing made by the reference: by the program. No condition. -/
import Derived.Test.YtidkokdkldfglaaWG
namespace Go.Proofs.Ytidkokdkldfglaa
open Go.Vc
set_option maxRecDepth 100000
set_option linter.unusedSimpArgs false
set_option linter.unusedVariables false

section
variable {τ ρ : Env} {h : Heap} {K : Value → Heap → Prop} {ty : TypeId} {x y : Operand}
theorem eff_mkint {n : Nat} (hx : evo τ ρ x = some (.int .i64 (n : Int))) (hy : evo τ ρ y = some (.int .i64 (n : Int))) (hn : n ≤ 1000000) (H : K (.slice (some ⟨h.size, 0, none⟩) n n) (h.push (.cells ((List.replicate n 0).map intV).toArray 3 (0, 0)))) :
    eff Try.prog (.makeSlice 59 x y) ty τ ρ h K := by
  refine eff_make T.slT_59 hx hy (by omega) (by omega) (by omega) ?_
  intro cs z i h1 h2 h3
  obtain ⟨i', z', u1, u2, u3, _⟩ := zr_spec T.zr_3
  rw [u1] at h1; cases h1
  rw [u2] at h2; cases h2
  rw [u3, Int.toNat_natCast, Nat.mul_one, made_one] at h3
  subst h3
  rw [Int.toNat_natCast]
  rw [List.map_replicate] at H
  exact H
theorem eff_mkwd {n : Nat} (hx : evo τ ρ x = some (.int .i64 (n : Int))) (hy : evo τ ρ y = some (.int .i64 (n : Int))) (hn : n ≤ 1000000) (H : K (.slice (some ⟨h.size, 0, none⟩) n n) (h.push (.cells ((List.replicate n 0).map wordV).toArray 30 (0, 0)))) :
    eff Try.prog (.makeSlice 63 x y) ty τ ρ h K := by
  rw [List.map_replicate] at H
  exact eff_mkword hx hy hn H
end
section
variable {base : Nat} {h : Heap} {p : Pm} {m : Ms} {a : AS}
set_option maxHeartbeats 1000000 in
theorem mMake_t0 {hc : Heap} {p' : Pm} {mq m7 : Ms} {rn wn n g g' : Nat} {v2 v3 v9 v20 v34 v49 v62 : Value} (S : StM base h hc p p' m m7) (I : RI mq a) (hk : mq.L.length ≤ 16385) (n16 : n < 16) (hu : mq.used + (2 + rn + wn) ≤ mq.limit)
    (e7 : m7 = { L := mq.L ++ [newT g rn g' wn], roots := mq.roots, limit := mq.limit, used := mq.used + (2 + rn + wn), RS := upd mq.RS g (List.replicate rn 0), WS := upd mq.WS g' (List.replicate wn 0) }) (hg : mq.RS g = none) (hg' : mq.WS g' = none) (rn1 : rn ≤ 16384) (wn1 : wn ≤ 16384) {Q : Value → Heap → Prop}
    (H : ∀ h', NxM base h h' p m { grow a rn wn with roots := a.roots.set n a.things.length } → Q (.int .i64 0) h') (ep : p'.M = p.M := by rfl) :
    Cd.vc Try.prog C.m_Make_t0 (retQ Try.prog [(8, none)] Q) [(0, ptr p.M 0), (1, .int .i64 (n : Int)), (2, v2), (3, v3), (8, .int .i64 0), (9, v9), (20, v20), (34, v34), (49, v49), (62, v62)] hc := by
  subst e7
  have b1 : (0 : Int) ≤ (n : Int) := by omega
  have b2 : (n : Int) < ((16 : Nat) : Int) := by omega
  have l0 := S.rep.m0
  have l1 := S.rep.m1
  rw [ep] at l0 l1
  simp only [List.length_append, List.length_cons, List.length_nil, Nat.zero_add] at l0
  have w4 : IntKind.i64.wrap (((mq.L.length + 1 : Nat) : Int) - 1) = ((mq.L.length : Nat) : Int) := by rw [wrap_i64 (by omega) (by omega)]; omega
  have hrl : n < mq.roots.length := by rw [I.ro, I.ai.rt]; exact n16
  have hrk : mq.roots[n]? = some (mq.roots[n]'hrl) := by simp
  obtain ⟨lr, zr⟩ := S.rep.rk hrk
  obtain ⟨N, hN⟩ : ∃ N, N = mq.L.length + 1 := ⟨_, rfl⟩
  rw [← hN] at l0 w4
  simp (disch := first | omega | assumption) only [C.m_Make_gos, T.tv, ↓reduceIte, Nat.reduceEqDiff, reduceCtorEq, Nat.reduceLeDiff, Nat.reducePow, Int.reducePow, Int.reduceToNat, Nat.reduceAdd, C.m_Make_t0_go, l0, l1, b1, b2, w4]
  refine eff_store1_z T.zr_3 rfl rfl rfl rfl rfl lr zr ?_
  simp (disch := first | omega | assumption) only [C.m_Make_gos, T.tv, ↓reduceIte, Nat.reduceEqDiff, reduceCtorEq, Nat.reduceLeDiff, Nat.reducePow, Int.reducePow, Int.reduceToNat, Nat.reduceAdd]
  have S7 := S.trans (S.rep.root (k := n) hrl mq.L.length)
  exact H _ ⟨p', _, S7, ep, I.make hg hg' rn1 wn1 hu⟩
set_option maxHeartbeats 4000000 in
theorem mMake_tree {hc : Heap} {mq : Ms} {rn wn n : Nat} {v9 v20 v34 v49 v62 : Value} (hbs : base ≤ hc.size) (S : StM base h hc p p m { mq with used := mq.used + (2 + rn + wn) }) (I : RI mq a) (hk : mq.L.length ≤ 16385) (rn1 : rn ≤ 16384) (wn1 : wn ≤ 16384) (n16 : n < 16) (hu : mq.used + (2 + rn + wn) ≤ mq.limit) {Q : Value → Heap → Prop}
    (H : ∀ h', NxM base h h' p m { grow a rn wn with roots := a.roots.set n a.things.length } → Q (.int .i64 0) h') :
    Cd.vc Try.prog (Z.S (Cd.tree C.m24) C.m_Make_t0) (retQ Try.prog [(8, none)] Q) [(0, ptr p.M 0), (1, .int .i64 (n : Int)), (2, .int .i64 (rn : Int)), (3, .int .i64 (wn : Int)), (8, .int .i64 0), (9, v9), (20, v20), (34, v34), (49, v49), (62, v62)] hc := by
  have b1 : (0 : Int) ≤ (n : Int) := by omega
  have b2 : (n : Int) < ((16 : Nat) : Int) := by omega
  have q0 := S.rep.m0
  simp only at q0
  have fd : ∀ k, footM p { mq with used := mq.used + (2 + rn + wn) } k → k < hc.size := fun k hk => (S.rep.lt hk).2
  have xb := S.rep.bs
  have fM : p.M < hc.size := fd _ (.inl rfl)
  simp (disch := first | omega | assumption) only [C.m_Make_gos, T.tv, ↓reduceIte, Nat.reduceEqDiff, reduceCtorEq, Nat.reduceLeDiff, Nat.reducePow, Int.reducePow, Int.reduceToNat, Nat.reduceAdd, q0, Nat.reduceEqDiff]
  have nr : ∀ g, hc.size ≤ g → mq.RS g = none := fun g hg => by
    cases e : mq.RS g with
    | none => rfl
    | some l => have := fd g (.inr (.inr (.inr (.inl (by show mq.RS g ≠ none; rw [e]; simp))))); omega
  have nw : ∀ g, hc.size ≤ g → mq.WS g = none := fun g hg => by
    cases e : mq.WS g with
    | none => rfl
    | some l => have := fd g (.inr (.inr (.inr (.inr (by show mq.WS g ≠ none; rw [e]; simp))))); omega
  refine ⟨?_, ?_⟩
  · refine eff_mkint rfl rfl (by omega) ?_
    have X1 := Ext.push hc (.cells ((List.replicate rn 0).map intV).toArray 3)
    have q1 := (S.rep.ext X1).m0
    simp only at q1
    simp (disch := first | omega | assumption) only [C.m_Make_gos, T.tv, ↓reduceIte, Nat.reduceEqDiff, reduceCtorEq, Nat.reduceLeDiff, Nat.reducePow, Int.reducePow, Int.reduceToNat, Nat.reduceAdd, q1, Nat.reduceEqDiff]
    refine eff_mkwd rfl rfl (by omega) ?_
    have X2 := X1.trans (Ext.push (hc.push (.cells ((List.replicate rn 0).map intV).toArray 3)) (.cells ((List.replicate wn 0).map wordV).toArray 30))
    have q2 := (S.rep.ext X2).m0
    simp only at q2
    simp (disch := first | omega | assumption) only [C.m_Make_gos, T.tv, ↓reduceIte, Nat.reduceEqDiff, reduceCtorEq, Nat.reduceLeDiff, Nat.reducePow, Int.reducePow, Int.reduceToNat, Nat.reduceAdd, q2, Array.size_push, Nat.reduceEqDiff]
    have j0 : ((hc.push (.cells ((List.replicate rn 0).map intV).toArray 3 (0, 0))).push (.cells ((List.replicate wn 0).map wordV).toArray 30 (0, 0)))[hc.size]? = some (.cells ((List.replicate rn 0).map intV).toArray 3 (0, 0)) := by
      rw [Array.getElem?_push_lt (by simp)]; simp
    have j1 : ((hc.push (.cells ((List.replicate rn 0).map intV).toArray 3 (0, 0))).push (.cells ((List.replicate wn 0).map wordV).toArray 30 (0, 0)))[(hc.size + 1)]? = some (.cells ((List.replicate wn 0).map wordV).toArray 30 (0, 0)) := by
      have : (hc.size + 1) = (hc.push (.cells ((List.replicate rn 0).map intV).toArray 3 (0, 0))).size := by simp
      rw [this, Array.getElem?_push_size]
    clear q1 X1
    generalize (hc.push (.cells ((List.replicate rn 0).map intV).toArray 3 (0, 0))).push (.cells ((List.replicate wn 0).map wordV).toArray 30 (0, 0)) = h2 at *
    have S2 := S.trans (S.rep.blks hbs X2 (g := hc.size) (r := rn) (g' := (hc.size + 1)) (w := wn) (by omega) (by omega) j0 j1)
    simp only at S2
    refine eff_lits T.slT_58 rfl rfl (by decide) ?_
    have er : (#[.slice (some ⟨hc.size, 0, none⟩) rn rn, .slice (some ⟨(hc.size + 1), 0, none⟩) wn wn, .bool false] : Array Value) = (newT hc.size rn (hc.size + 1) wn).row.toArray := rfl
    have X3 := Ext.push h2 (.cells (newT hc.size rn (hc.size + 1) wn).row.toArray 65)
    have rd3 : Rd (h2.push (.cells (newT hc.size rn (hc.size + 1) wn).row.toArray 65)) h2.size 0 (newT hc.size rn (hc.size + 1) wn).row := Rd_new (vs := (newT hc.size rn (hc.size + 1) wn).row)
    have S3 := S2.ext X3
    have q3 := S3.rep.m0
    simp only at q3
    have lo3 := S3.rep.lo
    simp only at lo3
    simp (disch := first | omega | assumption) only [C.m_Make_gos, T.tv, ↓reduceIte, Nat.reduceEqDiff, reduceCtorEq, Nat.reduceLeDiff, Nat.reducePow, Int.reducePow, Int.reduceToNat, Nat.reduceAdd, er, q3, Nat.reduceEqDiff]
    have hb3 : base ≤ (h2.push (.cells (newT hc.size rn (hc.size + 1) wn).row.toArray 65)).size := Nat.le_trans (Nat.le_trans hbs X2.size) X3.size
    generalize h2.push (.cells (newT hc.size rn (hc.size + 1) wn).row.toArray 65) = h3 at *
    refine ⟨rfl, ?_⟩
    refine eff_append_ownF (m := 1) T.slT_58 rfl rfl lo3 rfl rd3 (one_row3 _) (by omega) (by omega) hb3 ?_
    intro v' h4 o4 f4 _ n4
    have n4' : ∀ k, v'.ownBlock = some k → k = p.Lb ∨ h3.size ≤ k := fun k hk => by
      rcases n4 k hk with h1 | h1
      · exact .inl (by cases h1; rfl)
      · exact .inr h1
    have f4' : Fr (fun k => k = p.Lb) h3 h4 := f4.mono fun k _ hk => by cases hk; rfl
    obtain ⟨O', oc', rfl, S4⟩ := S3.rep.addL o4 f4' n4'
    have l7 : cellAt h4 ⟨p.M, 0, none⟩ = some (.slice (some ⟨p.Lb, 0, none⟩) mq.L.length p.lc) := by rw [f4'.cell (S3.rep.lt (.inl rfl)).2 S3.rep.dis.ml]; exact q3
    have l8 : frozenAt h4 ⟨p.M, 0, none⟩ = false := by
      rw [frozenAt_block (f4'.same _ (S3.rep.lt (.inl rfl)).2 S3.rep.dis.ml)]
      exact S3.rep.mz 0
    simp (disch := first | omega | assumption) only [C.m_Make_gos, T.tv, ↓reduceIte, Nat.reduceEqDiff, reduceCtorEq, Nat.reduceLeDiff, Nat.reducePow, Int.reducePow, Int.reduceToNat, Nat.reduceAdd, Nat.reduceEqDiff]
    refine eff_store1_z T.zr_58 rfl rfl rfl rfl rfl l7 l8 ?_
    have S6 := S3.trans S4
    simp only at S6
    simp (disch := first | omega | assumption) only [C.m_Make_gos, T.tv, ↓reduceIte, Nat.reduceEqDiff, reduceCtorEq, Nat.reduceLeDiff, Nat.reducePow, Int.reducePow, Int.reduceToNat, Nat.reduceAdd]
    exact mMake_t0 S6 I hk n16 hu rfl (nr hc.size (by omega)) (nw (hc.size + 1) (by omega)) rn1 wn1 H
  · refine eff_mkwd rfl rfl (by omega) ?_
    have X1 := Ext.push hc (.cells ((List.replicate wn 0).map wordV).toArray 30)
    have q1 := (S.rep.ext X1).m0
    simp only at q1
    simp (disch := first | omega | assumption) only [C.m_Make_gos, T.tv, ↓reduceIte, Nat.reduceEqDiff, reduceCtorEq, Nat.reduceLeDiff, Nat.reducePow, Int.reducePow, Int.reduceToNat, Nat.reduceAdd, q1, Nat.reduceEqDiff]
    refine eff_mkint rfl rfl (by omega) ?_
    have X2 := X1.trans (Ext.push (hc.push (.cells ((List.replicate wn 0).map wordV).toArray 30)) (.cells ((List.replicate rn 0).map intV).toArray 3))
    have q2 := (S.rep.ext X2).m0
    simp only at q2
    simp (disch := first | omega | assumption) only [C.m_Make_gos, T.tv, ↓reduceIte, Nat.reduceEqDiff, reduceCtorEq, Nat.reduceLeDiff, Nat.reducePow, Int.reducePow, Int.reduceToNat, Nat.reduceAdd, q2, Array.size_push, Nat.reduceEqDiff]
    have j0 : ((hc.push (.cells ((List.replicate wn 0).map wordV).toArray 30 (0, 0))).push (.cells ((List.replicate rn 0).map intV).toArray 3 (0, 0)))[hc.size]? = some (.cells ((List.replicate wn 0).map wordV).toArray 30 (0, 0)) := by
      rw [Array.getElem?_push_lt (by simp)]; simp
    have j1 : ((hc.push (.cells ((List.replicate wn 0).map wordV).toArray 30 (0, 0))).push (.cells ((List.replicate rn 0).map intV).toArray 3 (0, 0)))[(hc.size + 1)]? = some (.cells ((List.replicate rn 0).map intV).toArray 3 (0, 0)) := by
      have : (hc.size + 1) = (hc.push (.cells ((List.replicate wn 0).map wordV).toArray 30 (0, 0))).size := by simp
      rw [this, Array.getElem?_push_size]
    clear q1 X1
    generalize (hc.push (.cells ((List.replicate wn 0).map wordV).toArray 30 (0, 0))).push (.cells ((List.replicate rn 0).map intV).toArray 3 (0, 0)) = h2 at *
    have S2 := S.trans (S.rep.blks hbs X2 (g := (hc.size + 1)) (r := rn) (g' := hc.size) (w := wn) (by omega) (by omega) j1 j0)
    simp only at S2
    refine eff_lits T.slT_58 rfl rfl (by decide) ?_
    have er : (#[.slice (some ⟨(hc.size + 1), 0, none⟩) rn rn, .slice (some ⟨hc.size, 0, none⟩) wn wn, .bool false] : Array Value) = (newT (hc.size + 1) rn hc.size wn).row.toArray := rfl
    have X3 := Ext.push h2 (.cells (newT (hc.size + 1) rn hc.size wn).row.toArray 65)
    have rd3 : Rd (h2.push (.cells (newT (hc.size + 1) rn hc.size wn).row.toArray 65)) h2.size 0 (newT (hc.size + 1) rn hc.size wn).row := Rd_new (vs := (newT (hc.size + 1) rn hc.size wn).row)
    have S3 := S2.ext X3
    have q3 := S3.rep.m0
    simp only at q3
    have lo3 := S3.rep.lo
    simp only at lo3
    simp (disch := first | omega | assumption) only [C.m_Make_gos, T.tv, ↓reduceIte, Nat.reduceEqDiff, reduceCtorEq, Nat.reduceLeDiff, Nat.reducePow, Int.reducePow, Int.reduceToNat, Nat.reduceAdd, er, q3, Nat.reduceEqDiff]
    have hb3 : base ≤ (h2.push (.cells (newT (hc.size + 1) rn hc.size wn).row.toArray 65)).size := Nat.le_trans (Nat.le_trans hbs X2.size) X3.size
    generalize h2.push (.cells (newT (hc.size + 1) rn hc.size wn).row.toArray 65) = h3 at *
    refine ⟨rfl, ?_⟩
    refine eff_append_ownF (m := 1) T.slT_58 rfl rfl lo3 rfl rd3 (one_row3 _) (by omega) (by omega) hb3 ?_
    intro v' h4 o4 f4 _ n4
    have n4' : ∀ k, v'.ownBlock = some k → k = p.Lb ∨ h3.size ≤ k := fun k hk => by
      rcases n4 k hk with h1 | h1
      · exact .inl (by cases h1; rfl)
      · exact .inr h1
    have f4' : Fr (fun k => k = p.Lb) h3 h4 := f4.mono fun k _ hk => by cases hk; rfl
    obtain ⟨O', oc', rfl, S4⟩ := S3.rep.addL o4 f4' n4'
    have l7 : cellAt h4 ⟨p.M, 0, none⟩ = some (.slice (some ⟨p.Lb, 0, none⟩) mq.L.length p.lc) := by rw [f4'.cell (S3.rep.lt (.inl rfl)).2 S3.rep.dis.ml]; exact q3
    have l8 : frozenAt h4 ⟨p.M, 0, none⟩ = false := by
      rw [frozenAt_block (f4'.same _ (S3.rep.lt (.inl rfl)).2 S3.rep.dis.ml)]
      exact S3.rep.mz 0
    simp (disch := first | omega | assumption) only [C.m_Make_gos, T.tv, ↓reduceIte, Nat.reduceEqDiff, reduceCtorEq, Nat.reduceLeDiff, Nat.reducePow, Int.reducePow, Int.reduceToNat, Nat.reduceAdd, Nat.reduceEqDiff]
    refine eff_store1_z T.zr_58 rfl rfl rfl rfl rfl l7 l8 ?_
    have S6 := S3.trans S4
    simp only at S6
    simp (disch := first | omega | assumption) only [C.m_Make_gos, T.tv, ↓reduceIte, Nat.reduceEqDiff, reduceCtorEq, Nat.reduceLeDiff, Nat.reducePow, Int.reducePow, Int.reduceToNat, Nat.reduceAdd]
    exact mMake_t0 S6 I hk n16 hu rfl (nr (hc.size + 1) (by omega)) (nw hc.size (by omega)) rn1 wn1 H
set_option maxHeartbeats 4000000 in
theorem mMake_any (G : GdM base h p m a) (hk : m.L.length ≤ 16385) {k r w : Int} : HCalls Try.prog 17 #[ptr p.M 0, .int .i64 k, .int .i64 r, .int .i64 w] h fun v h' => NxM base h h' p m (aMake a k r w).1 ∧ v = .int .i64 (aMake a k r w).2 := by
  refine C.m_Make_calls (args := [ptr p.M 0, .int .i64 k, .int .i64 r, .int .i64 w]) rfl ?_
  have A := mAt_any (h := h) (k := k)
  have lim := G.i.li
  have hll := G.i.ll
  have hul := G.i.ul
  have l2 := G.r.m2
  have l3 := G.r.m3
  by_cases c0 : ¬ inR k ∨ r < 0 ∨ w < 0
  · have e : aMake a k r w = (a, 7) := by unfold aMake; rw [if_pos c0]
    rw [e]
    by_cases c1 : inR k
    · rw [decide_eq_true c1] at A
      by_cases c3 : r < 0
      · simp (disch := first | omega | assumption) only [C.m_Make_gos, T.tv, ↓reduceIte, Nat.reduceEqDiff, reduceCtorEq, Nat.reduceLeDiff, Nat.reducePow, Int.reducePow, Int.reduceToNat, Nat.reduceAdd]
        refine eff_callF rfl (A.mono ?_)
        rintro v1 h1 ⟨rfl, rfl⟩
        simp (disch := first | omega | assumption) only [C.m_Make_gos, T.tv, ↓reduceIte, Nat.reduceEqDiff, reduceCtorEq, Nat.reduceLeDiff, Nat.reducePow, Int.reducePow, Int.reduceToNat, Nat.reduceAdd, c3]
        first | exact G.stay | exact ⟨G.stay, rfl⟩
      have c4 : w < 0 := by rcases c0 with h | h | h; exact absurd c1 h; exact absurd h c3; exact h
      simp (disch := first | omega | assumption) only [C.m_Make_gos, T.tv, ↓reduceIte, Nat.reduceEqDiff, reduceCtorEq, Nat.reduceLeDiff, Nat.reducePow, Int.reducePow, Int.reduceToNat, Nat.reduceAdd]
      refine eff_callF rfl (A.mono ?_)
      rintro v1 h1 ⟨rfl, rfl⟩
      simp (disch := first | omega | assumption) only [C.m_Make_gos, T.tv, ↓reduceIte, Nat.reduceEqDiff, reduceCtorEq, Nat.reduceLeDiff, Nat.reducePow, Int.reducePow, Int.reduceToNat, Nat.reduceAdd, c3, c4]
      first | exact G.stay | exact ⟨G.stay, rfl⟩
    · rw [decide_eq_false c1] at A
      simp (disch := first | omega | assumption) only [C.m_Make_gos, T.tv, ↓reduceIte, Nat.reduceEqDiff, reduceCtorEq, Nat.reduceLeDiff, Nat.reducePow, Int.reducePow, Int.reduceToNat, Nat.reduceAdd]
      refine eff_callF rfl (A.mono ?_)
      rintro v1 h1 ⟨rfl, rfl⟩
      simp (disch := first | omega | assumption) only [C.m_Make_gos, T.tv, ↓reduceIte, Nat.reduceEqDiff, reduceCtorEq, Nat.reduceLeDiff, Nat.reducePow, Int.reducePow, Int.reduceToNat, Nat.reduceAdd]
      first | exact G.stay | exact ⟨G.stay, rfl⟩
  · have c1 : inR k := Classical.byContradiction fun h => c0 (.inl h)
    have c3 : ¬ r < 0 := fun h => c0 (.inr (.inl h))
    have c4 : ¬ w < 0 := fun h => c0 (.inr (.inr h))
    rw [decide_eq_true c1] at A
    by_cases d0 : (a.limit : Int) < r ∨ (a.limit : Int) < w
    · have e : aMake a k r w = (a, 28) := by unfold aMake; rw [if_neg c0, if_pos d0]
      rw [e]
      rw [← lim] at d0
      by_cases d1 : (m.limit : Int) < r
      · simp (disch := first | omega | assumption) only [C.m_Make_gos, T.tv, ↓reduceIte, Nat.reduceEqDiff, reduceCtorEq, Nat.reduceLeDiff, Nat.reducePow, Int.reducePow, Int.reduceToNat, Nat.reduceAdd]
        refine eff_callF rfl (A.mono ?_)
        rintro v1 h1 ⟨rfl, rfl⟩
        simp (disch := first | omega | assumption) only [C.m_Make_gos, T.tv, ↓reduceIte, Nat.reduceEqDiff, reduceCtorEq, Nat.reduceLeDiff, Nat.reducePow, Int.reducePow, Int.reduceToNat, Nat.reduceAdd, c3, c4, l2, d1]
        first | exact G.stay | exact ⟨G.stay, rfl⟩
      have d2 : (m.limit : Int) < w := by omega
      simp (disch := first | omega | assumption) only [C.m_Make_gos, T.tv, ↓reduceIte, Nat.reduceEqDiff, reduceCtorEq, Nat.reduceLeDiff, Nat.reducePow, Int.reducePow, Int.reduceToNat, Nat.reduceAdd]
      refine eff_callF rfl (A.mono ?_)
      rintro v1 h1 ⟨rfl, rfl⟩
      simp (disch := first | omega | assumption) only [C.m_Make_gos, T.tv, ↓reduceIte, Nat.reduceEqDiff, reduceCtorEq, Nat.reduceLeDiff, Nat.reducePow, Int.reducePow, Int.reduceToNat, Nat.reduceAdd, c3, c4, l2, d1, d2]
      first | exact G.stay | exact ⟨G.stay, rfl⟩
    · have d1 : ¬ (m.limit : Int) < r := by rw [lim]; omega
      have d2 : ¬ (m.limit : Int) < w := by rw [lim]; omega
      obtain ⟨rn, rfl⟩ : ∃ rn : Nat, r = rn := ⟨r.toNat, by omega⟩
      obtain ⟨wn, rfl⟩ : ∃ wn : Nat, w = wn := ⟨w.toNat, by omega⟩
      obtain ⟨n, rfl⟩ : ∃ n : Nat, k = n := ⟨k.toNat, by unfold inR at c1; omega⟩
      have n16 : n < 16 := by unfold inR at c1; omega
      have b1 : (0 : Int) ≤ (n : Int) := by omega
      have b2 : (n : Int) < ((16 : Nat) : Int) := by omega
      have rn1 : rn ≤ 16384 := by omega
      have wn1 : wn ≤ 16384 := by omega
      have eM : aMake a (n : Int) (rn : Int) (wn : Int) = (@ite _ (Fits a (2 + rn + wn)) (Classical.propDecidable _) ({ grow a rn wn with roots := a.roots.set n a.things.length }, 0) (a, 28)) := by
        unfold aMake; rw [if_neg c0, if_neg d0]; rfl
      rw [eM]
      have w1 : IntKind.i64.wrap (2 + (rn : Int)) = 2 + (rn : Int) := wrap_i64 (by omega) (by omega)
      have w2 : IntKind.i64.wrap (2 + (rn : Int) + (wn : Int)) = ((2 + rn + wn : Nat) : Int) := by rw [wrap_i64 (by omega) (by omega)]; omega
      obtain ⟨sz, hsz⟩ : ∃ sz, sz = 2 + rn + wn := ⟨_, rfl⟩
      rw [← hsz] at w2 ⊢
      have w3 : IntKind.i64.wrap ((m.used : Int) + (sz : Int)) = ((m.used + sz : Nat) : Int) := by rw [wrap_i64 (by omega) (by omega)]; omega
      simp (disch := first | omega | assumption) only [C.m_Make_gos, T.tv, ↓reduceIte, Nat.reduceEqDiff, reduceCtorEq, Nat.reduceLeDiff, Nat.reducePow, Int.reducePow, Int.reduceToNat, Nat.reduceAdd]
      refine eff_callF rfl (A.mono ?_)
      rintro v1 h1 ⟨rfl, rfl⟩
      by_cases f0 : m.used + sz ≤ m.limit
      · have f1 : ¬ (m.limit : Int) < ((m.used + sz : Nat) : Int) := by omega
        have hf : Fits a sz := by
          obtain ⟨t, t1, t2⟩ := G.i.us
          exact ⟨t, t1, by omega⟩
        rw [if_pos hf]
        have S := StM.refl G.r
        have Iq := G.i
        simp (disch := first | omega | assumption) only [C.m_Make_gos, T.tv, ↓reduceIte, Nat.reduceEqDiff, reduceCtorEq, Nat.reduceLeDiff, Nat.reducePow, Int.reducePow, Int.reduceToNat, Nat.reduceAdd, c3, c4, l2, l3, d1, d2, w1, w2, w3, f1]
        refine eff_store1_z T.zr_3 rfl rfl rfl rfl rfl l3 (G.r.mz 3) ?_
        have S1 := S.trans (S.rep.usedS (m.used + sz))
        subst hsz
        exact mMake_tree (by rw [setAt_size]; exact G.b) S1 Iq hk rn1 wn1 n16 (by omega) (fun h' N => ⟨N, rfl⟩)
      · have f1 : (m.limit : Int) < ((m.used + sz : Nat) : Int) := by omega
        simp (disch := first | omega | assumption) only [C.m_Make_gos, T.tv, ↓reduceIte, Nat.reduceEqDiff, reduceCtorEq, Nat.reduceLeDiff, Nat.reducePow, Int.reducePow, Int.reduceToNat, Nat.reduceAdd, c3, c4, l2, l3, d1, d2, w1, w2, w3, f1]
        refine eff_callF rfl ((mMajor_any G hk).mono ?_)
        rintro v2 h2 ⟨nt, mq, T1, rfl, S, Iq, uq, lq⟩
        have l2' := S.rep.m2
        have l3' := S.rep.m3
        have lim' := Iq.li
        have hul' := Iq.ul
        have w3' : IntKind.i64.wrap ((mq.used : Int) + (sz : Int)) = ((mq.used + sz : Nat) : Int) := by rw [wrap_i64 (by omega) (by omega)]; omega
        by_cases f2 : mq.used + sz ≤ mq.limit
        · have f3 : ¬ (mq.limit : Int) < ((mq.used + sz : Nat) : Int) := by omega
          have hf : Fits a sz := ⟨nt, T1, by omega⟩
          rw [if_pos hf]
          simp (disch := first | omega | assumption) only [C.m_Make_gos, T.tv, ↓reduceIte, Nat.reduceEqDiff, reduceCtorEq, Nat.reduceLeDiff, Nat.reducePow, Int.reducePow, Int.reduceToNat, Nat.reduceAdd, l2', l3', w3', f3]
          refine eff_store1_z T.zr_3 rfl rfl rfl rfl rfl l3' (S.rep.mz 3) ?_
          have S1 := S.trans (S.rep.usedS (mq.used + sz))
          subst hsz
          exact mMake_tree (by rw [setAt_size]; exact Nat.le_trans G.b S.fr.size) S1 Iq (by rw [lq]; exact hk) rn1 wn1 n16 f2 (fun h' N => ⟨N, rfl⟩)
        · have f3 : (mq.limit : Int) < ((mq.used + sz : Nat) : Int) := by omega
          have hf : ¬ Fits a sz := fun ⟨t, t1, t2⟩ => by
            have := T1.uniq t1
            omega
          rw [if_neg hf]
          simp (disch := first | omega | assumption) only [C.m_Make_gos, T.tv, ↓reduceIte, Nat.reduceEqDiff, reduceCtorEq, Nat.reduceLeDiff, Nat.reducePow, Int.reducePow, Int.reduceToNat, Nat.reduceAdd, l2', l3', w3', f3]
          have N : NxM base h1 h2 p m a := ⟨p, mq, S, rfl, Iq⟩
          first | exact N | exact ⟨N, rfl⟩
end
end Go.Proofs.Ytidkokdkldfglaa
