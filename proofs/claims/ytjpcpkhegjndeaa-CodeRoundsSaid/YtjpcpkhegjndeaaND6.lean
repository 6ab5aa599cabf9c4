/- The decoder of instructions: one instruction, whole. -/
import Derived.Test.YtjpcpkhegjndeaaND5
namespace Go.Proofs.Ytjpcpkhegjndeaa
open Go.Vc
set_option maxRecDepth 100000
set_option linter.unusedSimpArgs false
set_option linter.unusedVariables false

def oneR (l : List UInt8) (p : Nat) (o : Nat × RS) : In × RS :=
  if formS o.1 = 15 then
    if formS (numS l 1 o.2).1 ≠ 6 ∧ formS (numS l 1 o.2).1 ≠ 7 then (ins0 p (numS l 1 o.2).1 true, failS 14 p (numS l 1 o.2).2)
    else opsD (ins0 p (numS l 1 o.2).1 true) p (formS (numS l 1 o.2).1) l (numS l 1 o.2).2
  else opsD (ins0 p o.1 false) p (formS o.1) l o.2
theorem oneD_eq (l : List UInt8) (s : RS) : oneD l s = oneR l s.p (numS l 1 s) := rfl
section
variable {h : Heap} {g q bd rb : Nat} {l : List UInt8} {s : RS}
set_option maxHeartbeats 8000000 in
theorem d2_any (p op : Nat) (hc : Heap) (u0 : Value) (hop : op < 256) (hl : l.length ≤ 1073741824) (hpl : p ≤ l.length)
    (D : DR h hc g q bd rb l (ins0 p op false) s) (hq : hc[q]? = some (.cells (InV (ins0 p op false) (.slice none 0 0) (.slice none 0 0)).toArray 35 (0, 0))) :
    Cd.vc Try.prog C.dec_one_t1 (retQ Try.prog [(2, some 35)] (OneR h g l (oneR l p (op, s))))
      [(0, u0), (1, .pointer (some ⟨bd, 0, none⟩)), (2, .pointer (some ⟨rb, 0, none⟩)), (3, .pointer (some ⟨q, 0, none⟩)), (4, undef), (5, undef), (18, undef), (33, undef), (41, undef), (42, undef), (46, undef), (53, undef), (58, undef), (63, undef), (69, undef), (75, undef), (82, undef), (93, undef), (102, undef)] hc := by
  rw [C.dec_one_t1_go]
  generalize hY : oneR l p (op, s) = Y
  unfold oneR at hY
  simp only at hY
  have fx0 := D.d.cells
  have e0 : (ins0 p op false).at' = (p : Int) := rfl
  have e1 : (ins0 p op false).op = op := rfl
  rw [e0, e1] at fx0
  simp (disch := first | omega | assumption) only [C.dec_one_gos, vs, Go.Vc.vk, T.ts, ↓reduceIte, Nat.reduceEqDiff, reduceCtorEq, Nat.reduceLeDiff, Nat.reducePow, Int.reducePow, Int.reduceToNat, Nat.reduceAdd, fx0]
  refine eff_call_of ?_
  simp (disch := first | omega | assumption) only [C.dec_one_gos, vs, Go.Vc.vk, T.ts, ↓reduceIte, Nat.reduceEqDiff, reduceCtorEq, Nat.reduceLeDiff, Nat.reducePow, Int.reducePow, Int.reduceToNat, Nat.reduceAdd]
  refine (form_any op hop hc).mono ?_
  intro v1 h1 hp1
  have e2 := hp1.1
  subst e2
  have hv1 := hp1.2
  clear hp1
  have hfl := formS_lt op hop
  by_cases hw : formS op = 15
  case neg =>
    rw [if_neg hw] at hY
    have hw' : ¬ ((formS op : Nat) : Int) = 15 := by omega
    have h10 := d10_any (ins0 p op false) p (formS op) h1 u0 undef (.bool false) undef (by omega) hl rfl hpl rfl rfl D hq
    rw [hY] at h10
    simp (disch := first | omega | assumption) only [C.dec_one_gos, vs, Go.Vc.vk, T.ts, ↓reduceIte, Nat.reduceEqDiff, reduceCtorEq, Nat.reduceLeDiff, Nat.reducePow, Int.reducePow, Int.reduceToNat, Nat.reduceAdd, hv1, eq_false hw']
    exact h10
  rw [if_pos hw] at hY
  have hw' : ((formS op : Nat) : Int) = 15 := by omega
  simp (disch := first | omega | assumption) only [C.dec_one_gos, vs, Go.Vc.vk, T.ts, ↓reduceIte, Nat.reduceEqDiff, reduceCtorEq, Nat.reduceLeDiff, Nat.reducePow, Int.reducePow, Int.reduceToNat, Nat.reduceAdd, hv1, eq_true hw']
  refine eff_store1_z T.zr_4 rfl rfl rfl rfl rfl fx0.2.2.1 (D.d.notfz 2) ?_
  have D2 := D.set 2 (.bool true) (ins0 p op true) rfl rfl (fun _ _ => rfl)
  have q2 := setAt_get (o := 2) hq (.bool true)
  generalize setAt _ ⟨q, 2, none⟩ _ = h2 at *
  have fx2 := D2.d.cells
  simp (disch := first | omega | assumption) only [C.dec_one_gos, vs, Go.Vc.vk, T.ts, ↓reduceIte, Nat.reduceEqDiff, reduceCtorEq, Nat.reduceLeDiff, Nat.reducePow, Int.reducePow, Int.reduceToNat, Nat.reduceAdd, fx2]
  refine eff_call_of ?_
  simp (disch := first | omega | assumption) only [C.dec_one_gos, vs, Go.Vc.vk, T.ts, ↓reduceIte, Nat.reduceEqDiff, reduceCtorEq, Nat.reduceLeDiff, Nat.reducePow, Int.reducePow, Int.reduceToNat, Nat.reduceAdd]
  refine (num_any 1 hl (by omega) D2.d.rd).mono ?_
  intro v3 h3 hp3
  have D3 := D2.step hp3.1 hp3.2.1
  have hv3 := hp3.2.2
  have q3 := Fr_blk hp3.1 q2 D2.d.gq.1
  clear hp3
  have bn : (numS l 1 s).1 < 256 := numS_lt
  generalize numS l 1 s = T at *
  obtain ⟨op2, s3⟩ := T
  simp only at *
  have fx3 := D3.d.cells
  have hw3 : IntKind.u8.wrap (op2 : Int) = (op2 : Int) := wrap_u8 (by omega) (by omega)
  simp (disch := first | omega | assumption) only [C.dec_one_gos, vs, Go.Vc.vk, T.ts, ↓reduceIte, Nat.reduceEqDiff, reduceCtorEq, Nat.reduceLeDiff, Nat.reducePow, Int.reducePow, Int.reduceToNat, Nat.reduceAdd, hv3, hw3]
  refine eff_store1_z T.zr_5 rfl rfl rfl rfl rfl fx3.2.1 (D3.d.notfz 1) ?_
  have D4 := D3.set 1 (.int .u8 op2) (ins0 p op2 true) rfl rfl (fun _ _ => rfl)
  have q4 := setAt_get (o := 1) q3 (.int .u8 op2)
  generalize setAt _ ⟨q, 1, none⟩ _ = h4 at *
  have fx4 := D4.d.cells
  have e3 : (ins0 p op2 true).at' = (p : Int) := rfl
  have e4 : (ins0 p op2 true).op = op2 := rfl
  rw [e3, e4] at fx4
  simp (disch := first | omega | assumption) only [C.dec_one_gos, vs, Go.Vc.vk, T.ts, ↓reduceIte, Nat.reduceEqDiff, reduceCtorEq, Nat.reduceLeDiff, Nat.reducePow, Int.reducePow, Int.reduceToNat, Nat.reduceAdd, fx4]
  refine eff_call_of ?_
  simp (disch := first | omega | assumption) only [C.dec_one_gos, vs, Go.Vc.vk, T.ts, ↓reduceIte, Nat.reduceEqDiff, reduceCtorEq, Nat.reduceLeDiff, Nat.reducePow, Int.reducePow, Int.reduceToNat, Nat.reduceAdd]
  refine (form_any op2 bn h4).mono ?_
  intro v5 h5 hp5
  have e5 := hp5.1
  subst e5
  have hv5 := hp5.2
  clear hp5
  have hfl2 := formS_lt op2 bn
  by_cases hbad : formS op2 ≠ 6 ∧ formS op2 ≠ 7
  · rw [if_pos hbad] at hY
    subst hY
    have g6 : ¬ ((formS op2 : Nat) : Int) = 6 := by omega
    have g7 : ¬ ((formS op2 : Nat) : Int) = 7 := by omega
    simp (disch := first | omega | assumption) only [C.dec_one_gos, vs, Go.Vc.vk, T.ts, ↓reduceIte, Nat.reduceEqDiff, reduceCtorEq, Nat.reduceLeDiff, Nat.reducePow, Int.reducePow, Int.reduceToNat, Nat.reduceAdd, hv5, fx4, eq_false g6, eq_false g7]
    refine eff_call_of ?_
    simp (disch := first | omega | assumption) only [C.dec_one_gos, vs, Go.Vc.vk, T.ts, ↓reduceIte, Nat.reduceEqDiff, reduceCtorEq, Nat.reduceLeDiff, Nat.reducePow, Int.reducePow, Int.reduceToNat, Nat.reduceAdd]
    refine (fail_any 14 p D4.d.rd).mono ?_
    intro v6 h6 hp6
    have D9 := D4.step hp6.1 hp6.2
    clear hp6
    obtain ⟨vk9, vt9, q9, ok9, ot9, dj9⟩ := id D9.d.xr
    have hld := ld_agg T.ag_35 (Rd_block q9) rfl
    simp only [InV] at hld
    simp (disch := first | omega | assumption) only [C.dec_one_gos, vs, Go.Vc.vk, T.ts, ↓reduceIte, Nat.reduceEqDiff, reduceCtorEq, Nat.reduceLeDiff, Nat.reducePow, Int.reducePow, Int.reduceToNat, Nat.reduceAdd, hld]
    refine eff_storeN_z T.zr_35 rfl rfl rfl ?_ D9.rk rfl ?_
    · intro u hu
      obtain ⟨_, ak, kk, rfl, _⟩ := ok9.slN
      obtain ⟨_, at7, kt, rfl, _⟩ := ot9.slN
      simp [Value.cells] at hu
      rcases hu with rfl | rfl | rfl | rfl | rfl | rfl | rfl | rfl <;> rfl
    intro h10 f10 b10
    obtain ⟨v, hv1, hv2⟩ := D9.fin q9 ok9 ot9 dj9 f10 b10
    simp (disch := first | omega | assumption) only [C.dec_one_gos, vs, Go.Vc.vk, T.ts, ↓reduceIte, Nat.reduceEqDiff, reduceCtorEq, Nat.reduceLeDiff, Nat.reducePow, Int.reducePow, Int.reduceToNat, Nat.reduceAdd, hv1]
    exact hv2
  · rw [if_neg hbad] at hY
    have g67 : (((formS op2 : Nat) : Int) = 6) ∨ (¬ (((formS op2 : Nat) : Int) = 6) ∧ ((formS op2 : Nat) : Int) = 7) := by omega
    have h10 := fun u33 => d10_any (ins0 p op2 true) p (formS op2) h5 u0 undef (.bool true) u33 (by omega) hl rfl hpl rfl rfl D4 q4
    rw [hY] at h10
    rcases g67 with g6 | ⟨g6, g7⟩
    · simp (disch := first | omega | assumption) only [C.dec_one_gos, vs, Go.Vc.vk, T.ts, ↓reduceIte, Nat.reduceEqDiff, reduceCtorEq, Nat.reduceLeDiff, Nat.reducePow, Int.reducePow, Int.reduceToNat, Nat.reduceAdd, hv5, fx4, eq_true g6]
      exact h10 _
    · simp (disch := first | omega | assumption) only [C.dec_one_gos, vs, Go.Vc.vk, T.ts, ↓reduceIte, Nat.reduceEqDiff, reduceCtorEq, Nat.reduceLeDiff, Nat.reducePow, Int.reducePow, Int.reduceToNat, Nat.reduceAdd, hv5, fx4, eq_false g6, eq_true g7]
      exact h10 _
set_option maxHeartbeats 8000000 in
theorem done_any (hl : l.length ≤ 1073741824) (H : Rdr h g l s) :
    HCalls Try.prog 23 #[.agg #[.pointer (some ⟨g, 0, none⟩)]] h (OneR h g l (oneD l s)) := by
  refine C.dec_one_calls (args := [.agg #[.pointer (some ⟨g, 0, none⟩)]]) rfl ?_
  rw [oneD_eq]
  have hgl := H.lt
  have hpl := H.2
  simp (disch := first | omega | assumption) only [C.dec_one_gos, vs, Go.Vc.vk, T.ts, ↓reduceIte, Nat.reduceEqDiff, reduceCtorEq, Nat.reduceLeDiff, Nat.reducePow, Int.reducePow, Int.reduceToNat, Nat.reduceAdd]
  refine eff_box ?_
  have E1 := Ext.push h (.cells #[.pointer (some ⟨g, 0, none⟩)] 52)
  have b1 : (h.push (.cells #[.pointer (some ⟨g, 0, none⟩)] 52))[h.size]? = some (.cells #[.pointer (some ⟨g, 0, none⟩)] 52 (0, 0)) := by simp
  have s1 : (h.push (.cells #[.pointer (some ⟨g, 0, none⟩)] 52)).size = h.size + 1 := by simp
  simp (disch := first | omega | assumption) only [C.dec_one_gos, vs, Go.Vc.vk, T.ts, ↓reduceIte, Nat.reduceEqDiff, reduceCtorEq, Nat.reduceLeDiff, Nat.reducePow, Int.reducePow, Int.reduceToNat, Nat.reduceAdd]
  generalize h.push (.cells #[.pointer (some ⟨g, 0, none⟩)] 52) = h1 at *
  refine eff_alloc_z T.zr_35 ?_
  have E2 := E1.trans (Ext.push h1 (.cells #[.int .i64 0, .int .u8 0, .bool false, .int .i64 0, .int .i64 0, .int .i64 0, .slice none 0 0, .slice none 0 0] 35))
  have b2 := push_blk (o' := .cells #[.int .i64 0, .int .u8 0, .bool false, .int .i64 0, .int .i64 0, .int .i64 0, .slice none 0 0, .slice none 0 0] 35) b1
  have r2 : (h1.push (.cells #[.int .i64 0, .int .u8 0, .bool false, .int .i64 0, .int .i64 0, .int .i64 0, .slice none 0 0, .slice none 0 0] 35))[h1.size]? = some (.cells #[.int .i64 0, .int .u8 0, .bool false, .int .i64 0, .int .i64 0, .int .i64 0, .slice none 0 0, .slice none 0 0] 35 (0, 0)) := by simp
  have s2 : (h1.push (.cells #[.int .i64 0, .int .u8 0, .bool false, .int .i64 0, .int .i64 0, .int .i64 0, .slice none 0 0, .slice none 0 0] 35)).size = h.size + 2 := by simp [s1]
  rw [s1] at r2 ⊢
  have H2 := H.fr E2 id
  have c2 : cellAt (h1.push (.cells #[.int .i64 0, .int .u8 0, .bool false, .int .i64 0, .int .i64 0, .int .i64 0, .slice none 0 0, .slice none 0 0] 35)) ⟨h.size, 0, none⟩ = some (.pointer (some ⟨g, 0, none⟩)) := by rw [cellAt_of b2]; rfl
  generalize h1.push (.cells #[.int .i64 0, .int .u8 0, .bool false, .int .i64 0, .int .i64 0, .int .i64 0, .slice none 0 0, .slice none 0 0] 35) = h2 at *
  clear E1 b1
  have bn : (numS l 1 s).1 < 256 := numS_lt
  -- the end of each order
  have fin : ∀ (hc : Heap) (q : Nat), Fr (fun k => k = g ∨ k = q) h hc → Rdr hc g l (numS l 1 s).2 → hc[h.size]? = some (.cells #[.pointer (some ⟨g, 0, none⟩)] 52 (0, 0)) → hc[h.size + 1]? = some (.cells #[.int .i64 0, .int .u8 0, .bool false, .int .i64 0, .int .i64 0, .int .i64 0, .slice none 0 0, .slice none 0 0] 35 (0, 0)) → h.size + 2 ≤ q →
      hc[q]? = some (.cells (InV (ins0 s.p (numS l 1 s).1 false) (.slice none 0 0) (.slice none 0 0)).toArray 35 (0, 0)) →
      Cd.vc Try.prog C.dec_one_t1 (retQ Try.prog [(2, some 35)] (OneR h g l (oneR l s.p (numS l 1 s))))
      [(0, .agg #[.pointer (some ⟨g, 0, none⟩)]), (1, .pointer (some ⟨h.size, 0, none⟩)), (2, .pointer (some ⟨h.size + 1, 0, none⟩)), (3, .pointer (some ⟨q, 0, none⟩)), (4, undef), (5, undef), (18, undef), (33, undef), (41, undef), (42, undef), (46, undef), (53, undef), (58, undef), (63, undef), (69, undef), (75, undef), (82, undef), (93, undef), (102, undef)] hc := by
    intro hc q f1 f2 f3 f4 f5 f6
    exact d2_any s.p (numS l 1 s).1 hc _ bn hl hpl ⟨⟨f1, f2, ⟨_, _, f6, Own.nil, Own.nil, by intro k hk; simp [Value.ownBlock] at hk⟩, f3⟩, f4, by omega, by omega, by omega⟩ f6
  generalize hN : numS l 1 s = N at *
  have hw3 : IntKind.u8.wrap (N.1 : Int) = (N.1 : Int) := wrap_u8 (by omega) (by omega)
  simp (disch := first | omega | assumption) only [C.dec_one_gos, vs, Go.Vc.vk, T.ts, ↓reduceIte, Nat.reduceEqDiff, reduceCtorEq, Nat.reduceLeDiff, Nat.reducePow, Int.reducePow, Int.reduceToNat, Nat.reduceAdd, c2]
  refine ⟨?_, ?_⟩
  · refine eff_call_of ?_
    simp (disch := first | omega | assumption) only [C.dec_one_gos, vs, Go.Vc.vk, T.ts, ↓reduceIte, Nat.reduceEqDiff, reduceCtorEq, Nat.reduceLeDiff, Nat.reducePow, Int.reducePow, Int.reduceToNat, Nat.reduceAdd]
    refine (at_any H2).mono ?_
    intro v3 h3 hp3
    have e3 := hp3.1
    subst e3
    have hv3 := hp3.2
    clear hp3
    simp (disch := first | omega | assumption) only [C.dec_one_gos, vs, Go.Vc.vk, T.ts, ↓reduceIte, Nat.reduceEqDiff, reduceCtorEq, Nat.reduceLeDiff, Nat.reducePow, Int.reducePow, Int.reduceToNat, Nat.reduceAdd, c2]
    refine ⟨?_, ?_⟩
    · refine eff_call_of ?_
      simp (disch := first | omega | assumption) only [C.dec_one_gos, vs, Go.Vc.vk, T.ts, ↓reduceIte, Nat.reduceEqDiff, reduceCtorEq, Nat.reduceLeDiff, Nat.reducePow, Int.reducePow, Int.reduceToNat, Nat.reduceAdd]
      refine (num_any 1 hl (by omega) H2).mono ?_
      intro v4 h4 hp4
      rw [hN] at hp4
      have f4 := hp4.1
      have r4 := hp4.2.1
      have hv4 := hp4.2.2
      clear hp4
      have b4 := Fr_blk f4 b2 (by omega)
      have rb4 := Fr_blk f4 r2 (by
        intro e
        have k1 := H2.1
        rw [← e, r2] at k1
        cases k1)
      have c4 : cellAt h4 ⟨h.size, 0, none⟩ = some (.pointer (some ⟨g, 0, none⟩)) := by rw [cellAt_of b4]; rfl
      simp (disch := first | omega | assumption) only [C.dec_one_gos, vs, Go.Vc.vk, T.ts, ↓reduceIte, Nat.reduceEqDiff, reduceCtorEq, Nat.reduceLeDiff, Nat.reducePow, Int.reducePow, Int.reduceToNat, Nat.reduceAdd, hv3, hv4, hw3, c4]
      refine eff_alloc_z T.zr_35 ?_
      have c5 : cellAt (h4.push (.cells #[.int .i64 0, .int .u8 0, .bool false, .int .i64 0, .int .i64 0, .int .i64 0, .slice none 0 0, .slice none 0 0] 35)) ⟨h.size, 0, none⟩ = some (.pointer (some ⟨g, 0, none⟩)) := by rw [cellAt_of (push_blk b4)]; rfl
      simp (disch := first | omega | assumption) only [C.dec_one_gos, vs, Go.Vc.vk, T.ts, ↓reduceIte, Nat.reduceEqDiff, reduceCtorEq, Nat.reduceLeDiff, Nat.reducePow, Int.reducePow, Int.reduceToNat, Nat.reduceAdd, c5, hw3]
      refine eff_store_new_z T.zr_35 rfl rfl rfl (by simp [Value.cells, oneCell]) rfl ?_
      intro h6 x6 hlt6 hrd6 b6
      have hs4 := f4.size
      simp (disch := first | omega | assumption) only [C.dec_one_gos, vs, Go.Vc.vk, T.ts, ↓reduceIte, Nat.reduceEqDiff, reduceCtorEq, Nat.reduceLeDiff, Nat.reducePow, Int.reducePow, Int.reduceToNat, Nat.reduceAdd]
      exact fin h6 h4.size (Fr.trans (Fr.trans E2 f4 (fun _ _ h => h.elim) (fun _ _ h => Or.inl h)) x6 (fun _ _ h => h) (fun _ _ h => h.elim)) (r4.fr x6 id) (Fr_blk x6 b4 id) (Fr_blk x6 rb4 id) (by omega) b6
    · refine eff_alloc_z T.zr_35 ?_
      have x3 := Ext.push h3 (.cells #[.int .i64 0, .int .u8 0, .bool false, .int .i64 0, .int .i64 0, .int .i64 0, .slice none 0 0, .slice none 0 0] 35)
      have E3 := E2.trans x3
      have b3 := push_blk (o' := .cells #[.int .i64 0, .int .u8 0, .bool false, .int .i64 0, .int .i64 0, .int .i64 0, .slice none 0 0, .slice none 0 0] 35) b2
      have rr3 := push_blk (o' := .cells #[.int .i64 0, .int .u8 0, .bool false, .int .i64 0, .int .i64 0, .int .i64 0, .slice none 0 0, .slice none 0 0] 35) r2
      have H3 := H2.fr x3 id
      have q3 : (h3.push (.cells #[.int .i64 0, .int .u8 0, .bool false, .int .i64 0, .int .i64 0, .int .i64 0, .slice none 0 0, .slice none 0 0] 35))[h3.size]? = some (.cells #[.int .i64 0, .int .u8 0, .bool false, .int .i64 0, .int .i64 0, .int .i64 0, .slice none 0 0, .slice none 0 0] 35 (0, 0)) := by simp
      have c3 : cellAt (h3.push (.cells #[.int .i64 0, .int .u8 0, .bool false, .int .i64 0, .int .i64 0, .int .i64 0, .slice none 0 0, .slice none 0 0] 35)) ⟨h.size, 0, none⟩ = some (.pointer (some ⟨g, 0, none⟩)) := by rw [cellAt_of b3]; rfl
      simp (disch := first | omega | assumption) only [C.dec_one_gos, vs, Go.Vc.vk, T.ts, ↓reduceIte, Nat.reduceEqDiff, reduceCtorEq, Nat.reduceLeDiff, Nat.reducePow, Int.reducePow, Int.reduceToNat, Nat.reduceAdd, c3, hv3]
      refine eff_call_of ?_
      simp (disch := first | omega | assumption) only [C.dec_one_gos, vs, Go.Vc.vk, T.ts, ↓reduceIte, Nat.reduceEqDiff, reduceCtorEq, Nat.reduceLeDiff, Nat.reducePow, Int.reducePow, Int.reduceToNat, Nat.reduceAdd]
      refine (num_any 1 hl (by omega) H3).mono ?_
      intro v4 h4 hp4
      rw [hN] at hp4
      have f4 := hp4.1
      have r4 := hp4.2.1
      have hv4 := hp4.2.2
      clear hp4
      have b4 := Fr_blk f4 b3 (by omega)
      have rb4 := Fr_blk f4 rr3 (by
        intro e
        have k1 := H3.1
        rw [← e, rr3] at k1
        cases k1)
      have q4 := Fr_blk f4 q3 (by omega)
      have c4 : cellAt h4 ⟨h.size, 0, none⟩ = some (.pointer (some ⟨g, 0, none⟩)) := by rw [cellAt_of b4]; rfl
      simp (disch := first | omega | assumption) only [C.dec_one_gos, vs, Go.Vc.vk, T.ts, ↓reduceIte, Nat.reduceEqDiff, reduceCtorEq, Nat.reduceLeDiff, Nat.reducePow, Int.reducePow, Int.reduceToNat, Nat.reduceAdd, hv3, hv4, hw3, c4]
      refine eff_storeN_z T.zr_35 rfl rfl rfl (by simp [Value.cells, oneCell]) q4 rfl ?_
      intro h6 f6 b6
      simp (disch := first | omega | assumption) only [C.dec_one_gos, vs, Go.Vc.vk, T.ts, ↓reduceIte, Nat.reduceEqDiff, reduceCtorEq, Nat.reduceLeDiff, Nat.reducePow, Int.reducePow, Int.reduceToNat, Nat.reduceAdd]
      exact fin h6 h3.size (Fr.trans (Fr.trans E3 f4 (fun _ _ h => h.elim) (fun _ _ h => Or.inl h)) f6 (fun _ _ h => h) (fun _ _ h => Or.inr h)) (r4.fr f6 (by omega)) (Fr_blk f6 b4 (by omega)) (Fr_blk f6 rb4 (by omega)) (by omega) b6
  · refine eff_alloc_z T.zr_35 ?_
    have x3 := Ext.push h2 (.cells #[.int .i64 0, .int .u8 0, .bool false, .int .i64 0, .int .i64 0, .int .i64 0, .slice none 0 0, .slice none 0 0] 35)
    have E3 := E2.trans x3
    have b3 := push_blk (o' := .cells #[.int .i64 0, .int .u8 0, .bool false, .int .i64 0, .int .i64 0, .int .i64 0, .slice none 0 0, .slice none 0 0] 35) b2
    have rr3 := push_blk (o' := .cells #[.int .i64 0, .int .u8 0, .bool false, .int .i64 0, .int .i64 0, .int .i64 0, .slice none 0 0, .slice none 0 0] 35) r2
    have H3 := H2.fr x3 id
    have q3 : (h2.push (.cells #[.int .i64 0, .int .u8 0, .bool false, .int .i64 0, .int .i64 0, .int .i64 0, .slice none 0 0, .slice none 0 0] 35))[h2.size]? = some (.cells #[.int .i64 0, .int .u8 0, .bool false, .int .i64 0, .int .i64 0, .int .i64 0, .slice none 0 0, .slice none 0 0] 35 (0, 0)) := by simp
    have c3 : cellAt (h2.push (.cells #[.int .i64 0, .int .u8 0, .bool false, .int .i64 0, .int .i64 0, .int .i64 0, .slice none 0 0, .slice none 0 0] 35)) ⟨h.size, 0, none⟩ = some (.pointer (some ⟨g, 0, none⟩)) := by rw [cellAt_of b3]; rfl
    simp (disch := first | omega | assumption) only [C.dec_one_gos, vs, Go.Vc.vk, T.ts, ↓reduceIte, Nat.reduceEqDiff, reduceCtorEq, Nat.reduceLeDiff, Nat.reducePow, Int.reducePow, Int.reduceToNat, Nat.reduceAdd, c3]
    refine eff_call_of ?_
    simp (disch := first | omega | assumption) only [C.dec_one_gos, vs, Go.Vc.vk, T.ts, ↓reduceIte, Nat.reduceEqDiff, reduceCtorEq, Nat.reduceLeDiff, Nat.reducePow, Int.reducePow, Int.reduceToNat, Nat.reduceAdd]
    refine (at_any H3).mono ?_
    intro v3 h3 hp3
    have e3 := hp3.1
    subst e3
    have hv3 := hp3.2
    clear hp3
    simp (disch := first | omega | assumption) only [C.dec_one_gos, vs, Go.Vc.vk, T.ts, ↓reduceIte, Nat.reduceEqDiff, reduceCtorEq, Nat.reduceLeDiff, Nat.reducePow, Int.reducePow, Int.reduceToNat, Nat.reduceAdd, c3, hv3]
    refine eff_call_of ?_
    simp (disch := first | omega | assumption) only [C.dec_one_gos, vs, Go.Vc.vk, T.ts, ↓reduceIte, Nat.reduceEqDiff, reduceCtorEq, Nat.reduceLeDiff, Nat.reducePow, Int.reducePow, Int.reduceToNat, Nat.reduceAdd]
    refine (num_any 1 hl (by omega) H3).mono ?_
    intro v4 h4 hp4
    rw [hN] at hp4
    have f4 := hp4.1
    have r4 := hp4.2.1
    have hv4 := hp4.2.2
    clear hp4
    have b4 := Fr_blk f4 b3 (by omega)
    have rb4 := Fr_blk f4 rr3 (by
      intro e
      have k1 := H3.1
      rw [← e, rr3] at k1
      cases k1)
    have q4 := Fr_blk f4 q3 (by omega)
    have c4 : cellAt h4 ⟨h.size, 0, none⟩ = some (.pointer (some ⟨g, 0, none⟩)) := by rw [cellAt_of b4]; rfl
    simp (disch := first | omega | assumption) only [C.dec_one_gos, vs, Go.Vc.vk, T.ts, ↓reduceIte, Nat.reduceEqDiff, reduceCtorEq, Nat.reduceLeDiff, Nat.reducePow, Int.reducePow, Int.reduceToNat, Nat.reduceAdd, hv3, hv4, hw3, c4]
    refine eff_storeN_z T.zr_35 rfl rfl rfl (by simp [Value.cells, oneCell]) q4 rfl ?_
    intro h6 f6 b6
    simp (disch := first | omega | assumption) only [C.dec_one_gos, vs, Go.Vc.vk, T.ts, ↓reduceIte, Nat.reduceEqDiff, reduceCtorEq, Nat.reduceLeDiff, Nat.reducePow, Int.reducePow, Int.reduceToNat, Nat.reduceAdd]
    exact fin h6 h2.size (Fr.trans (Fr.trans E3 f4 (fun _ _ h => h.elim) (fun _ _ h => Or.inl h)) f6 (fun _ _ h => h) (fun _ _ h => Or.inr h)) (r4.fr f6 (by omega)) (Fr_blk f6 b4 (by omega)) (Fr_blk f6 rb4 (by omega)) (by omega) b6
end
end Go.Proofs.Ytjpcpkhegjndeaa
