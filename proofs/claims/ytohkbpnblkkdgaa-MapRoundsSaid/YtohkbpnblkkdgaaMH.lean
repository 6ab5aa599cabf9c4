/- maps.Read: frames out of bytes. -/
import Derived.Test.YtohkbpnblkkdgaaMG
namespace Go.Proofs.Ytohkbpnblkkdgaa
open Go.Vc
set_option maxRecDepth 100000
set_option linter.unusedSimpArgs false
set_option linter.unusedVariables false

set_option maxHeartbeats 8000000 in
theorem mapRead_any (l : List UInt8) (p : List Cst) (first : List VT) (vp vf : Value) (h : Heap) (hl : l.length ≤ 1073741824) (hp : SlN h 5 vp p.length (flatS p)) (hpf : ∀ c ∈ p, c.Fit)
    (hf : SlN h 3 vf first.length (flatV first)) (hfl : first.length ≤ 1048576) :
    HCalls Try.prog 8 #[str l, vp, vf] h fun v h' => Ext h h' ∧ ∃ sv rows, v = .tuple #[sv, .int .i64 ((mapA p l first).2.1 : Int), .int .i64 ((mapA p l first).2.2 : Int)] ∧
      FrsW h' h.size sv rows (mapA p l first).1 := by
  refine C.maps_Read_calls (args := [str l, vp, vf]) rfl ?_
  have hp' := hp
  obtain ⟨_, ap, cp, rfl, _⟩ := hp'
  have hf' := hf
  obtain ⟨_, af, cf, rfl, _⟩ := hf'
  generalize hY : mapA p l first = Y
  unfold mapA at hY
  simp (disch := first | omega | assumption) only [C.maps_Read_gos, vs, Go.Vc.vk, T.ts, ↓reduceIte, Nat.reduceEqDiff, reduceCtorEq, Nat.reduceLeDiff, Nat.reducePow, Int.reducePow, Int.reduceToNat, Nat.reduceAdd]
  refine eff_call_of ?_
  simp (disch := first | omega | assumption) only [C.maps_Read_gos, vs, Go.Vc.vk, T.ts, ↓reduceIte, Nat.reduceEqDiff, reduceCtorEq, Nat.reduceLeDiff, Nat.reducePow, Int.reducePow, Int.reduceToNat, Nat.reduceAdd]
  refine (newReader_any l h).mono ?_
  intro v2 h2 hp2
  have x2 := hp2.1
  have hv2 := hp2.2.1
  have r2 := hp2.2.2.1
  have hlt2 := hp2.2.2.2
  clear hp2
  obtain ⟨g, hg⟩ : ∃ g, g = h.size := ⟨_, rfl⟩
  rw [← hg] at hv2 r2
  have hgh : h.size ≤ g := by omega
  clear hlt2
  simp (disch := first | omega | assumption) only [C.maps_Read_gos, vs, Go.Vc.vk, T.ts, ↓reduceIte, Nat.reduceEqDiff, reduceCtorEq, Nat.reduceLeDiff, Nat.reducePow, Int.reducePow, Int.reduceToNat, Nat.reduceAdd, hv2]
  refine eff_call_of ?_
  simp (disch := first | omega | assumption) only [C.maps_Read_gos, vs, Go.Vc.vk, T.ts, ↓reduceIte, Nat.reduceEqDiff, reduceCtorEq, Nat.reduceLeDiff, Nat.reducePow, Int.reducePow, Int.reduceToNat, Nat.reduceAdd]
  refine (num_any 2 hl (by omega) r2).mono ?_
  rintro v3 h3 ⟨f3, r3, rfl⟩
  have X3 : Ext h h3 := Fr.trans x2 f3 (fun _ _ h => h) (fun k hk hs => by omega)
  have hn := numS_lt (l := l) (n := 2) (s := ⟨0, 0, 0⟩)
  simp only [Nat.reducePow] at hn
  generalize numS l 2 ⟨0, 0, 0⟩ = o at *
  obtain ⟨n, s0⟩ := o
  simp only at r3 hn hY
  clear f3 x2 r2
  simp (disch := first | omega | assumption) only [C.maps_Read_gos, vs, Go.Vc.vk, T.ts, ↓reduceIte, Nat.reduceEqDiff, reduceCtorEq, Nat.reduceLeDiff, Nat.reducePow, Int.reducePow, Int.reduceToNat, Nat.reduceAdd]
  refine eff_call_of ?_
  simp (disch := first | omega | assumption) only [C.maps_Read_gos, vs, Go.Vc.vk, T.ts, ↓reduceIte, Nat.reduceEqDiff, reduceCtorEq, Nat.reduceLeDiff, Nat.reducePow, Int.reducePow, Int.reduceToNat, Nat.reduceAdd]
  refine (clone_any first _ h3 (hf.ext (by decide) X3) (by omega)).mono ?_
  rintro v4 h4 ⟨x4, own4⟩
  have X4 := X3.trans x4
  have r4 := r3.fr x4 id
  have own4' := own4.mono X3.size
  simp (disch := first | omega | assumption) only [C.maps_Read_gos, vs, Go.Vc.vk, T.ts, ↓reduceIte, Nat.reduceEqDiff, reduceCtorEq, Nat.reduceLeDiff, Nat.reducePow, Int.reducePow, Int.reduceToNat, Nat.reduceAdd]
  clear own4 x4 r3 X3
  refine loop_intro [1, 9, 10, 11, 12, 13, 14] (fun m ρ hc => ∃ (k : Nat) (pl : Int) (loc : List VT) (fs : List Frm) (s : RS) (vloc sv : Value) (rows : List (List Value)), m = n - k ∧ k ≤ n ∧
      ρ = [(1, .slice ap p.length cp), (9, .pointer (some ⟨g, 0, none⟩)), (10, .int .i64 n), (11, vloc), (12, .int .i64 pl), (13, sv), (14, .int .i64 k)] ∧
      Ext h hc ∧ Rdr hc g l s ∧ Own hc h.size 25 3 vloc loc.length (flatV loc) ∧ FrsW hc h.size sv rows fs ∧ fs.length ≤ k ∧ loc.length ≤ 1200000 + 3 * k ∧ -1 ≤ pl ∧ pl ≤ 65536 * (k : Int) - 1 ∧
      ∃ (pl' : Int) (loc' : List VT) (fs' : List Frm), mapE l (mapD p l (n - k) pl' loc' fs' s) = Y ∧ (s.e = 0 → pl = pl' ∧ loc = loc' ∧ fs = fs')) ?_ ?_
  · simp (disch := first | omega | assumption) only [C.maps_Read_gos, vs, Go.Vc.vk, T.ts, ↓reduceIte, Nat.reduceEqDiff, reduceCtorEq, Nat.reduceLeDiff, Nat.reducePow, Int.reducePow, Int.reduceToNat, Nat.reduceAdd]
    exact ⟨_, 0, -1, first, [], s0, _, _, [], rfl, Nat.zero_le _, rfl, X4, r4, own4', FrsW.nil, Nat.le_refl _, by omega, by omega, by omega, -1, first, [], hY, fun _ => ⟨rfl, rfl, rfl⟩⟩
  clear X4 r4 own4' hY
  rintro m ρ hc ⟨k, pl, loc, fs, s, vloc, sv, rows, rfl, hk, rfl, X, R, ol, W, hfk, hll, hpl1, hpl2, pl', loc', fs', hY, hEq⟩
  by_cases hmore : k < n ∧ s.e = 0
  case neg =>
    have hfin : mapE l (fs', s) = Y := by
      rw [← hY]
      by_cases hkn : k < n
      · have he : s.e ≠ 0 := fun he => hmore ⟨hkn, he⟩
        rw [mapD_bad he]
      · rw [show n - k = 0 by omega, mapD]
    unfold mapE at hfin
    simp only at hfin
    have hpl := R.2
    by_cases hkn : k < n
    case' pos =>
      have hkn' : (k : Int) < n := by omega
      have he : s.e ≠ 0 := fun he => hmore ⟨hkn, he⟩
      simp (disch := first | omega | assumption) only [C.maps_Read_gos, vs, Go.Vc.vk, T.ts, ↓reduceIte, Nat.reduceEqDiff, reduceCtorEq, Nat.reduceLeDiff, Nat.reducePow, Int.reducePow, Int.reduceToNat, Nat.reduceAdd, hkn']
      refine eff_call_of ?_
      simp (disch := first | omega | assumption) only [C.maps_Read_gos, vs, Go.Vc.vk, T.ts, ↓reduceIte, Nat.reduceEqDiff, reduceCtorEq, Nat.reduceLeDiff, Nat.reducePow, Int.reducePow, Int.reduceToNat, Nat.reduceAdd]
      refine (bad_any R).mono ?_
      intro v5 h5 hp5
      have e5 := hp5.1
      subst e5
      have hv5 := hp5.2
      rw [decide_eq_true he] at hv5
      clear hp5
      simp (disch := first | omega | assumption) only [C.maps_Read_gos, vs, Go.Vc.vk, T.ts, ↓reduceIte, Nat.reduceEqDiff, reduceCtorEq, Nat.reduceLeDiff, Nat.reducePow, Int.reducePow, Int.reduceToNat, Nat.reduceAdd, hv5]
    case' neg =>
      have hkn' : ¬ (k : Int) < n := by omega
      simp (disch := first | omega | assumption) only [C.maps_Read_gos, vs, Go.Vc.vk, T.ts, ↓reduceIte, Nat.reduceEqDiff, reduceCtorEq, Nat.reduceLeDiff, Nat.reducePow, Int.reducePow, Int.reduceToNat, Nat.reduceAdd, hkn']
    all_goals
      refine eff_call_of ?_
      simp (disch := first | omega | assumption) only [C.maps_Read_gos, vs, Go.Vc.vk, T.ts, ↓reduceIte, Nat.reduceEqDiff, reduceCtorEq, Nat.reduceLeDiff, Nat.reducePow, Int.reducePow, Int.reduceToNat, Nat.reduceAdd]
      refine (left_any hl R).mono ?_
      intro v6 h6 hp6
      have e6 := hp6.1
      subst e6
      have hv6 := hp6.2
      clear hp6
      obtain ⟨s9, hs9⟩ : ∃ s9 : RS, s9 = if s.p < l.length then failS 2 s.p s else s := ⟨_, rfl⟩
      rw [← hs9] at hfin
      by_cases hp9 : s.p < l.length
      case' pos =>
        have hlt' : (0 : Int) < ((l.length - s.p : Nat) : Int) := by omega
        rw [if_pos hp9] at hs9
        simp (disch := first | omega | assumption) only [C.maps_Read_gos, vs, Go.Vc.vk, T.ts, ↓reduceIte, Nat.reduceEqDiff, reduceCtorEq, Nat.reduceLeDiff, Nat.reducePow, Int.reducePow, Int.reduceToNat, Nat.reduceAdd, hv6, hlt']
        refine eff_call_of ?_
        simp (disch := first | omega | assumption) only [C.maps_Read_gos, vs, Go.Vc.vk, T.ts, ↓reduceIte, Nat.reduceEqDiff, reduceCtorEq, Nat.reduceLeDiff, Nat.reducePow, Int.reducePow, Int.reduceToNat, Nat.reduceAdd]
        refine (at_any R).mono ?_
        intro v7 h7 hp7
        have e7 := hp7.1
        subst e7
        have hv7 := hp7.2
        clear hp7
        simp (disch := first | omega | assumption) only [C.maps_Read_gos, vs, Go.Vc.vk, T.ts, ↓reduceIte, Nat.reduceEqDiff, reduceCtorEq, Nat.reduceLeDiff, Nat.reducePow, Int.reducePow, Int.reduceToNat, Nat.reduceAdd, hv7]
        refine eff_call_of ?_
        simp (disch := first | omega | assumption) only [C.maps_Read_gos, vs, Go.Vc.vk, T.ts, ↓reduceIte, Nat.reduceEqDiff, reduceCtorEq, Nat.reduceLeDiff, Nat.reducePow, Int.reducePow, Int.reduceToNat, Nat.reduceAdd]
        refine (fail_any 2 s.p R).mono ?_
        intro v8 h8 hp8
        have f8 := hp8.1
        have R9 := hp8.2
        rw [← hs9] at R9
        clear hp8
        have X9 : Ext h h8 := Fr.trans X f8 (fun _ _ h => h) (fun k hk hs => by omega)
        have W9 := W.rd f8 R.1 (by decide) (by decide)
        simp (disch := first | omega | assumption) only [C.maps_Read_gos, vs, Go.Vc.vk, T.ts, ↓reduceIte, Nat.reduceEqDiff, reduceCtorEq, Nat.reduceLeDiff, Nat.reducePow, Int.reducePow, Int.reduceToNat, Nat.reduceAdd]
      case' neg =>
        have hlt' : ¬ (0 : Int) < ((l.length - s.p : Nat) : Int) := by omega
        rw [if_neg hp9] at hs9
        have R9 := R
        rw [← hs9] at R9
        have X9 := X
        have W9 := W
        simp (disch := first | omega | assumption) only [C.maps_Read_gos, vs, Go.Vc.vk, T.ts, ↓reduceIte, Nat.reduceEqDiff, reduceCtorEq, Nat.reduceLeDiff, Nat.reducePow, Int.reducePow, Int.reduceToNat, Nat.reduceAdd, hv6, hlt']
      all_goals
        refine eff_call_of ?_
        simp (disch := first | omega | assumption) only [C.maps_Read_gos, vs, Go.Vc.vk, T.ts, ↓reduceIte, Nat.reduceEqDiff, reduceCtorEq, Nat.reduceLeDiff, Nat.reducePow, Int.reducePow, Int.reduceToNat, Nat.reduceAdd]
        refine (err_any R9).mono ?_
        intro v10 h10 hp10
        have e10 := hp10.1
        subst e10
        have hv10 := hp10.2
        clear hp10
        by_cases he9 : s9.e = 0
        · have he9' : (s9.e : Int) = 0 := by omega
          rw [if_neg (by simp [he9])] at hfin
          have hse : s.e = 0 := by
            rw [hs9] at he9
            first
              | exact he9
              | (refine Classical.byContradiction fun hse => ?_
                 rw [failS_e hse] at he9
                 exact hse he9)
          obtain ⟨_, _, rfl⟩ := hEq hse
          rw [← hfin]
          simp (disch := first | omega | assumption) only [C.maps_Read_gos, vs, Go.Vc.vk, T.ts, ↓reduceIte, Nat.reduceEqDiff, reduceCtorEq, Nat.reduceLeDiff, Nat.reducePow, Int.reducePow, Int.reduceToNat, Nat.reduceAdd, hv10, eq_true he9']
          exact ⟨X9, _, rows, rfl, W9⟩
        · have he9' : ¬ (s9.e : Int) = 0 := by omega
          rw [if_pos (by simpa using he9)] at hfin
          rw [← hfin]
          simp (disch := first | omega | assumption) only [C.maps_Read_gos, vs, Go.Vc.vk, T.ts, ↓reduceIte, Nat.reduceEqDiff, reduceCtorEq, Nat.reduceLeDiff, Nat.reducePow, Int.reducePow, Int.reduceToNat, Nat.reduceAdd, hv10, eq_false he9']
          exact ⟨X9, _, [], rfl, FrsW.nil⟩
  obtain ⟨rfl, rfl, rfl⟩ := hEq hmore.2
  have hkn' : (k : Int) < n := by omega
  obtain ⟨j, hj⟩ : ∃ j, n - k = j + 1 := ⟨n - k - 1, by omega⟩
  rw [hj, mapD, if_neg (by simp [hmore.2])] at hY
  have he := hmore.2
  simp (disch := first | omega | assumption) only [C.maps_Read_gos, vs, Go.Vc.vk, T.ts, ↓reduceIte, Nat.reduceEqDiff, reduceCtorEq, Nat.reduceLeDiff, Nat.reducePow, Int.reducePow, Int.reduceToNat, Nat.reduceAdd, hkn']
  refine eff_call_of ?_
  simp (disch := first | omega | assumption) only [C.maps_Read_gos, vs, Go.Vc.vk, T.ts, ↓reduceIte, Nat.reduceEqDiff, reduceCtorEq, Nat.reduceLeDiff, Nat.reducePow, Int.reducePow, Int.reduceToNat, Nat.reduceAdd]
  refine (bad_any R).mono ?_
  intro v5 h5 hp5
  have e5 := hp5.1
  subst e5
  have hv5 := hp5.2
  rw [decide_eq_false (by simp [he])] at hv5
  clear hp5
  simp (disch := first | omega | assumption) only [C.maps_Read_gos, vs, Go.Vc.vk, T.ts, ↓reduceIte, Nat.reduceEqDiff, reduceCtorEq, Nat.reduceLeDiff, Nat.reducePow, Int.reducePow, Int.reduceToNat, Nat.reduceAdd, hv5]
  refine eff_call_of ?_
  simp (disch := first | omega | assumption) only [C.maps_Read_gos, vs, Go.Vc.vk, T.ts, ↓reduceIte, Nat.reduceEqDiff, reduceCtorEq, Nat.reduceLeDiff, Nat.reducePow, Int.reducePow, Int.reduceToNat, Nat.reduceAdd]
  refine (one_any loc vloc hl X hgh hp hpf R ol (by omega)).mono ?_
  intro v6 h6 hp6
  have f6 := hp6.1
  have R6 := hp6.2.1
  obtain ⟨f, d, vL, vS, hv6, O6, hB, hX⟩ := hp6.2.2
  clear hp6
  have X6 : Ext h h6 := Fr.trans X f6 (fun _ _ h => h) (fun k hk hs => by omega)
  have W6 := W.rd f6 R.1 (by decide) (by decide)
  have hhc : h.size ≤ h5.size := X.size
  generalize frmD p l loc s = G at *
  obtain ⟨G1, G2, s6⟩ := G
  simp only at hY R6 hX
  have hk1 : k + 1 ≤ n := by omega
  have hpe : pl + ((d : Int) + 1) = pl + ((d + 1 : Nat) : Int) := by omega
  obtain ⟨_, aL, cL, rfl, _⟩ := O6.L.slN
  obtain ⟨_, aS, cS, rfl, _⟩ := O6.S.slN
  simp (disch := first | omega | assumption) only [C.maps_Read_gos, vs, Go.Vc.vk, T.ts, ↓reduceIte, Nat.reduceEqDiff, reduceCtorEq, Nat.reduceLeDiff, Nat.reducePow, Int.reducePow, Int.reduceToNat, Nat.reduceAdd, hv6]
  refine eff_alloc_z T.zr_35 ?_
  simp (disch := first | omega | assumption) only [C.maps_Read_gos, vs, Go.Vc.vk, T.ts, ↓reduceIte, Nat.reduceEqDiff, reduceCtorEq, Nat.reduceLeDiff, Nat.reducePow, Int.reducePow, Int.reduceToNat, Nat.reduceAdd]
  refine eff_store_new_z T.zr_35 rfl rfl rfl (by simp [Value.cells, oneCell]) rfl ?_
  intro h7 x7 hlt7 hrd7 b7
  change h7[h6.size]? = some (.cells #[.int .i64 0, .slice aL f.L.length cL, .slice aS f.S.length cS] 35 (0, 0)) at b7
  have X7 := X6.trans x7
  have R7 := R6.fr x7 id
  have W7 := W6.ext x7
  have O7 := O6.fr x7 (fun _ _ => id)
  have hqg : h6.size ≠ g := by have := R6.lt; omega
  have hqh : h.size ≤ h6.size := X6.size
  have hq5 : h5.size ≤ h6.size := f6.size
  have hqW : ∀ b, sv.ownBlock = some b → b ≠ h6.size := fun b hb => by have := W6.2.1.lt b hb; omega
  have hqr : ∀ j b, j < fs.length → rowB (rows.getD j []) b → b ≠ h6.size := fun j b hj hb => by have := ((W6.2.2.1 j hj).lt hb).2; omega
  have hqL : ∀ b, (Value.slice aL f.L.length cL).ownBlock = some b → b ≠ h6.size := fun b hb => by have := O6.L.lt b hb; omega
  have hqS : ∀ b, (Value.slice aS f.S.length cS).ownBlock = some b → b ≠ h6.size := fun b hb => by have := O6.S.lt b hb; omega
  clear hrd7 hlt7 x7 X6 R6 W6 f6
  generalize h6.size = q at *
  have c0 : cellAt h7 ⟨q, 0, none⟩ = some (.int .i64 0) := by rw [cellAt_of b7]; rfl
  simp (disch := first | omega | assumption) only [C.maps_Read_gos, vs, Go.Vc.vk, T.ts, ↓reduceIte, Nat.reduceEqDiff, reduceCtorEq, Nat.reduceLeDiff, Nat.reducePow, Int.reducePow, Int.reduceToNat, Nat.reduceAdd, hpe]
  refine eff_store1_z T.zr_3 rfl rfl rfl rfl rfl c0 (by simp [frozenAt, b7]) ?_
  have f8 : Fr (fun k => k = q) h7 (setAt h7 ⟨q, 0, none⟩ (.int .i64 (pl + ((d + 1 : Nat) : Int)))) := Fr.set (S := fun k => k = q) _ _ _ fun _ => rfl
  have b8 := setAt_get (o := 0) b7 (.int .i64 (pl + ((d + 1 : Nat) : Int)))
  have X8 : Ext h (setAt h7 ⟨q, 0, none⟩ (.int .i64 (pl + ((d + 1 : Nat) : Int)))) := Fr.trans X7 f8 (fun _ _ h => h) (fun k hk hs => by omega)
  have R8 := R7.fr f8 (fun e => hqg e.symm)
  have O8 := O7.fr f8 (fun b hb hs => by
    subst hs
    rcases hb with hb | hb
    · exact hqL _ hb rfl
    · exact hqS _ hb rfl)
  have W8 : FrsW (setAt h7 ⟨q, 0, none⟩ (.int .i64 (pl + ((d + 1 : Nat) : Int)))) h.size sv rows fs :=
    ⟨W7.1, W7.2.1.fr f8 (fun b hb hs => hqW b hb hs), fun j hj => (W7.2.2.1 j hj).fr f8 (fun b hb hs => hqr j b hj hb hs), W7.2.2.2⟩
  change (setAt h7 ⟨q, 0, none⟩ (.int .i64 (pl + ((d + 1 : Nat) : Int))))[q]? = some (.cells #[.int .i64 (pl + ((d + 1 : Nat) : Int)), .slice aL f.L.length cL, .slice aS f.S.length cS] 35 (0, 0)) at b8
  generalize setAt h7 ⟨q, 0, none⟩ (.int .i64 (pl + ((d + 1 : Nat) : Int))) = h8 at *
  clear f8 b7 X7 R7 W7 O7 c0 hqW hqr hqL hqS
  have c1 : cellAt h8 ⟨q, 1, none⟩ = some (.slice aL f.L.length cL) := by rw [cellAt_of b8]; rfl
  have hld := ld_agg T.ag_35 (Rd_block (vs := [.int .i64 (pl + ((d + 1 : Nat) : Int)), .slice aL f.L.length cL, .slice aS f.S.length cS]) b8) rfl
  simp (disch := first | omega | assumption) only [C.maps_Read_gos, vs, Go.Vc.vk, T.ts, ↓reduceIte, Nat.reduceEqDiff, reduceCtorEq, Nat.reduceLeDiff, Nat.reducePow, Int.reducePow, Int.reduceToNat, Nat.reduceAdd, c1, hld]
  refine eff_lits T.slT_26 rfl rfl (by decide) ?_
  simp (disch := first | omega | assumption) only [C.maps_Read_gos, vs, Go.Vc.vk, T.ts, ↓reduceIte, Nat.reduceEqDiff, reduceCtorEq, Nat.reduceLeDiff, Nat.reducePow, Int.reducePow, Int.reduceToNat, Nat.reduceAdd]
  have Wp := W8.ext (Ext.push h8 (.cells #[.int .i64 (pl + ((d + 1 : Nat) : Int)), .slice aL f.L.length cL, .slice aS f.S.length cS] 35))
  have Op := O8.fr (Ext.push h8 (.cells #[.int .i64 (pl + ((d + 1 : Nat) : Int)), .slice aL f.L.length cL, .slice aS f.S.length cS] 35)) (fun _ _ => id)
  have Rp := R8.fr (Ext.push h8 (.cells #[.int .i64 (pl + ((d + 1 : Nat) : Int)), .slice aL f.L.length cL, .slice aS f.S.length cS] 35)) id
  have Xp := X8.trans (Ext.push h8 (.cells #[.int .i64 (pl + ((d + 1 : Nat) : Int)), .slice aL f.L.length cL, .slice aS f.S.length cS] 35))
  refine eff_append_own (m := 1) T.slT_26 rfl rfl Wp.2.1 rfl (Rd_new (vs := [.int .i64 (pl + ((d + 1 : Nat) : Int)), .slice aL f.L.length cL, .slice aS f.S.length cS])) (by simp [oneCell]) (by omega) (by omega) Xp.size ?_
  intro v10 h10 own10 fr10 _
  have OL : FrmO h10 h5.size f (.slice aL f.L.length cL) (.slice aS f.S.length cS) := Op.fr fr10 (fun b hb hs => by
    obtain ⟨cs, fz, hc⟩ := Own.cells Wp.2.1 hs
    rcases hb with hb | hb
    · exact absurd hb (Own_ne Op.L hc (by decide))
    · exact absurd hb (Own_ne Op.S hc (by decide)))
  have W10 := FrsW.snoc (f := ⟨pl + ((d + 1 : Nat) : Int), f.L, f.S⟩) (vL := .slice aL f.L.length cL) (vS := .slice aS f.S.length cS) W Wp ⟨Op.L.mono hhc, Op.S.mono hhc, Op.dj⟩ (fun b hb => by
    rcases hb with hb | hb
    · exact (Op.L.lt b hb).1
    · exact (Op.S.lt b hb).1) own10 fr10
  have X10 : Ext h h10 := Ext.app Xp fr10 (fun k hk => (Wp.2.1.lt k hk).1)
  have R10 := Rp.fr fr10 (Own_ne Wp.2.1 Rp.1 (by decide))
  simp (disch := first | omega | assumption) only [C.maps_Read_gos, vs, Go.Vc.vk, T.ts, ↓reduceIte, Nat.reduceEqDiff, reduceCtorEq, Nat.reduceLeDiff, Nat.reducePow, Int.reducePow, Int.reduceToNat, Nat.reduceAdd]
  refine ⟨_, by omega, k + 1, pl + ((d + 1 : Nat) : Int), f.L, fs ++ [⟨pl + ((d + 1 : Nat) : Int), f.L, f.S⟩], s6, _, v10, rows ++ [[.int .i64 (pl + ((d + 1 : Nat) : Int)), .slice aL f.L.length cL, .slice aS f.S.length cS]], rfl, hk1, by simp, X10, R10, OL.L.mono hhc, W10, by simp; omega, by omega, by omega, by omega,
    pl + ((G2 + 1 : Nat) : Int), G1.L, fs ++ [⟨pl + ((G2 + 1 : Nat) : Int), G1.L, G1.S⟩], by rw [show n - (k + 1) = j by omega]; exact hY, fun h6e => ?_⟩
  obtain ⟨q1, q2, q3⟩ := hX h6e
  rw [q1, q2, q3]
  exact ⟨rfl, rfl, rfl⟩
end Go.Proofs.Ytohkbpnblkkdgaa
