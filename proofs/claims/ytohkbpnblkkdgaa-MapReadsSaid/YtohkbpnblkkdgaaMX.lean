/- The reference's ReadMap: frames out of bytes. -/
import Derived.Test.YtohkbpnblkkdgaaMG
import Derived.Test.YtohkbpnblkkdgaaMW
namespace Go.Proofs.Ytohkbpnblkkdgaa
open Go.Vc
set_option maxRecDepth 100000
set_option linter.unusedSimpArgs false
set_option linter.unusedVariables false

/-- While a frame is read: the reader, the frame, the result. -/
structure FrE (h hc : Heap) (g fq : Nat) (l : List UInt8) (s : RS) (f : Frm) (vL vS : Value) : Prop where
  F : Fr (fun k => k = g) h hc
  R : Cutr hc g l s
  bq : hc[fq]? = some (.cells #[.int .i64 0, vL, vS] 35 (0, 0))
  O : FrmO hc h.size f vL vS
  hfq : h.size ≤ fq
section
variable {h hc h' : Heap} {g fq : Nat} {l : List UInt8} {s s' : RS} {f : Frm} {vL vS : Value} {loc : List VT}
theorem FrE.gf (D : FrE h hc g fq l s f vL vS) : fq ≠ g := by
  intro e
  have h1 := D.bq
  have h2 := D.R.1
  rw [e, h2] at h1
  simp only [Option.some.injEq, Obj.cells.injEq] at h1
  exact absurd h1.2.1 (by decide)
theorem FrE.step (D : FrE h hc g fq l s f vL vS) (f1 : Fr (fun k => k = g) hc h') (R1 : Cutr h' g l s') : FrE h h' g fq l s' f vL vS := by
  refine ⟨Fr.trans D.F f1 (fun _ _ h => h) (fun _ _ h => h), R1, Fr_blk f1 D.bq D.gf, D.O.fr f1 ?_, D.hfq⟩
  rintro k (hk | hk) hs
  · subst hs; exact Own_ne D.O.L D.R.1 (by decide) hk
  · subst hs; exact Own_ne D.O.S D.R.1 (by decide) hk
theorem FrE.c0 (D : FrE h hc g fq l s f vL vS) : cellAt hc ⟨fq, 0, none⟩ = some (.int .i64 0) := by rw [cellAt_of D.bq]; rfl
theorem FrE.c1 (D : FrE h hc g fq l s f vL vS) : cellAt hc ⟨fq, 1, none⟩ = some vL := by rw [cellAt_of D.bq]; rfl
theorem FrE.c2 (D : FrE h hc g fq l s f vL vS) : cellAt hc ⟨fq, 2, none⟩ = some vS := by rw [cellAt_of D.bq]; rfl
theorem FrE.nfz (D : FrE h hc g fq l s f vL vS) (o : Nat) : frozenAt hc ⟨fq, o, none⟩ = false := by simp [frozenAt, D.bq]
theorem FrE.own (D : FrE h hc g fq l s f vL vS) {base e n : Nat} {v : Value} {xs : List Value} {u : Value} {o : Nat} (H : Own hc base e 3 v n xs) (he : e = 25) : Own (setAt hc ⟨fq, o, none⟩ u) base e 3 v n xs := by
  refine H.fr (Fr.set (S := fun k => k = fq) _ _ _ fun _ => rfl) fun k hk hs => ?_
  subst hs
  exact Own_ne H D.bq (by rw [he]; decide) hk
theorem FrE.setS (D : FrE h hc g fq l s f vL vS) {S' : List VT} {v : Value} (hO : Own hc h.size 25 3 v S'.length (flatV S')) (hd : ∀ k, vL.ownBlock = some k → ¬ v.ownBlock = some k) :
    FrE h (setAt hc ⟨fq, 2, none⟩ v) g fq l s ⟨0, f.L, S'⟩ vL v := by
  have f1 : Fr (fun k => k = fq) hc (setAt hc ⟨fq, 2, none⟩ v) := Fr.set (S := fun k => k = fq) _ _ _ fun _ => rfl
  have h1 := D.hfq
  exact ⟨Fr.trans D.F f1 (fun _ _ h => h) (fun k hk hs => by omega), D.R.fr f1 (fun e => D.gf e.symm), setAt_get (o := 2) D.bq v, ⟨D.own D.O.L rfl, D.own hO rfl, hd⟩, D.hfq⟩
theorem FrE.setL (D : FrE h hc g fq l s f vL vS) {L' : List VT} {v : Value} (hO : Own hc h.size 25 3 v L'.length (flatV L')) (hd : ∀ k, v.ownBlock = some k → ¬ vS.ownBlock = some k) :
    FrE h (setAt hc ⟨fq, 1, none⟩ v) g fq l s ⟨0, L', f.S⟩ v vS := by
  have f1 : Fr (fun k => k = fq) hc (setAt hc ⟨fq, 1, none⟩ v) := Fr.set (S := fun k => k = fq) _ _ _ fun _ => rfl
  have h1 := D.hfq
  exact ⟨Fr.trans D.F f1 (fun _ _ h => h) (fun k hk hs => by omega), D.R.fr f1 (fun e => D.gf e.symm), setAt_get (o := 1) D.bq v, ⟨D.own hO rfl, D.own D.O.S rfl, hd⟩, D.hfq⟩
theorem FrE.app {L0 L' : List VT} {v : Value} (D : FrE h hc g fq l s ⟨0, L0, []⟩ vL (.slice none 0 0)) (fr : Fr (fun k => vL.ownBlock = some k) hc h') (own : Own h' h.size 25 3 v L'.length (flatV L')) :
    cellAt h' ⟨fq, 1, none⟩ = some vL ∧ frozenAt h' ⟨fq, 1, none⟩ = false ∧ FrE h (setAt h' ⟨fq, 1, none⟩ v) g fq l s ⟨0, L', []⟩ v (.slice none 0 0) := by
  have bq := Fr_blk fr D.bq (Own_ne D.O.L D.bq (by decide))
  have R := D.R.fr fr (Own_ne D.O.L D.R.1 (by decide))
  have h1 := D.hfq
  have f1 : Fr (fun k => k = fq) h' (setAt h' ⟨fq, 1, none⟩ v) := Fr.set (S := fun k => k = fq) _ _ _ fun _ => rfl
  refine ⟨by rw [cellAt_of bq]; rfl, by simp [frozenAt, bq], Fr.trans (Fr.trans D.F fr (fun _ _ h => h) (fun k hk hs => by have := D.O.L.lt k hs; omega)) f1 (fun _ _ h => h) (fun k hk hs => by omega), R.fr f1 (fun e => D.gf e.symm), setAt_get (o := 1) bq v, 
    ⟨own.fr f1 fun k hk hs => by subst hs; exact Own_ne own bq (by decide) hk, Own.nil, fun k _ hs => by simp [Value.ownBlock] at hs⟩, D.hfq⟩
theorem FrE.lit (D : FrE h hc g fq l s f vL vS) : ld Try.prog 35 ⟨fq, 0, none⟩ hc = some (.agg #[.int .i64 0, vL, vS]) := ld_agg T.ag_35 (Rd_block (vs := [.int .i64 0, vL, vS]) D.bq) rfl
theorem FrE.one (D : FrE h hc g fq l s f vL vS) : ∀ u ∈ (Value.agg #[.int .i64 0, vL, vS]).cells.toList, oneCell u = true := by
  intro u hu
  obtain ⟨_, a1, c1, rfl, _⟩ := D.O.L.slN
  obtain ⟨_, a2, c2, rfl, _⟩ := D.O.S.slN
  simp [Value.cells] at hu
  rcases hu with rfl | rfl | rfl <;> rfl
theorem FrE.fin (D : FrE h hc g fq l s f vL vS) (x : Int) : Fr (fun k => k = fq) hc (setAt hc ⟨fq, 0, none⟩ (.int .i64 x)) ∧ (setAt hc ⟨fq, 0, none⟩ (.int .i64 x))[fq]? = some (.cells #[.int .i64 x, vL, vS] 35 (0, 0)) ∧
    Cutr (setAt hc ⟨fq, 0, none⟩ (.int .i64 x)) g l s ∧ FrmO (setAt hc ⟨fq, 0, none⟩ (.int .i64 x)) h.size f vL vS := by
  have f8 : Fr (fun k => k = fq) hc (setAt hc ⟨fq, 0, none⟩ (.int .i64 x)) := Fr.set (S := fun k => k = fq) _ _ _ fun _ => rfl
  refine ⟨f8, setAt_get (o := 0) D.bq _, D.R.fr f8 (fun e => D.gf e.symm), D.O.fr f8 (fun b hb hs => ?_)⟩
  subst hs
  rcases hb with hb | hb
  · exact Own_ne D.O.L D.bq (by decide) hb
  · exact Own_ne D.O.S D.bq (by decide) hb
end
theorem max_nat (x : Int) : (if x < 0 then (0 : Int) else x) = ((x.toNat : Nat) : Int) := by split <;> omega
section
set_option maxHeartbeats 8000000 in
theorem rmapRead_any (l : List UInt8) (p : List Cst) (first : List VT) (vp vf : Value) (h : Heap) (hl : l.length ≤ 1073741824) (hp : SlN h 5 vp p.length (flatS p)) (hpf : ∀ c ∈ p, c.Fit)
    (hf : SlN h 3 vf first.length (flatV first)) (hfl : first.length ≤ 1048576) {e0 : TypeId} {bx : Nat} (hfo : Own h bx 25 3 vf first.length (flatV first)) :
    HCalls Try.prog 9 #[str l, vp, vf] h fun v h' => Ext h h' ∧ ∃ sv rows, v = .tuple #[sv, .int .i64 ((mapA p l first).2.1 : Int), .int .i64 ((mapA p l first).2.2 : Int)] ∧
      FrsW h' h.size sv rows (mapA p l first).1 := by
  refine C.ref3_ReadMap_calls (args := [str l, vp, vf]) rfl ?_
  have hp' := hp
  obtain ⟨_, ap, cp, rfl, _⟩ := hp'
  have hf' := hf
  obtain ⟨_, af, cf, rfl, _⟩ := hf'
  generalize hY : mapA p l first = Y
  unfold mapA at hY
  simp (disch := first | omega | assumption) only [C.ref3_ReadMap_gos, vs, Go.Vc.vk, T.ts, ↓reduceIte, Nat.reduceEqDiff, reduceCtorEq, Nat.reduceLeDiff, Nat.reducePow, Int.reducePow, Int.reduceToNat, Nat.reduceAdd]
  refine eff_box ?_
  have x2 : Ext h (h.push (.cells #[str l, .int .i64 0, .int .i64 0, .int .i64 0] 66)) := Ext.push _ _
  have r2 : Cutr (h.push (.cells #[str l, .int .i64 0, .int .i64 0, .int .i64 0] 66)) h.size l ⟨0, 0, 0⟩ := ⟨by simp, Nat.zero_le _⟩
  simp (disch := first | omega | assumption) only [C.ref3_ReadMap_gos, vs, Go.Vc.vk, T.ts, ↓reduceIte, Nat.reduceEqDiff, reduceCtorEq, Nat.reduceLeDiff, Nat.reducePow, Int.reducePow, Int.reduceToNat, Nat.reduceAdd]
  generalize h.push (.cells #[str l, .int .i64 0, .int .i64 0, .int .i64 0] 66) = h2 at *
  obtain ⟨g, hg⟩ : ∃ g, g = h.size := ⟨_, rfl⟩
  rw [← hg] at r2 ⊢
  have hgh : h.size ≤ g := by omega
  refine eff_call_of ?_
  simp (disch := first | omega | assumption) only [C.ref3_ReadMap_gos, vs, Go.Vc.vk, T.ts, ↓reduceIte, Nat.reduceEqDiff, reduceCtorEq, Nat.reduceLeDiff, Nat.reducePow, Int.reducePow, Int.reduceToNat, Nat.reduceAdd]
  refine (cnum_any 2 hl (by omega) r2).mono ?_
  rintro v3 h3 ⟨f3, r3, rfl⟩
  have X3 : Ext h h3 := Fr.trans x2 f3 (fun _ _ h => h) (fun k hk hs => by omega)
  have hn := numS_lt (l := l) (n := 2) (s := ⟨0, 0, 0⟩)
  simp only [Nat.reducePow] at hn
  generalize numS l 2 ⟨0, 0, 0⟩ = o at *
  obtain ⟨n, s0⟩ := o
  simp only at r3 hn hY
  clear f3 x2 r2
  have own3 := hfo.ext X3
  simp (disch := first | omega | assumption) only [C.ref3_ReadMap_gos, vs, Go.Vc.vk, T.ts, ↓reduceIte, Nat.reduceEqDiff, reduceCtorEq, Nat.reduceLeDiff, Nat.reducePow, Int.reducePow, Int.reduceToNat, Nat.reduceAdd]
  refine loop_intro [0, 1, 9, 10, 11, 12, 13] (fun m ρ hc => ∃ (k : Nat) (pl : Int) (loc : List VT) (fs : List Frm) (s : RS) (vloc sv : Value) (rows : List (List Value)) (bl : Nat), m = n - k ∧ k ≤ n ∧
      ρ = [(0, str l), (1, .slice ap p.length cp), (9, .pointer (some ⟨g, 0, none⟩)), (10, .int .i64 ((n - k : Nat) : Int)), (11, vloc), (12, .int .i64 pl), (13, sv)] ∧
      Ext h hc ∧ Cutr hc g l s ∧ Own hc bl 25 3 vloc loc.length (flatV loc) ∧ FrsW hc h.size sv rows fs ∧ fs.length ≤ k ∧ loc.length ≤ 1200000 + 3 * k ∧ -1 ≤ pl ∧ pl ≤ 65536 * (k : Int) - 1 ∧
      ∃ (pl' : Int) (loc' : List VT) (fs' : List Frm), mapE l (mapD p l (n - k) pl' loc' fs' s) = Y ∧ (s.e = 0 → pl = pl' ∧ loc = loc' ∧ fs = fs')) ?_ ?_
  · simp (disch := first | omega | assumption) only [C.ref3_ReadMap_gos, vs, Go.Vc.vk, T.ts, ↓reduceIte, Nat.reduceEqDiff, reduceCtorEq, Nat.reduceLeDiff, Nat.reducePow, Int.reducePow, Int.reduceToNat, Nat.reduceAdd]
    exact ⟨_, 0, -1, first, [], s0, _, _, [], bx, rfl, Nat.zero_le _, rfl, X3, r3, own3, FrsW.nil, Nat.le_refl _, by omega, by omega, by omega, -1, first, [], hY, fun _ => ⟨rfl, rfl, rfl⟩⟩
  clear X3 r3 own3 hY hf hfo
  rintro m ρ hc ⟨k, pl, loc, fs, s, vloc, sv, rows, bl, rfl, hk, rfl, X, R, ol, W, hfk, hll, hpl1, hpl2, pl', loc', fs', hY, hEq⟩
  have d1 := R.c1
  have d2 := R.c2
  have d3 := R.c3
  by_cases hmore : k < n ∧ s.e = 0
  case neg =>
    have hfin : mapE l (fs', s) = Y := by
      rw [← hY]
      by_cases hkn : k < n
      · have he : s.e ≠ 0 := fun he => hmore ⟨hkn, he⟩
        rw [mapD_bad he]
      · rw [show n - k = 0 by omega, mapD]
    unfold mapE at hfin
    simp only at hfin
    have hpl := R.2
    obtain ⟨s9, hs9⟩ : ∃ s9 : RS, s9 = if s.p < l.length then failS 2 s.p s else s := ⟨_, rfl⟩
    rw [← hs9] at hfin
    by_cases hkn : k < n
    case' pos =>
      have hkn' : (0 : Int) < ((n - k : Nat) : Int) := by omega
      have he : ¬ (s.e : Int) = 0 := fun he => hmore ⟨hkn, by omega⟩
      simp (disch := first | omega | assumption) only [C.ref3_ReadMap_gos, vs, Go.Vc.vk, T.ts, ↓reduceIte, Nat.reduceEqDiff, reduceCtorEq, Nat.reduceLeDiff, Nat.reducePow, Int.reducePow, Int.reduceToNat, Nat.reduceAdd, hkn', d1, d2, eq_false he]
    case' neg =>
      have hkn' : ¬ (0 : Int) < ((n - k : Nat) : Int) := by omega
      simp (disch := first | omega | assumption) only [C.ref3_ReadMap_gos, vs, Go.Vc.vk, T.ts, ↓reduceIte, Nat.reduceEqDiff, reduceCtorEq, Nat.reduceLeDiff, Nat.reducePow, Int.reducePow, Int.reduceToNat, Nat.reduceAdd, hkn', d1, d2]
    all_goals
      by_cases hp9 : s.p < l.length
      case' pos =>
        have hlt' : (s.p : Int) < (l.length : Int) := by omega
        rw [if_pos hp9] at hs9
        simp (disch := first | omega | assumption) only [C.ref3_ReadMap_gos, vs, Go.Vc.vk, T.ts, ↓reduceIte, Nat.reduceEqDiff, reduceCtorEq, Nat.reduceLeDiff, Nat.reducePow, Int.reducePow, Int.reduceToNat, Nat.reduceAdd, hlt', d1]
        refine eff_call_of ?_
        simp (disch := first | omega | assumption) only [C.ref3_ReadMap_gos, vs, Go.Vc.vk, T.ts, ↓reduceIte, Nat.reduceEqDiff, reduceCtorEq, Nat.reduceLeDiff, Nat.reducePow, Int.reducePow, Int.reduceToNat, Nat.reduceAdd]
        refine (cfail_any 2 s.p R).mono ?_
        intro v8 h8 hp8
        have f8 := hp8.1
        have R9 := hp8.2
        rw [← hs9] at R9
        clear hp8
        have X9 : Ext h h8 := Fr.trans X f8 (fun _ _ h => h) (fun k hk hs => by omega)
        have W9 := W.rd f8 R.1 (by decide) (by decide)
        have k2 := R9.c2
        have k3 := R9.c3
      case' neg =>
        have hlt' : ¬ (s.p : Int) < (l.length : Int) := by omega
        rw [if_neg hp9] at hs9
        have R9 := R
        rw [← hs9] at R9
        have X9 := X
        have W9 := W
        have k2 := R9.c2
        have k3 := R9.c3
      all_goals
        by_cases he9 : s9.e = 0
        · have he9' : (s9.e : Int) = 0 := by omega
          rw [if_neg (by simp [he9])] at hfin
          have hse : s.e = 0 := by
            rw [hs9] at he9
            first
              | exact he9
              | (refine Classical.byContradiction fun hse => ?_
                 rw [failS_e hse] at he9
                 exact hse he9)
          obtain ⟨_, _, rfl⟩ := hEq hse
          rw [← hfin]
          simp (disch := first | omega | assumption) only [C.ref3_ReadMap_gos, vs, Go.Vc.vk, T.ts, ↓reduceIte, Nat.reduceEqDiff, reduceCtorEq, Nat.reduceLeDiff, Nat.reducePow, Int.reducePow, Int.reduceToNat, Nat.reduceAdd, hlt', k2, k3, eq_true he9']
          exact ⟨X9, _, rows, rfl, by rw [hg]; exact W9⟩
        · have he9' : ¬ (s9.e : Int) = 0 := by omega
          rw [if_pos (by simpa using he9)] at hfin
          rw [← hfin]
          simp (disch := first | omega | assumption) only [C.ref3_ReadMap_gos, vs, Go.Vc.vk, T.ts, ↓reduceIte, Nat.reduceEqDiff, reduceCtorEq, Nat.reduceLeDiff, Nat.reducePow, Int.reducePow, Int.reduceToNat, Nat.reduceAdd, hlt', k2, k3, eq_false he9']
          exact ⟨X9, _, [], rfl, FrsW.nil⟩
  obtain ⟨rfl, rfl, rfl⟩ := hEq hmore.2
  have hkn' : (0 : Int) < ((n - k : Nat) : Int) := by omega
  obtain ⟨j, hj⟩ : ∃ j, n - k = j + 1 := ⟨n - k - 1, by omega⟩
  rw [hj, mapD, if_neg (by simp [hmore.2])] at hY
  have he := hmore.2
  have he' : (s.e : Int) = 0 := by omega
  obtain ⟨a3, al, cl, rfl, _⟩ := ol.slN
  simp (disch := first | omega | assumption) only [C.ref3_ReadMap_gos, vs, Go.Vc.vk, T.ts, ↓reduceIte, Nat.reduceEqDiff, reduceCtorEq, Nat.reduceLeDiff, Nat.reducePow, Int.reducePow, Int.reduceToNat, Nat.reduceAdd, hkn', d1, d2, eq_true he']
  refine eff_call_of ?_
  simp (disch := first | omega | assumption) only [C.ref3_ReadMap_gos, vs, Go.Vc.vk, T.ts, ↓reduceIte, Nat.reduceEqDiff, reduceCtorEq, Nat.reduceLeDiff, Nat.reducePow, Int.reducePow, Int.reduceToNat, Nat.reduceAdd]
  refine (cnum_any 1 hl (by omega) R).mono ?_
  rintro v5 h5 ⟨f5, R5, rfl⟩
  have ht := numS_lt (l := l) (n := 1) (s := s)
  simp only [Nat.reducePow] at ht
  have F5 := f5
  have ol5 := ol.fr f5 fun k hk hs => by subst hs; exact Own_ne ol R.1 (by decide) hk
  have hG : frmD p l loc s = frmD p l loc s := rfl
  conv at hG => rhs; unfold frmD
  simp only at hG
  generalize frmD p l loc s = G at *
  have hpl := R.2
  have hsz0 : h.size ≤ hc.size := X.size
  generalize numS l 1 s = o at *
  obtain ⟨t, s2⟩ := o
  simp only at R5 ht hG
  clear f5 ol d1 d2 d3
  simp (disch := first | omega | assumption) only [C.ref3_ReadMap_gos, vs, Go.Vc.vk, T.ts, ↓reduceIte, Nat.reduceEqDiff, reduceCtorEq, Nat.reduceLeDiff, Nat.reducePow, Int.reducePow, Int.reduceToNat, Nat.reduceAdd]
  refine eff_call_of ?_
  simp (disch := first | omega | assumption) only [C.ref3_ReadMap_gos, vs, Go.Vc.vk, T.ts, ↓reduceIte, Nat.reduceEqDiff, reduceCtorEq, Nat.reduceLeDiff, Nat.reducePow, Int.reducePow, Int.reduceToNat, Nat.reduceAdd]
  refine (list_any loc _ h5 ol5.slN (by omega)).mono ?_
  rintro v6 h6 ⟨x6, own6⟩
  have own6' := own6.mono F5.size
  have R6 := R5.fr x6 id
  have F6 := Fr.trans F5 x6 (fun _ _ h => h) (fun _ _ h => h.elim)
  obtain ⟨_, a4, c4, rfl, _⟩ := own6.slN
  clear own6 R5 F5 x6 ol5
  simp (disch := first | omega | assumption) only [C.ref3_ReadMap_gos, vs, Go.Vc.vk, T.ts, ↓reduceIte, Nat.reduceEqDiff, reduceCtorEq, Nat.reduceLeDiff, Nat.reducePow, Int.reducePow, Int.reduceToNat, Nat.reduceAdd]
  refine eff_alloc_z T.zr_35 ?_
  simp (disch := first | omega | assumption) only [C.ref3_ReadMap_gos, vs, Go.Vc.vk, T.ts, ↓reduceIte, Nat.reduceEqDiff, reduceCtorEq, Nat.reduceLeDiff, Nat.reducePow, Int.reducePow, Int.reduceToNat, Nat.reduceAdd]
  refine eff_store_new_z T.zr_35 rfl rfl rfl (by simp [Value.cells, oneCell]) rfl ?_
  intro h7 x7 hlt7 hrd7 b7
  have D : FrE hc h7 g h6.size l s2 ⟨0, loc, []⟩ (.slice a4 loc.length c4) (.slice none 0 0) := ⟨Fr.trans F6 x7 (fun _ _ h => h) (fun _ _ h => h.elim), R6.fr x7 id, b7, ⟨own6'.ext x7, Own.nil, fun k hk hs => by simp [Value.ownBlock] at hs⟩, F6.size⟩
  have hx0 := X
  have X7 : Ext h h7 := Fr.trans hx0 D.F (fun _ _ h => h) (fun k hk hs => by omega)
  generalize h6.size = fq at *
  clear own6' R6 F6 x7 hlt7 hrd7 b7
  have hclc : loc.length ≤ c4 := D.O.L.capOk
  have hlc : loc.length ≤ 1073741824 := by omega
  refine Or.elim (Classical.em (t < 64)) (fun t64 => ?ca1) (fun t64 => ?cb1)
  case' ca1 =>
    rw [if_pos t64] at hG
    have q1 : ¬ (64 : Int) ≤ t := by omega
    have q2 : ¬ (247 : Int) ≤ t := by omega
    have q3 : (t : Int) < 64 := by omega
    have D9 := D
    have X9 := X7
    clear D X7
    simp (disch := first | omega | assumption) only [C.ref3_ReadMap_gos, vs, Go.Vc.vk, T.ts, ↓reduceIte, Nat.reduceEqDiff, reduceCtorEq, Nat.reduceLeDiff, Nat.reducePow, Int.reducePow, Int.reduceToNat, Nat.reduceAdd, q1, q2, q3]
    obtain ⟨L9, hL9⟩ : ∃ L9, L9 = loc := ⟨_, rfl⟩
    obtain ⟨S9, hS9⟩ : ∃ S9 : List VT, S9 = [] := ⟨_, rfl⟩
    obtain ⟨dl, hdl⟩ : ∃ dl : Nat, dl = t := ⟨_, rfl⟩
    have hB : L9.length ≤ max (loc.length + 3) 65535 ∧ S9.length ≤ 65535 ∧ dl ≤ 65535 := ⟨by rw [hL9]; omega, by rw [hS9]; simp, by omega⟩
    have hX : G.2.2.e = 0 → L9 = G.1.L ∧ S9 = G.1.S ∧ dl = G.2.1 := fun he => by
      rw [hG] at he ⊢
      exact ⟨hL9, hS9, hdl⟩
    have hYs : G.2.2 = s2 := by rw [hG]
    simp only [← hL9, ← hS9] at D9
    try rw [← hdl]
  case' cb1 =>
    rw [if_neg t64] at hG
    have p64 : (64 : Int) ≤ t := by omega
    have m64 : ¬ (t : Int) < 64 := by omega
    refine Or.elim (Classical.em (t < 128)) (fun t128 => ?ca2) (fun t128 => ?cb2)
    case' ca2 =>
      rw [if_pos t128] at hG
      have q1 : (t : Int) < 128 := by omega
      have q2 : ¬ (247 : Int) ≤ t := by omega
      have q3 : ¬ (t : Int) = 251 := by omega
      have hd : (t : Int) - 64 = ((t - 64 : Nat) : Int) := by omega
      simp (disch := first | omega | assumption) only [C.ref3_ReadMap_gos, vs, Go.Vc.vk, T.ts, ↓reduceIte, Nat.reduceEqDiff, reduceCtorEq, Nat.reduceLeDiff, Nat.reducePow, Int.reducePow, Int.reduceToNat, Nat.reduceAdd, p64, q1, q2, m64, eq_false q3, decide_false, hd]
      refine eff_call_of ?_
      simp (disch := first | omega | assumption) only [C.ref3_ReadMap_gos, vs, Go.Vc.vk, T.ts, ↓reduceIte, Nat.reduceEqDiff, reduceCtorEq, Nat.reduceLeDiff, Nat.reducePow, Int.reducePow, Int.reduceToNat, Nat.reduceAdd]
      refine (cvalues_any 1 hl (by omega) X7 hgh hp hpf D.R).mono ?_
      rintro v8 h8 ⟨f8, R8, xs, ow, hxl, hxe⟩
      have D8 := D.step f8 R8
      have ow8 := ow.mono D.F.size
      have hdj : ∀ k, (Value.slice a4 loc.length c4).ownBlock = some k → ¬ v8.ownBlock = some k := fun k hk hs => by have h1 := D.O.L.lt k hk; have h2 := ow.lt k hs; omega
      obtain ⟨_, a6, c6, rfl, _⟩ := ow.slN
      clear D ow X7 f8 R8
      simp (disch := first | omega | assumption) only [C.ref3_ReadMap_gos, vs, Go.Vc.vk, T.ts, ↓reduceIte, Nat.reduceEqDiff, reduceCtorEq, Nat.reduceLeDiff, Nat.reducePow, Int.reducePow, Int.reduceToNat, Nat.reduceAdd]
      refine eff_store1_z T.zr_23 rfl rfl rfl rfl rfl D8.c2 (D8.nfz 2) ?_
      have D9 := D8.setS ow8 hdj
      clear D8
      have X9 : Ext h (setAt h8 ⟨fq, 2, none⟩ (.slice a6 xs.length c6)) := Fr.trans hx0 D9.F (fun _ _ h => h) (fun k hk hs => by omega)
      generalize setAt h8 ⟨fq, 2, none⟩ _ = h9 at *
      simp (disch := first | omega | assumption) only [C.ref3_ReadMap_gos, vs, Go.Vc.vk, T.ts, ↓reduceIte, Nat.reduceEqDiff, reduceCtorEq, Nat.reduceLeDiff, Nat.reducePow, Int.reducePow, Int.reduceToNat, Nat.reduceAdd]
      obtain ⟨L9, hL9⟩ : ∃ L9, L9 = loc := ⟨_, rfl⟩
      obtain ⟨S9, hS9⟩ : ∃ S9 : List VT, S9 = xs := ⟨_, rfl⟩
      obtain ⟨dl, hdl⟩ : ∃ dl : Nat, dl = t - 64 := ⟨_, rfl⟩
      have hB : L9.length ≤ max (loc.length + 3) 65535 ∧ S9.length ≤ 65535 ∧ dl ≤ 65535 := ⟨by rw [hL9]; omega, by rw [hS9]; omega, by omega⟩
      have hX : G.2.2.e = 0 → L9 = G.1.L ∧ S9 = G.1.S ∧ dl = G.2.1 := fun he => by
        rw [hG] at he ⊢
        exact ⟨hL9, by rw [hS9]; exact hxe he, hdl⟩
      have hYs : G.2.2 = (valsD p l 1 [] s2).2 := by rw [hG]
      simp only [← hL9, ← hS9] at D9
      try rw [← hdl]
    case' cb2 =>
      rw [if_neg t128] at hG
      have m128 : ¬ (t : Int) < 128 := by omega
      refine Or.elim (Classical.em (t < 247)) (fun t247 => ?ca3) (fun t247 => ?cb3)
      case' ca3 =>
        rw [if_pos t247] at hG
        have q2 : ¬ (247 : Int) ≤ t := by omega
        have q1 : ¬ (t : Int) = 247 := by omega
        have q3 : ¬ (t : Int) = 251 := by omega
        have q4 : (t : Int) < 247 := by omega
        simp (disch := first | omega | assumption) only [C.ref3_ReadMap_gos, vs, Go.Vc.vk, T.ts, ↓reduceIte, Nat.reduceEqDiff, reduceCtorEq, Nat.reduceLeDiff, Nat.reducePow, Int.reducePow, Int.reduceToNat, Nat.reduceAdd, p64, m64, m128, q2, eq_false q3, eq_false q1, q4, decide_false]
        refine eff_call_of ?_
        simp (disch := first | omega | assumption) only [C.ref3_ReadMap_gos, vs, Go.Vc.vk, T.ts, ↓reduceIte, Nat.reduceEqDiff, reduceCtorEq, Nat.reduceLeDiff, Nat.reducePow, Int.reducePow, Int.reduceToNat, Nat.reduceAdd]
        refine (cfail_any 17 s.p D.R).mono ?_
        rintro v8 h8 ⟨f8, R8⟩
        have D9 := D.step f8 R8
        clear D X7
        have X9 : Ext h h8 := Fr.trans hx0 D9.F (fun _ _ h => h) (fun k hk hs => by omega)
        simp (disch := first | omega | assumption) only [C.ref3_ReadMap_gos, vs, Go.Vc.vk, T.ts, ↓reduceIte, Nat.reduceEqDiff, reduceCtorEq, Nat.reduceLeDiff, Nat.reducePow, Int.reducePow, Int.reduceToNat, Nat.reduceAdd]
        obtain ⟨L9, hL9⟩ : ∃ L9, L9 = loc := ⟨_, rfl⟩
        obtain ⟨S9, hS9⟩ : ∃ S9 : List VT, S9 = [] := ⟨_, rfl⟩
        obtain ⟨dl, hdl⟩ : ∃ dl : Nat, dl = t := ⟨_, rfl⟩
        have hB : L9.length ≤ max (loc.length + 3) 65535 ∧ S9.length ≤ 65535 ∧ dl ≤ 65535 := ⟨by rw [hL9]; omega, by rw [hS9]; simp, by omega⟩
        have hX : G.2.2.e = 0 → L9 = G.1.L ∧ S9 = G.1.S ∧ dl = G.2.1 := fun he => by
          rw [hG] at he ⊢
          exact absurd he (failS_ne (by decide))
        have hYs : G.2.2 = failS 17 s.p s2 := by rw [hG]
        simp only [← hL9, ← hS9] at D9
        try rw [← hdl]
      case' cb3 =>
        rw [if_neg t247] at hG
        have p247 : (247 : Int) ≤ t := by omega
        have m247 : ¬ (t : Int) < 247 := by omega
        simp (disch := first | omega | assumption) only [C.ref3_ReadMap_gos, vs, Go.Vc.vk, T.ts, ↓reduceIte, Nat.reduceEqDiff, reduceCtorEq, Nat.reduceLeDiff, Nat.reducePow, Int.reducePow, Int.reduceToNat, Nat.reduceAdd, p64, m64, m128, p247]
        refine eff_call_of ?_
        simp (disch := first | omega | assumption) only [C.ref3_ReadMap_gos, vs, Go.Vc.vk, T.ts, ↓reduceIte, Nat.reduceEqDiff, reduceCtorEq, Nat.reduceLeDiff, Nat.reducePow, Int.reducePow, Int.reduceToNat, Nat.reduceAdd]
        refine (cnum_any 2 hl (by omega) D.R).mono ?_
        rintro v8 h8 ⟨f8, R8, rfl⟩
        have D8 := D.step f8 R8
        clear D X7 f8 R8
        have X8 : Ext h h8 := Fr.trans hx0 D8.F (fun _ _ h => h) (fun k hk hs => by omega)
        have hdd := numS_lt (l := l) (n := 2) (s := s2)
        simp only [Nat.reducePow] at hdd
        generalize numS l 2 s2 = o at *
        obtain ⟨dd, s3⟩ := o
        simp only at D8 hG hdd
        refine Or.elim (Classical.em (t = 247)) (fun e247 => ?ca4) (fun e247 => ?cb4)
        case' ca4 =>
          rw [if_pos e247] at hG
          have q1 : (t : Int) = 247 := by omega
          have q3 : ¬ (t : Int) = 251 := by omega
          simp (disch := first | omega | assumption) only [C.ref3_ReadMap_gos, vs, Go.Vc.vk, T.ts, ↓reduceIte, Nat.reduceEqDiff, reduceCtorEq, Nat.reduceLeDiff, Nat.reducePow, Int.reducePow, Int.reduceToNat, Nat.reduceAdd, m64, m128, eq_true q1, eq_false q3, decide_true, decide_false]
          refine eff_call_of ?_
          simp (disch := first | omega | assumption) only [C.ref3_ReadMap_gos, vs, Go.Vc.vk, T.ts, ↓reduceIte, Nat.reduceEqDiff, reduceCtorEq, Nat.reduceLeDiff, Nat.reducePow, Int.reducePow, Int.reduceToNat, Nat.reduceAdd]
          refine (cvalues_any 1 hl (by omega) X8 hgh hp hpf D8.R).mono ?_
          rintro va ha ⟨fa, Ra, xs, ow, hxl, hxe⟩
          have Da := D8.step fa Ra
          have ow8 := ow.mono D8.F.size
          have hdj : ∀ k, (Value.slice a4 loc.length c4).ownBlock = some k → ¬ va.ownBlock = some k := fun k hk hs => by have h1 := D8.O.L.lt k hk; have h2 := ow.lt k hs; omega
          obtain ⟨_, a6, c6, rfl, _⟩ := ow.slN
          clear D8 ow X8 fa Ra
          simp (disch := first | omega | assumption) only [C.ref3_ReadMap_gos, vs, Go.Vc.vk, T.ts, ↓reduceIte, Nat.reduceEqDiff, reduceCtorEq, Nat.reduceLeDiff, Nat.reducePow, Int.reducePow, Int.reduceToNat, Nat.reduceAdd]
          refine eff_store1_z T.zr_23 rfl rfl rfl rfl rfl Da.c2 (Da.nfz 2) ?_
          have D9 := Da.setS ow8 hdj
          clear Da
          have X9 : Ext h (setAt ha ⟨fq, 2, none⟩ (.slice a6 xs.length c6)) := Fr.trans hx0 D9.F (fun _ _ h => h) (fun k hk hs => by omega)
          generalize setAt ha ⟨fq, 2, none⟩ _ = h9 at *
          simp (disch := first | omega | assumption) only [C.ref3_ReadMap_gos, vs, Go.Vc.vk, T.ts, ↓reduceIte, Nat.reduceEqDiff, reduceCtorEq, Nat.reduceLeDiff, Nat.reducePow, Int.reducePow, Int.reduceToNat, Nat.reduceAdd]
          obtain ⟨L9, hL9⟩ : ∃ L9, L9 = loc := ⟨_, rfl⟩
          obtain ⟨S9, hS9⟩ : ∃ S9 : List VT, S9 = xs := ⟨_, rfl⟩
          obtain ⟨dl, hdl⟩ : ∃ dl : Nat, dl = dd := ⟨_, rfl⟩
          have hB : L9.length ≤ max (loc.length + 3) 65535 ∧ S9.length ≤ 65535 ∧ dl ≤ 65535 := ⟨by rw [hL9]; omega, by rw [hS9]; omega, by omega⟩
          have hX : G.2.2.e = 0 → L9 = G.1.L ∧ S9 = G.1.S ∧ dl = G.2.1 := fun he => by
            rw [hG] at he ⊢
            exact ⟨hL9, by rw [hS9]; exact hxe he, hdl⟩
          have hYs : G.2.2 = (valsD p l 1 [] s3).2 := by rw [hG]
          simp only [← hL9, ← hS9] at D9
          try rw [← hdl]
        case' cb4 =>
          rw [if_neg e247] at hG
          have n247 : ¬ (t : Int) = 247 := by omega
          refine Or.elim (Classical.em (t = 251)) (fun e251 => ?ca5) (fun e251 => ?cb5)
          case' ca5 =>
            have q3 : (t : Int) = 251 := by omega
            rw [if_neg (by omega), if_pos (by omega), e251] at hG
            rw [show 251 - 251 = 0 from rfl, valsD, List.append_nil] at hG
            have D9 := D8
            have X9 := X8
            clear D8 X8
            simp (disch := first | omega | assumption) only [C.ref3_ReadMap_gos, vs, Go.Vc.vk, T.ts, ↓reduceIte, Nat.reduceEqDiff, reduceCtorEq, Nat.reduceLeDiff, Nat.reducePow, Int.reducePow, Int.reduceToNat, Nat.reduceAdd, m64, eq_true q3, decide_true]
            obtain ⟨L9, hL9⟩ : ∃ L9, L9 = loc := ⟨_, rfl⟩
            obtain ⟨S9, hS9⟩ : ∃ S9 : List VT, S9 = [] := ⟨_, rfl⟩
            obtain ⟨dl, hdl⟩ : ∃ dl : Nat, dl = dd := ⟨_, rfl⟩
            have hB : L9.length ≤ max (loc.length + 3) 65535 ∧ S9.length ≤ 65535 ∧ dl ≤ 65535 := ⟨by rw [hL9]; omega, by rw [hS9]; simp, by omega⟩
            have hX : G.2.2.e = 0 → L9 = G.1.L ∧ S9 = G.1.S ∧ dl = G.2.1 := fun he => by
              rw [hG] at he ⊢
              exact ⟨hL9, hS9, hdl⟩
            have hYs : G.2.2 = s3 := by rw [hG]
            simp only [← hL9, ← hS9] at D9
            try rw [← hdl]
          case' cb5 =>
            have n251 : ¬ (t : Int) = 251 := by omega
            have k2 := D8.R.c2
            refine Or.elim (Classical.em (t < 251)) (fun l251 => ?ca6) (fun l251 => ?cb6)
            case' ca6 =>
              rw [if_pos l251] at hG
              have q1 : (t : Int) < 251 := by omega
              refine Or.elim (Classical.em (loc.length + t < 251)) (fun hk0 => ?ca7) (fun hk0 => ?cb7)
              case' ca7 =>
                rw [if_pos hk0] at hG
                have hng : (loc.length : Int) - 251 + (t : Int) < 0 := by omega
                have otk := D8.O.L.take (k := 0) (Nat.zero_le _)
                refine Or.elim (Classical.em (s3.e = 0)) (fun e3 => ?ca8) (fun e3 => ?cb8)
                case' ca8 =>
                  have e3' : (s3.e : Int) = 0 := by omega
                  simp (disch := first | omega | assumption) only [C.ref3_ReadMap_gos, vs, Go.Vc.vk, T.ts, ↓reduceIte, Nat.reduceEqDiff, reduceCtorEq, Nat.reduceLeDiff, Nat.reducePow, Int.reducePow, Int.reduceToNat, Nat.reduceAdd, m64, m128, m247, eq_false n247, eq_false n251, q1, decide_false, hng, k2, eq_true e3']
                  refine eff_call_of ?_
                  simp (disch := first | omega | assumption) only [C.ref3_ReadMap_gos, vs, Go.Vc.vk, T.ts, ↓reduceIte, Nat.reduceEqDiff, reduceCtorEq, Nat.reduceLeDiff, Nat.reducePow, Int.reducePow, Int.reduceToNat, Nat.reduceAdd]
                  refine (cfail_any 17 s.p D8.R).mono ?_
                  rintro va ha ⟨fa, Ra⟩
                  have Da := D8.step fa Ra
                  have k1 := Da.c1
                  have otk := Da.O.L.take (k := 0) (Nat.zero_le _)
                  clear D8 X8 fa Ra
                case' cb8 =>
                  have e3' : ¬ (s3.e : Int) = 0 := by omega
                  have Da := D8
                  rw [← failS_e (e := 17) (q := s.p) e3] at Da
                  have k1 := Da.c1
                  have otk := Da.O.L.take (k := 0) (Nat.zero_le _)
                  clear D8 X8
                  simp (disch := first | omega | assumption) only [C.ref3_ReadMap_gos, vs, Go.Vc.vk, T.ts, ↓reduceIte, Nat.reduceEqDiff, reduceCtorEq, Nat.reduceLeDiff, Nat.reducePow, Int.reducePow, Int.reduceToNat, Nat.reduceAdd, m64, m128, m247, eq_false n247, eq_false n251, q1, decide_false, hng, k2, eq_false e3']
                all_goals
                  have hcp : (0 : Int) ≤ (c4 : Int) := by omega
                  simp (disch := first | omega | assumption) only [C.ref3_ReadMap_gos, vs, Go.Vc.vk, T.ts, ↓reduceIte, Nat.reduceEqDiff, reduceCtorEq, Nat.reduceLeDiff, Nat.reducePow, Int.reducePow, Int.reduceToNat, Nat.reduceAdd, k1, rdo_max, max_int, hng, hcp, Int.toNat_zero]
                  refine eff_store1_z T.zr_23 rfl rfl rfl rfl rfl k1 (Da.nfz 1) ?_
                  have D9 := Da.setL (L' := loc.take 0) (Own_cast otk (by simp) (by simp [flatV])) (fun k _ hs => by simp [Value.ownBlock] at hs)
                  clear Da
                  generalize hh9 : setAt _ ⟨fq, 1, none⟩ _ = h9 at *
                  have X9 : Ext h h9 := Fr.trans hx0 D9.F (fun _ _ h => h) (fun k hk hs => by omega)
                  simp (disch := first | omega | assumption) only [C.ref3_ReadMap_gos, vs, Go.Vc.vk, T.ts, ↓reduceIte, Nat.reduceEqDiff, reduceCtorEq, Nat.reduceLeDiff, Nat.reducePow, Int.reducePow, Int.reduceToNat, Nat.reduceAdd]
                  obtain ⟨L9, hL9⟩ : ∃ L9, L9 = loc.take 0 := ⟨_, rfl⟩
                  obtain ⟨S9, hS9⟩ : ∃ S9 : List VT, S9 = [] := ⟨_, rfl⟩
                  obtain ⟨dl, hdl⟩ : ∃ dl : Nat, dl = dd := ⟨_, rfl⟩
                  have hB : L9.length ≤ max (loc.length + 3) 65535 ∧ S9.length ≤ 65535 ∧ dl ≤ 65535 := ⟨by rw [hL9]; simp, by rw [hS9]; simp, by omega⟩
                  have hX : G.2.2.e = 0 → L9 = G.1.L ∧ S9 = G.1.S ∧ dl = G.2.1 := fun he => by
                    rw [hG] at he ⊢
                    exact absurd he (failS_ne (by decide))
                  have hYs : G.2.2 = failS 17 s.p s3 := by rw [hG]
                  simp only [← hL9, ← hS9] at D9
                  try rw [← hdl]
              case' cb7 =>
                rw [if_neg hk0] at hG
                have hng : ¬ ((loc.length + t - 251 : Nat) : Int) < 0 := by omega
                have hnn : (loc.length : Int) - 251 + (t : Int) = ((loc.length + t - 251 : Nat) : Int) := by omega
                have hcp : ((loc.length + t - 251 : Nat) : Int) ≤ (c4 : Int) := by omega
                have hlk : (loc.take (loc.length + t - 251)).length = loc.length + t - 251 := by rw [List.length_take]; omega
                have otk := D8.O.L.take (k := loc.length + t - 251) (by omega)
                simp (disch := first | omega | assumption) only [C.ref3_ReadMap_gos, vs, Go.Vc.vk, T.ts, ↓reduceIte, Nat.reduceEqDiff, reduceCtorEq, Nat.reduceLeDiff, Nat.reducePow, Int.reducePow, Int.reduceToNat, Nat.reduceAdd, m64, m128, m247, eq_false n247, eq_false n251, q1, decide_false, hnn, hng, D8.c1, rdo_max, max_int, hcp, Int.toNat_natCast]
                refine eff_store1_z T.zr_23 rfl rfl rfl rfl rfl D8.c1 (D8.nfz 1) ?_
                have D9 := D8.setL (L' := loc.take (loc.length + t - 251)) (Own_cast otk hlk.symm (by rw [flatV_take])) (fun k _ hs => by simp [Value.ownBlock] at hs)
                clear D8 X8
                generalize hh9 : setAt _ ⟨fq, 1, none⟩ _ = h9 at *
                have X9 : Ext h h9 := Fr.trans hx0 D9.F (fun _ _ h => h) (fun k hk hs => by omega)
                simp (disch := first | omega | assumption) only [C.ref3_ReadMap_gos, vs, Go.Vc.vk, T.ts, ↓reduceIte, Nat.reduceEqDiff, reduceCtorEq, Nat.reduceLeDiff, Nat.reducePow, Int.reducePow, Int.reduceToNat, Nat.reduceAdd]
                obtain ⟨L9, hL9⟩ : ∃ L9, L9 = loc.take (loc.length + t - 251) := ⟨_, rfl⟩
                obtain ⟨S9, hS9⟩ : ∃ S9 : List VT, S9 = [] := ⟨_, rfl⟩
                obtain ⟨dl, hdl⟩ : ∃ dl : Nat, dl = dd := ⟨_, rfl⟩
                have hB : L9.length ≤ max (loc.length + 3) 65535 ∧ S9.length ≤ 65535 ∧ dl ≤ 65535 := ⟨by rw [hL9]; omega, by rw [hS9]; simp, by omega⟩
                have hX : G.2.2.e = 0 → L9 = G.1.L ∧ S9 = G.1.S ∧ dl = G.2.1 := fun he => by
                  rw [hG] at he ⊢
                  exact ⟨hL9, hS9, hdl⟩
                have hYs : G.2.2 = s3 := by rw [hG]
                simp only [← hL9, ← hS9] at D9
                try rw [← hdl]
            case' cb6 =>
              rw [if_neg l251] at hG
              have q1 : ¬ (t : Int) < 251 := by omega
              refine Or.elim (Classical.em (t < 255)) (fun t255 => ?ca9) (fun t255 => ?cb9)
              case' ca9 =>
                rw [if_pos t255] at hG
                have q2 : (t : Int) < 255 := by omega
                have hnn : (t : Int) - 251 = ((t - 251 : Nat) : Int) := by omega
                simp (disch := first | omega | assumption) only [C.ref3_ReadMap_gos, vs, Go.Vc.vk, T.ts, ↓reduceIte, Nat.reduceEqDiff, reduceCtorEq, Nat.reduceLeDiff, Nat.reducePow, Int.reducePow, Int.reduceToNat, Nat.reduceAdd, m64, m128, m247, eq_false n247, eq_false n251, q1, q2, decide_false, hnn, D8.c1]
                refine eff_call_of ?_
                simp (disch := first | omega | assumption) only [C.ref3_ReadMap_gos, vs, Go.Vc.vk, T.ts, ↓reduceIte, Nat.reduceEqDiff, reduceCtorEq, Nat.reduceLeDiff, Nat.reducePow, Int.reducePow, Int.reduceToNat, Nat.reduceAdd, D8.c1, hnn]
                refine (cvalues_any (t - 251) hl (by omega) X8 hgh hp hpf D8.R).mono ?_
                rintro va ha ⟨fa, Ra, xs, ow, hxl, hxe⟩
                have Da := D8.step fa Ra
                generalize valsD p l (t - 251) [] s3 = o at *
                obtain ⟨v1, s5⟩ := o
                simp only at Da hG hxe
                clear D8 X8 fa Ra
                simp (disch := first | omega | assumption) only [C.ref3_ReadMap_gos, vs, Go.Vc.vk, T.ts, ↓reduceIte, Nat.reduceEqDiff, reduceCtorEq, Nat.reduceLeDiff, Nat.reducePow, Int.reducePow, Int.reduceToNat, Nat.reduceAdd, Da.c1]
                refine eff_append_slN T.slT_23 rfl rfl Da.O.L ow.slN (flatV_one _) (by simp only; omega) (by simp only; omega) Da.F.size ?_
                intro vb hb ownb frb
                have ownb' : Own hb hc.size 25 3 vb (loc ++ xs).length (flatV (loc ++ xs)) := Own_cast ownb (by simp) (by simp [flatV])
                obtain ⟨cb, zb, D9⟩ := Da.app frb ownb'
                obtain ⟨_, a6, c6, rfl, _⟩ := ownb.slN
                clear Da ow
                simp (disch := first | omega | assumption) only [C.ref3_ReadMap_gos, vs, Go.Vc.vk, T.ts, ↓reduceIte, Nat.reduceEqDiff, reduceCtorEq, Nat.reduceLeDiff, Nat.reducePow, Int.reducePow, Int.reduceToNat, Nat.reduceAdd]
                refine eff_store1_z T.zr_23 rfl rfl rfl rfl rfl cb zb ?_
                generalize hh9 : setAt hb ⟨fq, 1, none⟩ _ = h9 at *
                have X9 : Ext h h9 := Fr.trans hx0 D9.F (fun _ _ h => h) (fun k hk hs => by omega)
                simp (disch := first | omega | assumption) only [C.ref3_ReadMap_gos, vs, Go.Vc.vk, T.ts, ↓reduceIte, Nat.reduceEqDiff, reduceCtorEq, Nat.reduceLeDiff, Nat.reducePow, Int.reducePow, Int.reduceToNat, Nat.reduceAdd]
                obtain ⟨L9, hL9⟩ : ∃ L9, L9 = loc ++ xs := ⟨_, rfl⟩
                obtain ⟨S9, hS9⟩ : ∃ S9 : List VT, S9 = [] := ⟨_, rfl⟩
                obtain ⟨dl, hdl⟩ : ∃ dl : Nat, dl = dd := ⟨_, rfl⟩
                have hB : L9.length ≤ max (loc.length + 3) 65535 ∧ S9.length ≤ 65535 ∧ dl ≤ 65535 := ⟨by rw [hL9, List.length_append]; omega, by rw [hS9]; simp, by omega⟩
                have hX : G.2.2.e = 0 → L9 = G.1.L ∧ S9 = G.1.S ∧ dl = G.2.1 := fun he => by
                  rw [hG] at he ⊢
                  exact ⟨by rw [hL9]; exact congrArg (loc ++ ·) (hxe he), hS9, hdl⟩
                have hYs : G.2.2 = s5 := by rw [hG]
                simp only [← hL9, ← hS9] at D9
                try rw [← hdl]
              case' cb9 =>
                rw [if_neg t255] at hG
                have q2 : ¬ (t : Int) < 255 := by omega
                simp (disch := first | omega | assumption) only [C.ref3_ReadMap_gos, vs, Go.Vc.vk, T.ts, ↓reduceIte, Nat.reduceEqDiff, reduceCtorEq, Nat.reduceLeDiff, Nat.reducePow, Int.reducePow, Int.reduceToNat, Nat.reduceAdd, m64, m128, m247, eq_false n247, eq_false n251, q1, q2, decide_false]
                refine eff_call_of ?_
                simp (disch := first | omega | assumption) only [C.ref3_ReadMap_gos, vs, Go.Vc.vk, T.ts, ↓reduceIte, Nat.reduceEqDiff, reduceCtorEq, Nat.reduceLeDiff, Nat.reducePow, Int.reducePow, Int.reduceToNat, Nat.reduceAdd]
                refine (cnum_any 2 hl (by omega) D8.R).mono ?_
                rintro va ha ⟨fa, Ra, rfl⟩
                have Da := D8.step fa Ra
                have hn1 := numS_lt (l := l) (n := 2) (s := s3)
                simp only [Nat.reducePow] at hn1
                generalize numS l 2 s3 = o at *
                obtain ⟨n1, s4⟩ := o
                simp only at Da hG hn1
                have Xa : Ext h ha := Fr.trans hx0 Da.F (fun _ _ h => h) (fun k hk hs => by omega)
                clear fa Ra D8 X8 k2
                simp (disch := first | omega | assumption) only [C.ref3_ReadMap_gos, vs, Go.Vc.vk, T.ts, ↓reduceIte, Nat.reduceEqDiff, reduceCtorEq, Nat.reduceLeDiff, Nat.reducePow, Int.reducePow, Int.reduceToNat, Nat.reduceAdd]
                refine eff_call_of ?_
                simp (disch := first | omega | assumption) only [C.ref3_ReadMap_gos, vs, Go.Vc.vk, T.ts, ↓reduceIte, Nat.reduceEqDiff, reduceCtorEq, Nat.reduceLeDiff, Nat.reducePow, Int.reducePow, Int.reduceToNat, Nat.reduceAdd]
                refine (cvalues_any n1 hl (by omega) Xa hgh hp hpf Da.R).mono ?_
                rintro vb hb ⟨fb, Rb, xs, ow, hxl, hxe⟩
                have Db := Da.step fb Rb
                generalize valsD p l n1 [] s4 = o at *
                obtain ⟨v1, s5⟩ := o
                simp only at Db hG hxe
                have ow8 := ow.mono Da.F.size
                obtain ⟨_, a6, c6, rfl, _⟩ := ow.slN
                clear fb Rb ow Da Xa
                simp (disch := first | omega | assumption) only [C.ref3_ReadMap_gos, vs, Go.Vc.vk, T.ts, ↓reduceIte, Nat.reduceEqDiff, reduceCtorEq, Nat.reduceLeDiff, Nat.reducePow, Int.reducePow, Int.reduceToNat, Nat.reduceAdd]
                refine eff_store1_z T.zr_23 rfl rfl rfl rfl rfl Db.c1 (Db.nfz 1) ?_
                have Dc := Db.setL ow8 (fun k _ hs => by simp [Value.ownBlock] at hs)
                generalize setAt hb ⟨fq, 1, none⟩ _ = h8c at *
                clear Db ow8
                simp (disch := first | omega | assumption) only [C.ref3_ReadMap_gos, vs, Go.Vc.vk, T.ts, ↓reduceIte, Nat.reduceEqDiff, reduceCtorEq, Nat.reduceLeDiff, Nat.reducePow, Int.reducePow, Int.reduceToNat, Nat.reduceAdd]
                refine eff_call_of ?_
                simp (disch := first | omega | assumption) only [C.ref3_ReadMap_gos, vs, Go.Vc.vk, T.ts, ↓reduceIte, Nat.reduceEqDiff, reduceCtorEq, Nat.reduceLeDiff, Nat.reducePow, Int.reducePow, Int.reduceToNat, Nat.reduceAdd]
                refine (cnum_any 2 hl (by omega) Dc.R).mono ?_
                rintro vd hd ⟨fd, Rd', rfl⟩
                have Dd := Dc.step fd Rd'
                have hn2 := numS_lt (l := l) (n := 2) (s := s5)
                simp only [Nat.reducePow] at hn2
                have he5 : (numS l 2 s5).2.e = 0 → s5.e = 0 := num_e
                generalize numS l 2 s5 = o at *
                obtain ⟨n2, s6⟩ := o
                simp only at Dd hG hn2 he5
                have Xd : Ext h hd := Fr.trans hx0 Dd.F (fun _ _ h => h) (fun k hk hs => by omega)
                clear fd Rd' Dc
                simp (disch := first | omega | assumption) only [C.ref3_ReadMap_gos, vs, Go.Vc.vk, T.ts, ↓reduceIte, Nat.reduceEqDiff, reduceCtorEq, Nat.reduceLeDiff, Nat.reducePow, Int.reducePow, Int.reduceToNat, Nat.reduceAdd]
                refine eff_call_of ?_
                simp (disch := first | omega | assumption) only [C.ref3_ReadMap_gos, vs, Go.Vc.vk, T.ts, ↓reduceIte, Nat.reduceEqDiff, reduceCtorEq, Nat.reduceLeDiff, Nat.reducePow, Int.reducePow, Int.reduceToNat, Nat.reduceAdd]
                refine (cvalues_any n2 hl (by omega) Xd hgh hp hpf Dd.R).mono ?_
                rintro ve he9 ⟨fe, Re, ys, ow, hyl, hye⟩
                have De := Dd.step fe Re
                have he6 : (valsD p l n2 [] s6).2.e = 0 → s6.e = 0 := vals_e p l n2 [] s6
                generalize valsD p l n2 [] s6 = o at *
                obtain ⟨v2, s7⟩ := o
                simp only at De hG hye he6
                have owc := ow.mono Dd.F.size
                have hdj : ∀ k, (Value.slice a6 xs.length c6).ownBlock = some k → ¬ ve.ownBlock = some k := fun k hk hs => by have h1 := Dd.O.L.lt k hk; have h2 := ow.lt k hs; omega
                obtain ⟨_, a7, c7, rfl, _⟩ := ow.slN
                clear Dd Xd ow fe Re
                simp (disch := first | omega | assumption) only [C.ref3_ReadMap_gos, vs, Go.Vc.vk, T.ts, ↓reduceIte, Nat.reduceEqDiff, reduceCtorEq, Nat.reduceLeDiff, Nat.reducePow, Int.reducePow, Int.reduceToNat, Nat.reduceAdd]
                refine eff_store1_z T.zr_23 rfl rfl rfl rfl rfl De.c2 (De.nfz 2) ?_
                have D9 := De.setS owc hdj
                generalize setAt he9 ⟨fq, 2, none⟩ _ = h9 at *
                clear De owc
                have X9 : Ext h h9 := Fr.trans hx0 D9.F (fun _ _ h => h) (fun k hk hs => by omega)
                simp (disch := first | omega | assumption) only [C.ref3_ReadMap_gos, vs, Go.Vc.vk, T.ts, ↓reduceIte, Nat.reduceEqDiff, reduceCtorEq, Nat.reduceLeDiff, Nat.reducePow, Int.reducePow, Int.reduceToNat, Nat.reduceAdd]
                obtain ⟨L9, hL9⟩ : ∃ L9, L9 = xs := ⟨_, rfl⟩
                obtain ⟨S9, hS9⟩ : ∃ S9 : List VT, S9 = ys := ⟨_, rfl⟩
                obtain ⟨dl, hdl⟩ : ∃ dl : Nat, dl = dd := ⟨_, rfl⟩
                have hB : L9.length ≤ max (loc.length + 3) 65535 ∧ S9.length ≤ 65535 ∧ dl ≤ 65535 := ⟨by rw [hL9]; omega, by rw [hS9]; omega, by omega⟩
                have hX : G.2.2.e = 0 → L9 = G.1.L ∧ S9 = G.1.S ∧ dl = G.2.1 := fun he => by
                  rw [hG] at he ⊢
                  exact ⟨by rw [hL9]; exact hxe (he5 (he6 he)), by rw [hS9]; exact hye he, hdl⟩
                have hYs : G.2.2 = s7 := by rw [hG]
                simp only [← hL9, ← hS9] at D9
                try rw [← hdl]
  all_goals
    have hk1 : k + 1 ≤ n := by omega
    have hpe : pl + (1 + (dl : Int)) = pl + ((dl + 1 : Nat) : Int) := by omega
    have hfq := D9.hfq
    have c0 := D9.c0
    obtain ⟨_, aL, cL, eL, _⟩ := D9.O.L.slN
    obtain ⟨_, aS, cS, eS, _⟩ := D9.O.S.slN
    change _ = Value.slice aL L9.length cL at eL
    change _ = Value.slice aS S9.length cS at eS
    rw [eL, eS] at D9
    clear eL eS
    simp (disch := first | omega | assumption) only [C.ref3_ReadMap_gos, vs, Go.Vc.vk, T.ts, ↓reduceIte, Nat.reduceEqDiff, reduceCtorEq, Nat.reduceLeDiff, Nat.reducePow, Int.reducePow, Int.reduceToNat, Nat.reduceAdd, hpe]
    refine eff_store1_z T.zr_3 rfl rfl rfl rfl rfl c0 (D9.nfz 0) ?_
    have W9 := W.rd D9.F R.1 (by decide) (by decide)
    have hqW : ∀ b, sv.ownBlock = some b → b ≠ fq := fun b hb => by have := W.2.1.lt b hb; omega
    have hqr : ∀ j b, j < fs.length → rowB (rows.getD j []) b → b ≠ fq := fun j b hj hb => by have := ((W.2.2.1 j hj).lt hb).2; omega
    obtain ⟨f8, b8, R8, O8⟩ := D9.fin (pl + ((dl + 1 : Nat) : Int))
    have X8 := Fr.trans X9 f8 (T := fun _ => False) (fun _ _ h => h) (fun k hk hs => by omega)
    have W8 : FrsW _ h.size sv rows fs := ⟨W9.1, W9.2.1.fr f8 (fun b hb hs => hqW b hb hs), fun j hj => (W9.2.2.1 j hj).fr f8 (fun b hb hs => hqr j b hj hb hs), W9.2.2.2⟩
    have hYs' := hYs
    rw [← hYs] at R8
    clear W9 D9 X9 c0 hYs
    generalize setAt _ ⟨fq, 0, none⟩ (.int .i64 (pl + ((dl + 1 : Nat) : Int))) = hz at *
    clear f8 hqW hqr
    have c1 : cellAt hz ⟨fq, 1, none⟩ = some (.slice aL L9.length cL) := by rw [cellAt_of b8]; rfl
    have hld := ld_agg T.ag_35 (Rd_block (vs := [.int .i64 (pl + ((dl + 1 : Nat) : Int)), .slice aL L9.length cL, .slice aS S9.length cS]) b8) rfl
    simp (disch := first | omega | assumption) only [C.ref3_ReadMap_gos, vs, Go.Vc.vk, T.ts, ↓reduceIte, Nat.reduceEqDiff, reduceCtorEq, Nat.reduceLeDiff, Nat.reducePow, Int.reducePow, Int.reduceToNat, Nat.reduceAdd, c1, hld]
    refine eff_lits T.slT_26 rfl rfl (by decide) ?_
    simp (disch := first | omega | assumption) only [C.ref3_ReadMap_gos, vs, Go.Vc.vk, T.ts, ↓reduceIte, Nat.reduceEqDiff, reduceCtorEq, Nat.reduceLeDiff, Nat.reducePow, Int.reducePow, Int.reduceToNat, Nat.reduceAdd]
    have Wp := W8.ext (Ext.push hz (.cells #[.int .i64 (pl + ((dl + 1 : Nat) : Int)), .slice aL L9.length cL, .slice aS S9.length cS] 35))
    have Op := O8.fr (Ext.push hz (.cells #[.int .i64 (pl + ((dl + 1 : Nat) : Int)), .slice aL L9.length cL, .slice aS S9.length cS] 35)) (fun _ _ => id)
    have Rp := R8.fr (Ext.push hz (.cells #[.int .i64 (pl + ((dl + 1 : Nat) : Int)), .slice aL L9.length cL, .slice aS S9.length cS] 35)) id
    have Xp := Ext.trans X8 (Ext.push hz (.cells #[.int .i64 (pl + ((dl + 1 : Nat) : Int)), .slice aL L9.length cL, .slice aS S9.length cS] 35))
    refine eff_append_own (m := 1) T.slT_26 rfl rfl Wp.2.1 rfl (Rd_new (vs := [.int .i64 (pl + ((dl + 1 : Nat) : Int)), .slice aL L9.length cL, .slice aS S9.length cS])) (by simp [oneCell]) (by omega) (by omega) Xp.size ?_
    intro v10 h10 own10 fr10 _
    have OL : FrmO h10 hc.size ⟨0, L9, S9⟩ (.slice aL L9.length cL) (.slice aS S9.length cS) := Op.fr fr10 (fun b hb hs => by
      obtain ⟨cs, fz, hc⟩ := Own.cells Wp.2.1 hs
      rcases hb with hb | hb
      · exact absurd hb (Own_ne Op.L hc (by decide))
      · exact absurd hb (Own_ne Op.S hc (by decide)))
    have W10 := FrsW.snoc (f := ⟨pl + ((dl + 1 : Nat) : Int), L9, S9⟩) (vL := .slice aL L9.length cL) (vS := .slice aS S9.length cS) W Wp ⟨Op.L.mono hsz0, Op.S.mono hsz0, Op.dj⟩ (fun b hb => by
      rcases hb with hb | hb
      · exact (Op.L.lt b hb).1
      · exact (Op.S.lt b hb).1) own10 fr10
    have X10 : Ext h h10 := Ext.app Xp fr10 (fun k hk => (Wp.2.1.lt k hk).1)
    have R10 := Rp.fr fr10 (Own_ne Wp.2.1 Rp.1 (by decide))
    have hdec : ((n - k : Nat) : Int) - 1 = ((n - (k + 1) : Nat) : Int) := by omega
    simp (disch := first | omega | assumption) only [C.ref3_ReadMap_gos, vs, Go.Vc.vk, T.ts, ↓reduceIte, Nat.reduceEqDiff, reduceCtorEq, Nat.reduceLeDiff, Nat.reducePow, Int.reducePow, Int.reduceToNat, Nat.reduceAdd, hdec]
    refine ⟨_, by omega, k + 1, pl + ((dl + 1 : Nat) : Int), L9, fs ++ [⟨pl + ((dl + 1 : Nat) : Int), L9, S9⟩], G.2.2, _, v10, rows ++ [[.int .i64 (pl + ((dl + 1 : Nat) : Int)), .slice aL L9.length cL, .slice aS S9.length cS]], hc.size, rfl, hk1, by simp, X10, R10, OL.L, W10, by simp; omega, by omega, by omega, by omega,
      pl + ((G.2.1 + 1 : Nat) : Int), G.1.L, fs ++ [⟨pl + ((G.2.1 + 1 : Nat) : Int), G.1.L, G.1.S⟩], by rw [show n - (k + 1) = j by omega]; exact hY, fun h6e => ?_⟩
    obtain ⟨q1, q2, q3⟩ := hX h6e
    rw [q1, q2, q3]
    exact ⟨rfl, rfl, rfl⟩
end
end Go.Proofs.Ytohkbpnblkkdgaa
