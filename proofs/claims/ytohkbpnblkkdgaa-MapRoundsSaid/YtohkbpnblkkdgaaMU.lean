/- The law of maps that are read, written and read again, on heaps. -/
import Derived.Test.YtohkbpnblkkdgaaMH
import Derived.Test.YtohkbpnblkkdgaaMQ3
import Derived.Test.YtohkbpnblkkdgaaMT
import Derived.Test.YtohkbpnblkkdgaaML
import Derived.Test.YtohkbpnblkkdgaaCbc
namespace Go.Proofs.Ytohkbpnblkkdgaa
open Go.Vc
set_option maxRecDepth 100000
set_option linter.unusedSimpArgs false
set_option linter.unusedVariables false

theorem mapE_two (l : List UInt8) (r : List Frm × RS) : (∃ e q, e ≠ 0 ∧ mapE l r = ([], e, q)) ∨ mapE l r = (r.1, 0, 0) := by
  unfold mapE
  simp only
  generalize (if r.2.p < l.length then failS 2 r.2.p r.2 else r.2) = s
  by_cases hz : s.e = 0
  · rw [if_neg (by simp [hz])]; exact .inr rfl
  · rw [if_pos hz]; exact .inl ⟨_, _, hz, rfl⟩
theorem frmD_fit (p : List Cst) (l : List UInt8) (loc : List VT) (s : RS) (h : ∀ v ∈ loc, v.Fit) : (∀ v ∈ (frmD p l loc s).1.L, v.Fit) ∧ ∀ v ∈ (frmD p l loc s).1.S, v.Fit := by
  have hv : ∀ n t, ∀ v ∈ (valsD p l n [] t).1, v.Fit := fun n t => valsD_fit p l n [] t (by simp)
  unfold frmD
  simp only
  split
  · exact ⟨h, by simp⟩
  · split
    · exact ⟨h, hv _ _⟩
    · split
      · exact ⟨h, by simp⟩
      · split
        · exact ⟨h, hv _ _⟩
        · split
          · split
            · exact ⟨by simp, by simp⟩
            · exact ⟨fun v hm => h v (List.mem_of_mem_take hm), by simp⟩
          · split
            · refine ⟨fun v hm => ?_, by simp⟩
              rcases List.mem_append.1 hm with hm | hm
              · exact h v hm
              · exact hv _ _ v hm
            · exact ⟨hv _ _, hv _ _⟩
theorem mapD_fit (p : List Cst) (l : List UInt8) : ∀ (n k : Nat) (pl : Int) (loc : List VT) (fs : List Frm) (s : RS), n + k ≤ 65536 → -1 ≤ pl → pl ≤ 65536 * (k : Int) → (∀ v ∈ loc, v.Fit) → (∀ f ∈ fs, f.Fit) → ∀ f ∈ (mapD p l n pl loc fs s).1, f.Fit := by
  intro n
  induction n with
  | zero => intro k pl loc fs s _ _ _ _ h; exact h
  | succ n ih =>
    intro k pl loc fs s hk h1 h2 hl h
    rw [mapD]
    split
    · exact h
    · obtain ⟨q1, q2⟩ := frmD_fit p l loc s hl
      have hd := (frmD_len p l loc s).2.2
      refine ih (k + 1) _ _ _ _ (by omega) (by omega) (by omega) q1 (fun f hf => ?_)
      rcases List.mem_append.1 hf with hf | hf
      · exact h f hf
      · rw [List.mem_singleton.1 hf]
        exact ⟨by simp only; omega, by simp only; omega, q1, q2⟩
theorem mapA_fit (p : List Cst) (l : List UInt8) (first : List VT) (h : ∀ v ∈ first, v.Fit) : ∀ f ∈ (mapA p l first).1, f.Fit := by
  have hn := numS_lt (l := l) (n := 2) (s := ⟨0, 0, 0⟩)
  simp only [Nat.reducePow] at hn
  have h1 := mapD_fit p l (numS l 2 ⟨0, 0, 0⟩).1 0 (-1) first [] (numS l 2 ⟨0, 0, 0⟩).2 (by omega) (by omega) (by omega) h (by simp)
  unfold mapA
  rcases mapE_two l (mapD p l (numS l 2 ⟨0, 0, 0⟩).1 (-1) first [] (numS l 2 ⟨0, 0, 0⟩).2) with ⟨e, q, _, h2⟩ | h2
  · rw [h2]; simp
  · rw [h2]; exact h1
theorem mapA_bad (p : List Cst) (l : List UInt8) (first : List VT) (h : (mapA p l first).2.1 ≠ 0) : (mapA p l first).1 = [] := by
  unfold mapA at h ⊢
  rcases mapE_two l (mapD p l (numS l 2 ⟨0, 0, 0⟩).1 (-1) first [] (numS l 2 ⟨0, 0, 0⟩).2) with ⟨e, q, _, h2⟩ | h2
  · rw [h2]
  · rw [h2] at h; exact absurd rfl h
theorem mapA_good (p : List Cst) (l : List UInt8) (first : List VT) (h : (mapA p l first).2.1 = 0) : mapA p l first = ((mapA p l first).1, 0, 0) := by
  unfold mapA at h ⊢
  rcases mapE_two l (mapD p l (numS l 2 ⟨0, 0, 0⟩).1 (-1) first [] (numS l 2 ⟨0, 0, 0⟩).2) with ⟨e, q, h1, h2⟩ | h2
  · rw [h2] at h; exact absurd h h1
  · rw [h2]
set_option maxHeartbeats 8000000 in
theorem mapRounds_any (l : List UInt8) (p : List Cst) (first : List VT) (vp vf : Value) (h : Heap) (hl : l.length ≤ 140737488355328) (hp : SlN h 5 vp p.length (flatS p)) (hpc : capOk vp) (hpf : ∀ c ∈ p, c.Fit) (hpl : p.length ≤ 140737488355328)
    (hf : SlN h 3 vf first.length (flatV first)) (hfc : capOk vf) (hff : ∀ v ∈ first, v.Fit) (hfl : first.length ≤ 140737488355328) :
    HCalls Try.prog 4 #[str l, vp, vf] h fun r h' => Ext h h' ∧ r = .bool true := by
  refine C.law3_MapRounds_calls (args := [str l, vp, vf]) rfl ?_
  have hp' := hp
  obtain ⟨_, ap, cp, rfl, _⟩ := hp'
  have hf' := hf
  obtain ⟨_, af, cf, rfl, _⟩ := hf'
  by_cases hbig : 4096 < l.length + p.length + first.length
  · have hbig' : (4096 : Int) < (l.length : Int) + (p.length : Int) + (first.length : Int) := by omega
    simp (disch := first | omega | assumption) only [C.law3_MapRounds_gos, vs, Go.Vc.vk, T.ts, ↓reduceIte, Nat.reduceEqDiff, reduceCtorEq, Nat.reduceLeDiff, Nat.reducePow, Int.reducePow, Int.reduceToNat, Nat.reduceAdd, hbig']
    exact Ext.refl _
  have hbig' : ¬ (4096 : Int) < (l.length : Int) + (p.length : Int) + (first.length : Int) := by omega
  simp (disch := first | omega | assumption) only [C.law3_MapRounds_gos, vs, Go.Vc.vk, T.ts, ↓reduceIte, Nat.reduceEqDiff, reduceCtorEq, Nat.reduceLeDiff, Nat.reducePow, Int.reducePow, Int.reduceToNat, Nat.reduceAdd, hbig']
  refine eff_call_of ?_
  simp (disch := first | omega | assumption) only [C.law3_MapRounds_gos, vs, Go.Vc.vk, T.ts, ↓reduceIte, Nat.reduceEqDiff, reduceCtorEq, Nat.reduceLeDiff, Nat.reducePow, Int.reducePow, Int.reduceToNat, Nat.reduceAdd]
  refine (mapRead_any [0, 1, 5] [] [] (.slice none 0 0) (.slice none 0 0) h (by decide) ⟨rfl, none, 0, rfl, .inl rfl⟩ (by simp) ⟨rfl, none, 0, rfl, .inl rfl⟩ (by decide)).mono ?_
  intro v1 h1 hp1
  have x1 := hp1.1
  obtain ⟨sv1, rows1, hv1, W1⟩ := hp1.2
  clear hp1
  have hA1 : mapA [] [0, 1, 5] [] = ([⟨5, [], []⟩], 0, 0) := by rfl
  rw [hA1] at hv1 W1
  simp only at hv1 W1
  have z0 : ((0 : Nat) : Int) = 0 := rfl
  have z1 : ((1 : Nat) : Int) = 1 := rfl
  obtain ⟨b1, o1, c1, vL1, vS1, heq1, hrd1, _, _⟩ := W1.frsC.at (i := 0) (by decide)
  subst heq1
  have k0 : cellAt h1 ⟨b1, o1 + 0 * 3, none⟩ = some (.int .i64 5) := hrd1 0 _ rfl
  simp (disch := first | omega | assumption) only [C.law3_MapRounds_gos, vs, Go.Vc.vk, T.ts, ↓reduceIte, Nat.reduceEqDiff, reduceCtorEq, Nat.reduceLeDiff, Nat.reducePow, Int.reducePow, Int.reduceToNat, Nat.reduceAdd, hv1, z0, z1, k0, Int.reduceEq]
  refine eff_call_of ?_
  simp (disch := first | omega | assumption) only [C.law3_MapRounds_gos, vs, Go.Vc.vk, T.ts, ↓reduceIte, Nat.reduceEqDiff, reduceCtorEq, Nat.reduceLeDiff, Nat.reducePow, Int.reducePow, Int.reduceToNat, Nat.reduceAdd]
  refine (mapRead_any l p first _ _ h1 (by omega) (hp.ext (by decide) x1) hpf (hf.ext (by decide) x1) (by omega)).mono ?_
  intro v2 h2 hp2
  have x2 := hp2.1
  obtain ⟨sv2, rows2, hv2, W2⟩ := hp2.2
  clear hp2
  have X2 := x1.trans x2
  obtain ⟨hal, hLl⟩ := mapA_len p l first (by omega)
  have hfit := mapA_fit p l first hff
  have hbad := mapA_bad p l first
  have hpl2 : (mapA p l first).2.1 = 0 → _ := fun he => rounds_plain (p := p) (l := l) (first := first) (by omega) (by omega) he
  have hAe := mapA_good p l first
  generalize mapA p l first = A at *
  obtain ⟨fs, e, at'⟩ := A
  simp only at hv2 W2 hal hLl hfit hbad hpl2 hAe
  obtain ⟨_, a2, c2, rfl, _⟩ := W2.2.1.slN
  by_cases he : e = 0
  case neg =>
    have he' : ¬ (e : Int) = 0 := by omega
    have hb0 := hbad he
    subst hb0
    simp (disch := first | omega | assumption) only [C.law3_MapRounds_gos, vs, Go.Vc.vk, T.ts, ↓reduceIte, Nat.reduceEqDiff, reduceCtorEq, Nat.reduceLeDiff, Nat.reducePow, Int.reducePow, Int.reduceToNat, Nat.reduceAdd, hv2, eq_false he']
    exact ⟨X2, rfl⟩
  subst he
  have hback := hpl2 rfl
  simp (disch := first | omega | assumption) only [C.law3_MapRounds_gos, vs, Go.Vc.vk, T.ts, ↓reduceIte, Nat.reduceEqDiff, reduceCtorEq, Nat.reduceLeDiff, Nat.reducePow, Int.reducePow, Int.reduceToNat, Nat.reduceAdd, hv2, z0]
  refine loop_intro [0, 1, 2, 10, 59, 60, 61] (fun m ρ hc => ∃ i : Nat, m = fs.length - i ∧ i ≤ fs.length ∧ ρ = [(0, str l), (1, .slice ap p.length cp), (2, .slice af first.length cf), (10, .slice a2 fs.length c2), (59, .slice a2 fs.length c2), (60, .int .i64 fs.length), (61, .int .i64 i)] ∧ Ext h2 hc ∧ ∀ j, j < i → (fs.getD j fr0).at' ≤ 65535) ?_ ?_
  · simp (disch := first | omega | assumption) only [C.law3_MapRounds_gos, vs, Go.Vc.vk, T.ts, ↓reduceIte, Nat.reduceEqDiff, reduceCtorEq, Nat.reduceLeDiff, Nat.reducePow, Int.reducePow, Int.reduceToNat, Nat.reduceAdd]
    exact ⟨_, 0, rfl, Nat.zero_le _, rfl, Ext.refl _, fun j hj => by omega⟩
  rintro m ρ hc ⟨i, rfl, hi, rfl, x3, hat⟩
  have W3 := W2.ext x3
  have X3 := X2.trans x3
  rcases Nat.lt_or_ge i fs.length with hlt | hge
  case inl =>
    have hlt' : (i : Int) < fs.length := by omega
    obtain ⟨b3, o3, c3, vL3, vS3, heq3, hrd3, hL3, _, hS3, _⟩ := W3.frsC.at hlt
    cases heq3
    obtain ⟨_, aL, cL, rfl, _⟩ := hL3
    obtain ⟨_, aS, cS, rfl, _⟩ := hS3
    have hld := ld_agg T.ag_35 hrd3 rfl
    have hat1 : fs.getD i ⟨0, [], []⟩ = fs.getD i fr0 := rfl
    rw [hat1] at hld
    generalize hx : fs.getD i fr0 = x at *
    simp (disch := first | omega | assumption) only [C.law3_MapRounds_gos, vs, Go.Vc.vk, T.ts, ↓reduceIte, Nat.reduceEqDiff, reduceCtorEq, Nat.reduceLeDiff, Nat.reducePow, Int.reducePow, Int.reduceToNat, Nat.reduceAdd, hlt', hld]
    refine eff_alloc_z T.zr_35 ?_
    simp (disch := first | omega | assumption) only [C.law3_MapRounds_gos, vs, Go.Vc.vk, T.ts, ↓reduceIte, Nat.reduceEqDiff, reduceCtorEq, Nat.reduceLeDiff, Nat.reducePow, Int.reducePow, Int.reduceToNat, Nat.reduceAdd]
    refine eff_store_new_z T.zr_35 rfl rfl rfl (by simp [Value.cells, oneCell]) rfl ?_
    intro h4 x4 hlt4 hrd4 b4
    have g0 : cellAt h4 ⟨hc.size, 0, none⟩ = some (.int .i64 x.at') := hrd4 0 _ rfl
    by_cases hgt : (65535 : Int) < x.at'
    · simp (disch := first | omega | assumption) only [C.law3_MapRounds_gos, vs, Go.Vc.vk, T.ts, ↓reduceIte, Nat.reduceEqDiff, reduceCtorEq, Nat.reduceLeDiff, Nat.reducePow, Int.reducePow, Int.reduceToNat, Nat.reduceAdd, g0, hgt]
      exact X3.trans x4
    · simp (disch := first | omega | assumption) only [C.law3_MapRounds_gos, vs, Go.Vc.vk, T.ts, ↓reduceIte, Nat.reduceEqDiff, reduceCtorEq, Nat.reduceLeDiff, Nat.reducePow, Int.reducePow, Int.reduceToNat, Nat.reduceAdd, g0, hgt]
      refine ⟨_, by omega, i + 1, rfl, by omega, by simp, x3.trans x4, fun j hj => ?_⟩
      rcases Nat.lt_or_ge j i with hji | hji
      · exact hat j hji
      · have : j = i := by omega
        subst this
        rw [hx]; omega
  have hlt' : ¬ (i : Int) < fs.length := by omega
  have hall : ∀ f ∈ fs, f.at' ≤ 65535 := by
    intro f hf
    obtain ⟨j, hj, rfl⟩ := List.mem_iff_getElem.1 hf
    have := hat j (by omega)
    simpa [hj] using this
  have hback2 := hback hall
  simp (disch := first | omega | assumption) only [C.law3_MapRounds_gos, vs, Go.Vc.vk, T.ts, ↓reduceIte, Nat.reduceEqDiff, reduceCtorEq, Nat.reduceLeDiff, Nat.reducePow, Int.reducePow, Int.reduceToNat, Nat.reduceAdd, hlt']
  refine eff_call_of ?_
  simp (disch := first | omega | assumption) only [C.law3_MapRounds_gos, vs, Go.Vc.vk, T.ts, ↓reduceIte, Nat.reduceEqDiff, reduceCtorEq, Nat.reduceLeDiff, Nat.reducePow, Int.reducePow, Int.reduceToNat, Nat.reduceAdd]
  refine (mapWrite_any fs p first _ _ _ hc W3.frsC hfit (by omega) (by omega) (fun f hf => by have := hLl f hf; omega) (hp.ext (by decide) X3) hpc hpf (by omega) (hf.ext (by decide) X3) hfc).mono ?_
  rintro v4 h4 ⟨x4, rfl⟩
  have X4 := X3.trans x4
  unfold mapV
  generalize mapS p first fs = B at *
  obtain ⟨t, e2, k2⟩ := B
  simp only at hback2 ⊢
  rcases hback2 with h7 | ⟨h0, hlen, hA⟩
  · subst h7
    have z7 : ((7 : Nat) : Int) = 7 := rfl
    simp (disch := first | omega | assumption) only [C.law3_MapRounds_gos, vs, Go.Vc.vk, T.ts, ↓reduceIte, Nat.reduceEqDiff, reduceCtorEq, Nat.reduceLeDiff, Nat.reducePow, Int.reducePow, Int.reduceToNat, Nat.reduceAdd, z7, Int.reduceEq]
    exact X4
  subst h0
  simp (disch := first | omega | assumption) only [C.law3_MapRounds_gos, vs, Go.Vc.vk, T.ts, ↓reduceIte, Nat.reduceEqDiff, reduceCtorEq, Nat.reduceLeDiff, Nat.reducePow, Int.reducePow, Int.reduceToNat, Nat.reduceAdd, z0]
  refine eff_call_of ?_
  simp (disch := first | omega | assumption) only [C.law3_MapRounds_gos, vs, Go.Vc.vk, T.ts, ↓reduceIte, Nat.reduceEqDiff, reduceCtorEq, Nat.reduceLeDiff, Nat.reducePow, Int.reducePow, Int.reduceToNat, Nat.reduceAdd]
  refine (mapRead_any t p first _ _ h4 (by omega) (hp.ext (by decide) X4) hpf (hf.ext (by decide) X4) (by omega)).mono ?_
  intro v5 h5 hp5
  have x5 := hp5.1
  obtain ⟨sv5, rows5, hv5, W5⟩ := hp5.2
  clear hp5
  rw [hA] at hv5 W5
  simp only at hv5 W5
  have X5 := X4.trans x5
  have hlen' : (t.length : Int) ≤ (l.length : Int) := by omega
  simp (disch := first | omega | assumption) only [C.law3_MapRounds_gos, vs, Go.Vc.vk, T.ts, ↓reduceIte, Nat.reduceEqDiff, reduceCtorEq, Nat.reduceLeDiff, Nat.reducePow, Int.reducePow, Int.reduceToNat, Nat.reduceAdd, hv5, hlen', z0]
  refine eff_call_of ?_
  simp (disch := first | omega | assumption) only [C.law3_MapRounds_gos, vs, Go.Vc.vk, T.ts, ↓reduceIte, Nat.reduceEqDiff, reduceCtorEq, Nat.reduceLeDiff, Nat.reducePow, Int.reducePow, Int.reduceToNat, Nat.reduceAdd]
  refine (sameFrames_any fs _ _ h5 (W3.ext (x4.trans x5)).frsC W5.frsC (by omega) (fun f hf => by have := hLl f hf; omega)).mono ?_
  rintro v6 h6 ⟨rfl, rfl⟩
  simp (disch := first | omega | assumption) only [C.law3_MapRounds_gos, vs, Go.Vc.vk, T.ts, ↓reduceIte, Nat.reduceEqDiff, reduceCtorEq, Nat.reduceLeDiff, Nat.reducePow, Int.reducePow, Int.reduceToNat, Nat.reduceAdd]
  exact X5
end Go.Proofs.Ytohkbpnblkkdgaa
