/- maps.Write. -/
import Derived.Test.YtohkbpnblkkdgaaM5
namespace Go.Proofs.Ytohkbpnblkkdgaa
open Go.Vc
set_option maxRecDepth 100000
set_option linter.unusedSimpArgs false
set_option linter.unusedVariables false


def mapR (p : List Cst) : List Frm → Int → List VT → Nat → List UInt8 → List UInt8 × Nat × Nat
  | [], _, _, _, out => (out, 0, 0)
  | f :: r, place, loc, k, out =>
    if f.at' ≤ place ∨ 65535 < f.at' ∨ 65535 < f.L.length ∨ 65535 < f.S.length then ([], 17, k)
    else if (frS p f (f.at' - place - 1).toNat loc).2 ≠ 0 then ([], (frS p f (f.at' - place - 1).toNat loc).2, k)
    else mapR p r f.at' f.L (k + 1) (out ++ (frS p f (f.at' - place - 1).toNat loc).1)
def mapS (p : List Cst) (first : List VT) (l : List Frm) : List UInt8 × Nat × Nat :=
  if 65535 < l.length then ([], 12, 0) else mapR p l (-1) first 0 (bigS l.length 2)
def mapV (r : List UInt8 × Nat × Nat) : Value := .tuple #[str r.1, .int .i64 (r.2.1 : Int), .int .i64 (r.2.2 : Int)]
theorem frS_len (p : List Cst) (f : Frm) (d : Nat) (loc : List VT) (h1 : f.L.length ≤ 65535) (h2 : f.S.length ≤ 65535) : (frS p f d loc).1.length ≤ 400000 := by
  have e1 := valsS_len p f.L
  have e2 := valsS_len p f.S
  have e3 := valsS_len p (f.L.drop loc.length)
  have e4 : (f.L.drop loc.length).length ≤ f.L.length := by simp
  have hd : (defS p f d).1.length ≤ 400000 := by
    simp only [defS, List.length_cons, List.length_append, bigS_len]
    omega
  unfold frS
  repeat' split
  all_goals first | exact hd | (simp only [List.length_cons, List.length_append, bigS_len, List.length_nil]; omega)
theorem mapR_step {p : List Cst} {l : List Frm} {i : Nat} (hi : i < l.length) {place : Int} {loc : List VT} {out : List UInt8} :
    mapR p (l.drop i) place loc i out = (
      let f := l.getD i ⟨0, [], []⟩
      if f.at' ≤ place ∨ 65535 < f.at' ∨ 65535 < f.L.length ∨ 65535 < f.S.length then ([], 17, i)
      else if (frS p f (f.at' - place - 1).toNat loc).2 ≠ 0 then ([], (frS p f (f.at' - place - 1).toNat loc).2, i)
      else mapR p (l.drop (i + 1)) f.at' f.L (i + 1) (out ++ (frS p f (f.at' - place - 1).toNat loc).1)) := by
  have : l.drop i = l.getD i ⟨0, [], []⟩ :: l.drop (i + 1) := by rw [List.drop_eq_getElem_cons hi]; simp [hi]
  rw [this, mapR]

set_option maxHeartbeats 4000000 in
theorem mapWrite_any (l : List Frm) (p : List Cst) (first : List VT) (v vp vf : Value) (h : Heap) (hl : FrsC h v l) (hlf : ∀ f ∈ l, f.Fit) (hll : l.length ≤ 1073741824) (hfl : first.length ≤ 1073741824)
    (hLl : ∀ f ∈ l, f.L.length ≤ 1073741824 ∧ f.S.length ≤ 1073741824)
    (hp : SlN h 5 vp p.length (flatS p)) (hpc : capOk vp) (hpf : ∀ c ∈ p, c.Fit) (hpl : p.length ≤ 1099511627776) (hf : SlN h 3 vf first.length (flatV first)) (hfc : capOk vf) :
    HCalls Try.prog 13 #[v, vp, vf] h fun r h' => Ext h h' ∧ r = mapV (mapS p first l) := by
  refine C.maps_Write_calls (args := [v, vp, vf]) rfl ?_
  obtain ⟨rows, hr1, hr2, hr3⟩ := id hl
  have hr2' := hr2
  have hp' := hp
  have hf' := hf
  obtain ⟨_, a, c, rfl, _⟩ := hr2'
  obtain ⟨_, ap, cp, rfl, _⟩ := hp'
  obtain ⟨_, af, cf, rfl, _⟩ := hf'
  simp (disch := first | omega | assumption) only [C.maps_Write_gos, vs, Go.Vc.vk, T.ts, ↓reduceIte, Nat.reduceEqDiff, reduceCtorEq, Nat.reduceLeDiff, Nat.reducePow, Int.reducePow, Int.reduceToNat, Nat.reduceAdd]
  refine eff_box ?_
  by_cases hbig : 65535 < l.length
  · have hbig' : (65535 : Int) < l.length := by omega
    have hS : mapS p first l = ([], 12, 0) := if_pos hbig
    rw [hS]
    simp (disch := first | omega | assumption) only [C.maps_Write_gos, vs, Go.Vc.vk, T.ts, ↓reduceIte, Nat.reduceEqDiff, reduceCtorEq, Nat.reduceLeDiff, Nat.reducePow, Int.reducePow, Int.reduceToNat, Nat.reduceAdd, hbig']
    exact ⟨Ext.push _ _, rfl⟩
  have hbig' : ¬ (65535 : Int) < l.length := by omega
  have hS : mapS p first l = mapR p l (-1) first 0 (bigS l.length 2) := if_neg hbig
  rw [hS]
  generalize hX : mapR p l (-1) first 0 (bigS l.length 2) = X
  have W0 : Wr h (h.push (.cells #[.slice none 0 0, .slice ap p.length cp, .int .i64 0] 71)) h.size (.slice ap p.length cp) [] 0 :=
    ⟨Nat.le_refl _, Ext.push _ _, .slice none 0 0, by simp, Own.nil⟩
  simp (disch := first | omega | assumption) only [C.maps_Write_gos, vs, Go.Vc.vk, T.ts, ↓reduceIte, Nat.reduceEqDiff, reduceCtorEq, Nat.reduceLeDiff, Nat.reducePow, Int.reducePow, Int.reduceToNat, Nat.reduceAdd, hbig']
  generalize h.push (.cells #[.slice none 0 0, .slice ap p.length cp, .int .i64 0] 71) = h1 at *
  obtain ⟨g, hg⟩ : ∃ x, x = h.size := ⟨_, rfl⟩
  rw [← hg] at W0 ⊢
  refine eff_call_of ?_
  simp (disch := first | omega | assumption) only [C.maps_Write_gos, vs, Go.Vc.vk, T.ts, ↓reduceIte, Nat.reduceEqDiff, reduceCtorEq, Nat.reduceLeDiff, Nat.reducePow, Int.reducePow, Int.reduceToNat, Nat.reduceAdd]
  refine (wnum_any (l.length : Int) 2 (by omega) (by simp) W0).mono ?_
  rintro v2 h2 ⟨HW2, _⟩
  rw [atU_nat (by omega), List.nil_append] at HW2
  simp (disch := first | omega | assumption) only [C.maps_Write_gos, vs, Go.Vc.vk, T.ts, ↓reduceIte, Nat.reduceEqDiff, reduceCtorEq, Nat.reduceLeDiff, Nat.reducePow, Int.reducePow, Int.reduceToNat, Nat.reduceAdd]
  refine loop_intro [0, 1, 9, 10, 11, 25, 26, 27] (fun m ρ hc => ∃ (i : Nat) (place : Int) (loc : List VT) (vl : Value) (out : List UInt8), m = l.length - i ∧ i ≤ l.length ∧
      ρ = [(0, .slice a l.length c), (1, .slice ap p.length cp), (9, .pointer (some ⟨g, 0, none⟩)), (10, vl), (11, .int .i64 place), (25, .slice a l.length c), (26, .int .i64 l.length), (27, .int .i64 i)] ∧
      Wr h hc g (.slice ap p.length cp) out 0 ∧ SlN h 3 vl loc.length (flatV loc) ∧ capOk vl ∧ loc.length ≤ 1073741824 ∧ -1 ≤ place ∧ place ≤ 65535 ∧ out.length ≤ 2 + i * 400000 ∧ mapR p (l.drop i) place loc i out = X) ?_ ?_
  · simp (disch := first | omega | assumption) only [C.maps_Write_gos, vs, Go.Vc.vk, T.ts, ↓reduceIte, Nat.reduceEqDiff, reduceCtorEq, Nat.reduceLeDiff, Nat.reducePow, Int.reducePow, Int.reduceToNat, Nat.reduceAdd]
    exact ⟨_, 0, -1, first, _, _, rfl, Nat.zero_le _, rfl, HW2, hf, hfc, hfl, by omega, by omega, by rw [bigS_len]; omega, hX⟩
  rintro m ρ hc ⟨i, place, loc, vl, out, rfl, hi, rfl, HW, hloc, hlocc, hlocl, hpl1, hpl2, hout, hR⟩
  have hlocv := hloc
  obtain ⟨_, al, cl, rfl, _⟩ := hlocv
  rcases Nat.lt_or_ge i l.length with hlt | hge
  case inr =>
    have hlt' : ¬ (i : Int) < l.length := by omega
    have hd : l.drop i = [] := by rw [List.drop_eq_nil_iff]; omega
    rw [hd] at hR
    have hX2 : X = (out, 0, 0) := hR.symm
    subst hX2
    obtain ⟨_, hx, vb, hblk, own⟩ := HW
    have c0 : cellAt hc ⟨g, 0, none⟩ = some vb := by rw [cellAt_of hblk]; rfl
    simp (disch := first | omega | assumption) only [C.maps_Write_gos, vs, Go.Vc.vk, T.ts, ↓reduceIte, Nat.reduceEqDiff, reduceCtorEq, Nat.reduceLeDiff, Nat.reducePow, Int.reducePow, Int.reduceToNat, Nat.reduceAdd, hlt', c0, T.cvo_69_9 own]
    exact ⟨hx, rfl⟩
  have hlt' : (i : Int) < l.length := by omega
  rw [mapR_step hlt] at hR
  simp only at hR
  obtain ⟨b, o, c', vL, vS, heq, hrd0, sL, cL, sS, cS⟩ := hl.at hlt
  cases heq
  have hfit : (l.getD i ⟨0, [], []⟩).Fit := hlf _ (by simp [hlt])
  have hll2 := hLl (l.getD i ⟨0, [], []⟩) (by simp [hlt])
  generalize l.getD i ⟨0, [], []⟩ = f at *
  obtain ⟨fat, L, S⟩ := f
  simp only at hrd0 sL sS hR hll2
  have hx := HW.2.1
  have hrd : Rd hc b (o + i * 3) [.int .i64 fat, vL, vS] := hx.rd hrd0 (hrd0.lt (by simp)) id
  have hld := ld_agg T.ag_35 hrd rfl
  have sL' := sL
  have sS' := sS
  obtain ⟨_, aL, kL, rfl, _⟩ := sL'
  obtain ⟨_, aS, kS, rfl, _⟩ := sS'
  have hflo : -9223372036854775808 ≤ fat := hfit.lo
  have hfhi : fat < 9223372036854775808 := hfit.hi
  simp (disch := first | omega | assumption) only [C.maps_Write_gos, vs, Go.Vc.vk, T.ts, ↓reduceIte, Nat.reduceEqDiff, reduceCtorEq, Nat.reduceLeDiff, Nat.reducePow, Int.reducePow, Int.reduceToNat, Nat.reduceAdd, hlt', hld]
  refine eff_alloc_z T.zr_35 ?_
  simp (disch := first | omega | assumption) only [C.maps_Write_gos, vs, Go.Vc.vk, T.ts, ↓reduceIte, Nat.reduceEqDiff, reduceCtorEq, Nat.reduceLeDiff, Nat.reducePow, Int.reducePow, Int.reduceToNat, Nat.reduceAdd]
  refine eff_store_new_z T.zr_35 rfl rfl rfl (by simp [Value.cells, oneCell]) rfl ?_
  intro h3 x3 hlt3 hrd3 b3
  change h3[hc.size]? = some (.cells #[.int .i64 fat, .slice aL L.length kL, .slice aS S.length kS] 35 (0, 0)) at b3
  have c0 : cellAt h3 ⟨hc.size, 0, none⟩ = some (.int .i64 fat) := hrd3 0 _ rfl
  have c1 : cellAt h3 ⟨hc.size, 1, none⟩ = some (.slice aL L.length kL) := hrd3 1 _ rfl
  have c2 : cellAt h3 ⟨hc.size, 2, none⟩ = some (.slice aS S.length kS) := hrd3 2 _ rfl
  have hld3 := ld_agg T.ag_35 hrd3 rfl
  change ld _ _ ⟨hc.size, 0, none⟩ h3 = some (.agg #[.int .i64 fat, .slice aL L.length kL, .slice aS S.length kS]) at hld3
  have HW3 := HW.ext x3
  have hqg : hc.size ≠ g := by have := HW.lt; omega
  clear hld hrd hrd3
  generalize hc.size = q at *
  by_cases hbad : fat ≤ place ∨ 65535 < fat ∨ 65535 < L.length ∨ 65535 < S.length
  · rw [if_pos hbad] at hR
    subst hR
    by_cases g1 : fat ≤ place
    · simp (disch := first | omega | assumption) only [C.maps_Write_gos, vs, Go.Vc.vk, T.ts, ↓reduceIte, Nat.reduceEqDiff, reduceCtorEq, Nat.reduceLeDiff, Nat.reducePow, Int.reducePow, Int.reduceToNat, Nat.reduceAdd, c0, c1, c2, g1]
      exact ⟨HW3.2.1, rfl⟩
    by_cases g2 : 65535 < fat
    · simp (disch := first | omega | assumption) only [C.maps_Write_gos, vs, Go.Vc.vk, T.ts, ↓reduceIte, Nat.reduceEqDiff, reduceCtorEq, Nat.reduceLeDiff, Nat.reducePow, Int.reducePow, Int.reduceToNat, Nat.reduceAdd, c0, c1, c2, g1, g2]
      exact ⟨HW3.2.1, rfl⟩
    by_cases g3 : 65535 < L.length
    · have g3' : (65535 : Int) < L.length := by omega
      simp (disch := first | omega | assumption) only [C.maps_Write_gos, vs, Go.Vc.vk, T.ts, ↓reduceIte, Nat.reduceEqDiff, reduceCtorEq, Nat.reduceLeDiff, Nat.reducePow, Int.reducePow, Int.reduceToNat, Nat.reduceAdd, c0, c1, c2, g1, g2, g3']
      exact ⟨HW3.2.1, rfl⟩
    have g3' : ¬ (65535 : Int) < L.length := by omega
    have g4' : (65535 : Int) < S.length := by omega
    simp (disch := first | omega | assumption) only [C.maps_Write_gos, vs, Go.Vc.vk, T.ts, ↓reduceIte, Nat.reduceEqDiff, reduceCtorEq, Nat.reduceLeDiff, Nat.reducePow, Int.reducePow, Int.reduceToNat, Nat.reduceAdd, c0, c1, c2, g1, g2, g3', g4']
    exact ⟨HW3.2.1, rfl⟩
  rw [if_neg hbad] at hR
  have g1 : ¬ fat ≤ place := fun h => hbad (.inl h)
  have g2 : ¬ 65535 < fat := fun h => hbad (.inr (.inl h))
  have g3 : ¬ 65535 < L.length := fun h => hbad (.inr (.inr (.inl h)))
  have g4 : ¬ 65535 < S.length := fun h => hbad (.inr (.inr (.inr h)))
  have g3' : ¬ (65535 : Int) < L.length := by omega
  have g4' : ¬ (65535 : Int) < S.length := by omega
  obtain ⟨d, hd⟩ : ∃ d : Nat, d = (fat - place - 1).toNat := ⟨_, rfl⟩
  have hdd : fat - place - 1 = (d : Int) := by omega
  have hd16 : d < 65536 := by omega
  rw [← hd] at hR
  simp (disch := first | omega | assumption) only [C.maps_Write_gos, vs, Go.Vc.vk, T.ts, ↓reduceIte, Nat.reduceEqDiff, reduceCtorEq, Nat.reduceLeDiff, Nat.reducePow, Int.reducePow, Int.reduceToNat, Nat.reduceAdd, c0, c1, c2, g1, g2, g3', g4', hld3, hdd]
  refine eff_call_of ?_
  simp (disch := first | omega | assumption) only [C.maps_Write_gos, vs, Go.Vc.vk, T.ts, ↓reduceIte, Nat.reduceEqDiff, reduceCtorEq, Nat.reduceLeDiff, Nat.reducePow, Int.reducePow, Int.reduceToNat, Nat.reduceAdd]
  have hfl := frS_len p ⟨fat, L, S⟩ d loc (by simp only; omega) (by simp only; omega)
  refine (wone_any ⟨fat, L, S⟩ d loc _ _ _ hd16 (by simp only; omega) (by simp only; omega) hlocl sL cL sS hloc hlocc hfit.L hfit.S hp hpc hpf hpl (by omega) HW3).mono ?_
  rintro v4 h4 ⟨HW4, HK4⟩
  have b4 := HK4.blk b3 hqg (by decide)
  have d0 : cellAt h4 ⟨q, 0, none⟩ = some (.int .i64 fat) := by rw [cellAt_of b4]; rfl
  have d1 : cellAt h4 ⟨q, 1, none⟩ = some (.slice aL L.length kL) := by rw [cellAt_of b4]; rfl
  have hth : thenE 0 (frS p ⟨fat, L, S⟩ d loc).2 = (frS p ⟨fat, L, S⟩ d loc).2 := rfl
  rw [hth] at HW4
  generalize frS p ⟨fat, L, S⟩ d loc = y at *
  obtain ⟨by', e'⟩ := y
  simp only at HW4 hR hfl
  have ge : cellAt h4 ⟨g, 2, none⟩ = some (.int .i64 (e' : Int)) := by
    obtain ⟨_, _, vb, hblk, _⟩ := HW4
    rw [cellAt_of hblk]; rfl
  by_cases he : e' = 0
  · subst he
    rw [if_neg (by simp)] at hR
    rw [show ((0 : Nat) : Int) = 0 from rfl] at ge
    simp (disch := first | omega | assumption) only [C.maps_Write_gos, vs, Go.Vc.vk, T.ts, ↓reduceIte, Nat.reduceEqDiff, reduceCtorEq, Nat.reduceLeDiff, Nat.reducePow, Int.reducePow, Int.reduceToNat, Nat.reduceAdd, ge, d0, d1]
    exact ⟨_, by omega, i + 1, fat, L, _, _, rfl, by omega, by simp, HW4, sL, cL, hll2.1, by omega, by omega, by rw [List.length_append]; omega, hR⟩
  · have he' : ¬ (e' : Int) = 0 := by omega
    rw [if_pos he] at hR
    subst hR
    simp (disch := first | omega | assumption) only [C.maps_Write_gos, vs, Go.Vc.vk, T.ts, ↓reduceIte, Nat.reduceEqDiff, reduceCtorEq, Nat.reduceLeDiff, Nat.reducePow, Int.reducePow, Int.reduceToNat, Nat.reduceAdd, ge, eq_false he']
    exact ⟨HW4.2.1, rfl⟩
end Go.Proofs.Ytohkbpnblkkdgaa
