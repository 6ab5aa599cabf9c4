/- The writer's types of values. -/
import Derived.Test.YtohkbpnblkkdgaaM0
namespace Go.Proofs.Ytohkbpnblkkdgaa
open Go.Vc
set_option maxRecDepth 100000
set_option linter.unusedSimpArgs false
set_option linter.unusedVariables false

theorem KeepB.blk {h h' : Heap} {g c : Nat} {cs : Array Value} {t : TypeId} {fz : Nat × Nat} (H : KeepB h h' g) (hb : h[c]? = some (.cells cs t fz)) (hne : c ≠ g) (ht : t ≠ 5) : h'[c]? = some (.cells cs t fz) := H.2 _ _ _ _ hne ht hb
section
variable {h0 h : Heap} {g : Nat} {vp : Value} {b : List UInt8} {e : Nat} {p : List Cst}
theorem Wr.p1 (H : Wr h0 h g vp b e) : cellAt h ⟨g, 1, none⟩ = some vp := by
  obtain ⟨_, _, vb, h3, _⟩ := H
  rw [cellAt_of h3]; rfl
set_option maxHeartbeats 4000000 in
theorem wvalues_any (l : List VT) (vl : Value) (hl : SlN h0 3 vl l.length (flatV l)) (hlf : ∀ v ∈ l, v.Fit) (hp : SlN h0 5 vp p.length (flatS p)) (hpc : capOk vp) (hpf : ∀ c ∈ p, c.Fit) (hpl : p.length ≤ 1099511627776)
    (hb : b.length + 3 * l.length ≤ 1099511627776) (H : Wr h0 h g vp b e) :
    HCalls Try.prog 72 #[.pointer (some ⟨g, 0, none⟩), vl] h fun _ h' => Wr h0 h' g vp (b ++ (valsS p l).1) (thenE e (valsS p l).2) ∧ KeepB h h' g := by
  refine C.maps_wvalues_calls (args := [.pointer (some ⟨g, 0, none⟩), vl]) rfl ?_
  have hl' := hl
  obtain ⟨_, a, c, rfl, _⟩ := hl'
  have hgs := H.lt
  simp (disch := first | omega | assumption) only [C.maps_wvalues_gos, vs, Go.Vc.vk, T.ts, ↓reduceIte, Nat.reduceEqDiff, reduceCtorEq, Nat.reduceLeDiff, Nat.reducePow, Int.reducePow, Int.reduceToNat, Nat.reduceAdd]
  refine eff_box ?_
  have wb0 : (h.push (.cells #[.pointer (some ⟨g, 0, none⟩)] 68))[h.size]? = some (.cells #[.pointer (some ⟨g, 0, none⟩)] 68 (0, 0)) := by simp
  have H1 := H.ext (Ext.push h (.cells #[.pointer (some ⟨g, 0, none⟩)] 68))
  have K1 : KeepB h (h.push (.cells #[.pointer (some ⟨g, 0, none⟩)] 68)) g := KeepB.ext (Ext.push _ _)
  simp (disch := first | omega | assumption) only [C.maps_wvalues_gos, vs, Go.Vc.vk, T.ts, ↓reduceIte, Nat.reduceEqDiff, reduceCtorEq, Nat.reduceLeDiff, Nat.reducePow, Int.reducePow, Int.reduceToNat, Nat.reduceAdd]
  generalize hh1 : h.push (.cells #[.pointer (some ⟨g, 0, none⟩)] 68) = h1 at *
  have hwg : h.size ≠ g := by omega
  obtain ⟨wb, hwb⟩ : ∃ x, x = h.size := ⟨_, rfl⟩
  rw [← hwb] at wb0 hwg ⊢
  refine loop_intro [2, 7, 8, 9] (fun m ρ hc => ∃ i : Nat, m = l.length - i ∧ i ≤ l.length ∧ ρ = [(2, .pointer (some ⟨wb, 0, none⟩)), (7, .slice a l.length c), (8, .int .i64 l.length), (9, .int .i64 i)] ∧
      Wr h0 hc g vp (b ++ (valsS p (l.take i)).1) (thenE e (valsS p (l.take i)).2) ∧ KeepB h hc g ∧ hc[wb]? = some (.cells #[.pointer (some ⟨g, 0, none⟩)] 68 (0, 0))) ?_ ?_
  · simp (disch := first | omega | assumption) only [C.maps_wvalues_gos, vs, Go.Vc.vk, T.ts, ↓reduceIte, Nat.reduceEqDiff, reduceCtorEq, Nat.reduceLeDiff, Nat.reducePow, Int.reducePow, Int.reduceToNat, Nat.reduceAdd]
    exact ⟨_, 0, rfl, Nat.zero_le _, rfl, by simpa [valsS, thenE_zero] using H1, K1, wb0⟩
  rintro m ρ hc ⟨i, rfl, hi, rfl, HW, HK, hwbk⟩
  rcases Nat.lt_or_ge i l.length with hlt | hge
  case inr =>
    have hlt' : ¬ (i : Int) < l.length := by omega
    have hin : l.take i = l := List.take_of_length_le hge
    rw [hin] at HW
    simp (disch := first | omega | assumption) only [C.maps_wvalues_gos, vs, Go.Vc.vk, T.ts, ↓reduceIte, Nat.reduceEqDiff, reduceCtorEq, Nat.reduceLeDiff, Nat.reducePow, Int.reducePow, Int.reduceToNat, Nat.reduceAdd, hlt']
    exact ⟨HW, HK⟩
  have hlt' : (i : Int) < l.length := by omega
  have hbl := valsS_len p (l.take i)
  have htl : (l.take i).length = i := by simp; omega
  rw [htl] at hbl
  obtain ⟨bb, o, c', heq, hrd, _⟩ := (hl.ext (by decide) HW.2.1).at hlt
  cases heq
  rw [flatV_at hlt] at hrd
  have hfit : (l.getD i VT.zero).Fit := hlf _ (by simp [hlt])
  have hst := take_snoc hlt
  have hfin : ∀ (h' : Heap) (i0 : Nat), i0 = i → Wr h0 h' g vp (b ++ (valsS p (l.take i)).1 ++ (valS p (l.getD i VT.zero)).1) (thenE (thenE e (valsS p (l.take i)).2) (valS p (l.getD i VT.zero)).2) → KeepB hc h' g →
      ∃ m', m' < l.length - i ∧ ∃ i : Nat, m' = l.length - i ∧ i ≤ l.length ∧ [(2, Value.pointer (some ⟨wb, 0, none⟩)), (7, .slice (some ⟨bb, o, none⟩) l.length c), (8, .int .i64 l.length), (9, .int .i64 ((i0 : Int) + 1))] =
        [(2, .pointer (some ⟨wb, 0, none⟩)), (7, .slice (some ⟨bb, o, none⟩) l.length c), (8, .int .i64 l.length), (9, .int .i64 i)] ∧
      Wr h0 h' g vp (b ++ (valsS p (l.take i)).1) (thenE e (valsS p (l.take i)).2) ∧ KeepB h h' g ∧ h'[wb]? = some (.cells #[.pointer (some ⟨g, 0, none⟩)] 68 (0, 0)) := by
    intro h' i0 hi0 hw hk
    subst hi0
    refine ⟨_, ?_, i0 + 1, rfl, by omega, rfl, ?_, HK.trans hk, hk.blk hwbk hwg (by decide)⟩
    · omega
    · rw [hst, valsS_snoc, ← thenE_assoc]
      simpa [List.append_assoc] using hw
  generalize (valsS p (l.take i)).1 = pre at *
  generalize thenE e (valsS p (l.take i)).2 = e1 at *
  generalize l.getD i VT.zero = k at *
  obtain ⟨tag, name, at'⟩ := k
  have hld := ld_agg T.ag_25 hrd rfl
  simp only [VT.cells] at hld hrd
  simp (disch := first | omega | assumption) only [C.maps_wvalues_gos, vs, Go.Vc.vk, T.ts, ↓reduceIte, Nat.reduceEqDiff, reduceCtorEq, Nat.reduceLeDiff, Nat.reducePow, Int.reducePow, Int.reduceToNat, Nat.reduceAdd, hlt', hld]
  refine eff_alloc_z T.zr_25 ?_
  simp (disch := first | omega | assumption) only [C.maps_wvalues_gos, vs, Go.Vc.vk, T.ts, ↓reduceIte, Nat.reduceEqDiff, reduceCtorEq, Nat.reduceLeDiff, Nat.reducePow, Int.reducePow, Int.reduceToNat, Nat.reduceAdd]
  refine eff_store_new_z T.zr_25 rfl rfl rfl (by simp [Value.cells, oneCell, str]) rfl ?_
  intro h3 x3 hlt3 hrd3 b3
  change h3[hc.size]? = some (.cells #[.int .u8 (tag : Int), str name, .int .i64 at'] 25 (0, 0)) at b3
  have c0 : cellAt h3 ⟨hc.size, 0, none⟩ = some (.int .u8 (tag : Int)) := hrd3 0 _ rfl
  have HW3 := HW.ext x3
  have HK3 : KeepB hc h3 g := KeepB.ext x3
  have w3 := HK3.blk hwbk hwg (by decide)
  have cw : cellAt h3 ⟨wb, 0, none⟩ = some (.pointer (some ⟨g, 0, none⟩)) := by rw [cellAt_of w3]; rfl
  have hqg : hc.size ≠ g := by have := HW.lt; omega
  clear hld hrd hrd3
  generalize hc.size = q at *
  have htag : tag < 256 := hfit.tag
  have hwt : IntKind.i64.wrap (tag : Int) = (tag : Int) := wrap_i64 (by omega) (by omega)
  simp (disch := first | omega | assumption) only [C.maps_wvalues_gos, vs, Go.Vc.vk, T.ts, ↓reduceIte, Nat.reduceEqDiff, reduceCtorEq, Nat.reduceLeDiff, Nat.reducePow, Int.reducePow, Int.reduceToNat, Nat.reduceAdd, c0, cw, hwt]
  refine eff_call_of ?_
  simp (disch := first | omega | assumption) only [C.maps_wvalues_gos, vs, Go.Vc.vk, T.ts, ↓reduceIte, Nat.reduceEqDiff, reduceCtorEq, Nat.reduceLeDiff, Nat.reducePow, Int.reducePow, Int.reduceToNat, Nat.reduceAdd]
  refine (wnum_any (tag : Int) 1 (by omega) (by simp only [List.length_append]; omega) HW3).mono ?_
  rintro v4 h4 ⟨HW4, HK4⟩
  rw [atU_nat (by omega), bigS_one, Nat.mod_eq_of_lt htag] at HW4
  have HK34 := HK3.trans HK4
  have b4 := HK4.blk b3 hqg (by decide)
  have w4 := HK4.blk w3 hwg (by decide)
  have cw4 : cellAt h4 ⟨wb, 0, none⟩ = some (.pointer (some ⟨g, 0, none⟩)) := by rw [cellAt_of w4]; rfl
  have d0 : cellAt h4 ⟨q, 0, none⟩ = some (.int .u8 (tag : Int)) := by rw [cellAt_of b4]; rfl
  have d1 : cellAt h4 ⟨q, 1, none⟩ = some (str name) := by rw [cellAt_of b4]; rfl
  have d2 : cellAt h4 ⟨q, 2, none⟩ = some (.int .i64 at') := by rw [cellAt_of b4]; rfl
  by_cases t7 : tag = 7
  · subst t7
    rw [show ((7 : Nat) : Int) = 7 from rfl] at d0 b4
    have hv1 : (valS p ⟨7, name, at'⟩).1 = UInt8.ofNat 7 :: bigS (clsS p name) 2 := rfl
    have hp4 := hp.ext (by decide) HW4.2.1
    have hp4' := hp4
    obtain ⟨_, ap, cp, rfl, _⟩ := hp4'
    have cg1 := HW4.p1
    obtain ⟨m1, hm1⟩ : ∃ m, m = min 1 p.length := ⟨_, rfl⟩
    have hmin : (if (p.length : Int) < 1 then (p.length : Int) else 1) = (m1 : Int) := by rw [hm1]; split <;> omega
    have hml : (m1 : Int) ≤ p.length := by omega
    have hq : SlN h4 5 (.slice (slA ap cp m1 5) (p.drop 1).length (cp - m1)) (p.drop 1).length (flatS (p.drop 1)) := by
      have h1 := hp4.sub (lo := m1) (hi := p.length) (by omega) (Nat.le_refl _) hpc
      have h2 : (flatS p).take (p.length * 5) = flatS p := List.take_of_length_le (by rw [flatS_len]; omega)
      rw [h2, flatS_drop] at h1
      have h3 : p.drop m1 = p.drop 1 := by
        rcases Nat.eq_zero_or_pos p.length with h | h
        · have := List.length_eq_zero_iff.1 h; subst this; simp
        · have : m1 = 1 := by omega
          rw [this]
      have h4' : p.length - m1 = (p.drop 1).length := by rw [List.length_drop]; omega
      rw [h3, h4'] at h1
      exact h1
    have hln : p.length - m1 = (p.drop 1).length := by rw [List.length_drop]; omega
    have hidx := idx_cls p name
    simp (disch := first | omega | assumption) only [C.maps_wvalues_gos, vs, Go.Vc.vk, T.ts, ↓reduceIte, Nat.reduceEqDiff, reduceCtorEq, Nat.reduceLeDiff, Nat.reducePow, Int.reducePow, Int.reduceToNat, Nat.reduceAdd, d0, cw4, cg1, hmin, hml, hln, Int.toNat_natCast, Int.reduceEq, decide_true]
    refine eff_call_of ?_
    simp (disch := first | omega | assumption) only [C.maps_wvalues_gos, vs, Go.Vc.vk, T.ts, ↓reduceIte, Nat.reduceEqDiff, reduceCtorEq, Nat.reduceLeDiff, Nat.reducePow, Int.reducePow, Int.reduceToNat, Nat.reduceAdd]
    refine (indexFunc_any (hitS p name) (cap := #[.pointer (some ⟨wb, 0, none⟩), .pointer (some ⟨q, 0, none⟩)]) T.able_88 hq (by simp only [List.length_drop]; omega) ?_).mono ?_
    · intro h' hx' cc hcc
      have hcm : cc ∈ p := List.mem_of_mem_drop hcc
      have e1 := hx'.cell (sp := none) (b := wb) (o := 0) (cellAt_lt cw4) id
      have e2 := hx'.cell (sp := none) (b := g) (o := 1) (cellAt_lt cg1) id
      have e3 := hx'.cell (sp := none) (b := q) (o := 1) (cellAt_lt d1) id
      rw [cw4] at e1
      rw [cg1] at e2
      rw [d1] at e3
      exact hit_any cc (hpf cc hcm) (hp4.ext (by decide) hx') e1 e2 e3
    rintro v5 h5 ⟨x5, rfl⟩
    have HW5 := HW4.ext x5
    have w5 := Fr_blk x5 w4 id
    have cw5 : cellAt h5 ⟨wb, 0, none⟩ = some (.pointer (some ⟨g, 0, none⟩)) := by rw [cellAt_of w5]; rfl
    have HK5 := HK34.trans (KeepB.ext x5)
    have hcl := clsS_le p name
    by_cases hz : clsS p name = 0
    · have hv2 : (valS p ⟨7, name, at'⟩).2 = 7 := if_pos hz
      rw [hv1, hv2] at hfin
      have hz' : ((clsS p name : Nat) : Int) = 0 := by omega
      simp (disch := first | omega | assumption) only [C.maps_wvalues_gos, vs, Go.Vc.vk, T.ts, ↓reduceIte, Nat.reduceEqDiff, reduceCtorEq, Nat.reduceLeDiff, Nat.reducePow, Int.reducePow, Int.reduceToNat, Nat.reduceAdd, hidx, cw5, eq_true hz']
      refine eff_call_of ?_
      simp (disch := first | omega | assumption) only [C.maps_wvalues_gos, vs, Go.Vc.vk, T.ts, ↓reduceIte, Nat.reduceEqDiff, reduceCtorEq, Nat.reduceLeDiff, Nat.reducePow, Int.reducePow, Int.reduceToNat, Nat.reduceAdd]
      refine (wfail_any 7 HW5).mono ?_
      rintro v6 h6 ⟨HW6, HK6⟩
      have w6 := HK6.blk w5 hwg (by decide)
      have cw6 : cellAt h6 ⟨wb, 0, none⟩ = some (.pointer (some ⟨g, 0, none⟩)) := by rw [cellAt_of w6]; rfl
      simp (disch := first | omega | assumption) only [C.maps_wvalues_gos, vs, Go.Vc.vk, T.ts, ↓reduceIte, Nat.reduceEqDiff, reduceCtorEq, Nat.reduceLeDiff, Nat.reducePow, Int.reducePow, Int.reduceToNat, Nat.reduceAdd, cw6]
      refine eff_call_of ?_
      simp (disch := first | omega | assumption) only [C.maps_wvalues_gos, vs, Go.Vc.vk, T.ts, ↓reduceIte, Nat.reduceEqDiff, reduceCtorEq, Nat.reduceLeDiff, Nat.reducePow, Int.reducePow, Int.reduceToNat, Nat.reduceAdd]
      refine (wnum_any (clsS p name : Int) 2 (by omega) (by simp only [List.length_append, List.length_singleton]; omega) HW6).mono ?_
      rintro v7 h7 ⟨HW7, HK7⟩
      simp (disch := first | omega | assumption) only [C.maps_wvalues_gos, vs, Go.Vc.vk, T.ts, ↓reduceIte, Nat.reduceEqDiff, reduceCtorEq, Nat.reduceLeDiff, Nat.reducePow, Int.reducePow, Int.reduceToNat, Nat.reduceAdd]
      refine hfin h7 i rfl ?_ ((HK5.trans HK6).trans HK7)
      rw [thenE]
      rw [atU_nat (by omega)] at HW7
      simpa [List.append_assoc] using HW7
    · have hv2 : (valS p ⟨7, name, at'⟩).2 = 0 := if_neg hz
      rw [hv1, hv2] at hfin
      have hz' : ¬ ((clsS p name : Nat) : Int) = 0 := by omega
      simp (disch := first | omega | assumption) only [C.maps_wvalues_gos, vs, Go.Vc.vk, T.ts, ↓reduceIte, Nat.reduceEqDiff, reduceCtorEq, Nat.reduceLeDiff, Nat.reducePow, Int.reducePow, Int.reduceToNat, Nat.reduceAdd, hidx, cw5, eq_false hz']
      refine eff_call_of ?_
      simp (disch := first | omega | assumption) only [C.maps_wvalues_gos, vs, Go.Vc.vk, T.ts, ↓reduceIte, Nat.reduceEqDiff, reduceCtorEq, Nat.reduceLeDiff, Nat.reducePow, Int.reducePow, Int.reduceToNat, Nat.reduceAdd]
      refine (wnum_any (clsS p name : Int) 2 (by omega) (by simp only [List.length_append, List.length_singleton]; omega) HW5).mono ?_
      rintro v7 h7 ⟨HW7, HK7⟩
      simp (disch := first | omega | assumption) only [C.maps_wvalues_gos, vs, Go.Vc.vk, T.ts, ↓reduceIte, Nat.reduceEqDiff, reduceCtorEq, Nat.reduceLeDiff, Nat.reducePow, Int.reducePow, Int.reduceToNat, Nat.reduceAdd]
      refine hfin h7 i rfl ?_ (HK5.trans HK7)
      rw [thenE_zero]
      rw [atU_nat (by omega)] at HW7
      simpa [List.append_assoc] using HW7
  have n7 : ¬ (tag : Int) = 7 := by omega
  by_cases t8 : tag = 8
  · subst t8
    rw [show ((8 : Nat) : Int) = 8 from rfl] at d0 b4
    have hv1 : (valS p ⟨8, name, at'⟩).1 = UInt8.ofNat 8 :: bigS (atU at') 2 := rfl
    by_cases hneg : at' < 0 ∨ 65535 < at'
    · have hv2 : (valS p ⟨8, name, at'⟩).2 = 17 := if_pos hneg
      rw [hv1, hv2] at hfin
      have hpick : at' < 0 ∨ (¬ at' < 0 ∧ 65535 < at') := by omega
      rcases hpick with hn | ⟨hn, hn2⟩
      case' inl =>
        simp (disch := first | omega | assumption) only [C.maps_wvalues_gos, vs, Go.Vc.vk, T.ts, ↓reduceIte, Nat.reduceEqDiff, reduceCtorEq, Nat.reduceLeDiff, Nat.reducePow, Int.reducePow, Int.reduceToNat, Nat.reduceAdd, d0, d2, cw4, Int.reduceEq, hn, decide_true, decide_false]
      case' inr =>
        simp (disch := first | omega | assumption) only [C.maps_wvalues_gos, vs, Go.Vc.vk, T.ts, ↓reduceIte, Nat.reduceEqDiff, reduceCtorEq, Nat.reduceLeDiff, Nat.reducePow, Int.reducePow, Int.reduceToNat, Nat.reduceAdd, d0, d2, cw4, Int.reduceEq, hn, hn2, decide_true, decide_false]
      all_goals
        refine eff_call_of ?_
        simp (disch := first | omega | assumption) only [C.maps_wvalues_gos, vs, Go.Vc.vk, T.ts, ↓reduceIte, Nat.reduceEqDiff, reduceCtorEq, Nat.reduceLeDiff, Nat.reducePow, Int.reducePow, Int.reduceToNat, Nat.reduceAdd]
        refine (wfail_any 17 HW4).mono ?_
        rintro v5 h5 ⟨HW5, HK5⟩
        have b5 := HK5.blk b4 hqg (by decide)
        have w5 := HK5.blk w4 hwg (by decide)
        have cw5 : cellAt h5 ⟨wb, 0, none⟩ = some (.pointer (some ⟨g, 0, none⟩)) := by rw [cellAt_of w5]; rfl
        have f2 : cellAt h5 ⟨q, 2, none⟩ = some (.int .i64 at') := by rw [cellAt_of b5]; rfl
        simp (disch := first | omega | assumption) only [C.maps_wvalues_gos, vs, Go.Vc.vk, T.ts, ↓reduceIte, Nat.reduceEqDiff, reduceCtorEq, Nat.reduceLeDiff, Nat.reducePow, Int.reducePow, Int.reduceToNat, Nat.reduceAdd, cw5, f2]
        refine eff_call_of ?_
        simp (disch := first | omega | assumption) only [C.maps_wvalues_gos, vs, Go.Vc.vk, T.ts, ↓reduceIte, Nat.reduceEqDiff, reduceCtorEq, Nat.reduceLeDiff, Nat.reducePow, Int.reducePow, Int.reduceToNat, Nat.reduceAdd]
        refine (wnum_any at' 2 (by omega) (by simp only [List.length_append, List.length_singleton]; omega) HW5).mono ?_
        rintro v6 h6 ⟨HW6, HK6⟩
        simp (disch := first | omega | assumption) only [C.maps_wvalues_gos, vs, Go.Vc.vk, T.ts, ↓reduceIte, Nat.reduceEqDiff, reduceCtorEq, Nat.reduceLeDiff, Nat.reducePow, Int.reducePow, Int.reduceToNat, Nat.reduceAdd]
        refine hfin h6 i rfl ?_ ((HK34.trans HK5).trans HK6)
        rw [thenE]
        simpa [List.append_assoc] using HW6
    · have hv2 : (valS p ⟨8, name, at'⟩).2 = 0 := if_neg hneg
      rw [hv1, hv2] at hfin
      have hn : ¬ at' < 0 := fun h => hneg (.inl h)
      have hn2 : ¬ 65535 < at' := fun h => hneg (.inr h)
      simp (disch := first | omega | assumption) only [C.maps_wvalues_gos, vs, Go.Vc.vk, T.ts, ↓reduceIte, Nat.reduceEqDiff, reduceCtorEq, Nat.reduceLeDiff, Nat.reducePow, Int.reducePow, Int.reduceToNat, Nat.reduceAdd, d0, d2, cw4, Int.reduceEq, hn, hn2, decide_true, decide_false]
      refine eff_call_of ?_
      simp (disch := first | omega | assumption) only [C.maps_wvalues_gos, vs, Go.Vc.vk, T.ts, ↓reduceIte, Nat.reduceEqDiff, reduceCtorEq, Nat.reduceLeDiff, Nat.reducePow, Int.reducePow, Int.reduceToNat, Nat.reduceAdd]
      refine (wnum_any at' 2 (by omega) (by simp only [List.length_append, List.length_singleton]; omega) HW4).mono ?_
      rintro v6 h6 ⟨HW6, HK6⟩
      simp (disch := first | omega | assumption) only [C.maps_wvalues_gos, vs, Go.Vc.vk, T.ts, ↓reduceIte, Nat.reduceEqDiff, reduceCtorEq, Nat.reduceLeDiff, Nat.reducePow, Int.reducePow, Int.reduceToNat, Nat.reduceAdd]
      refine hfin h6 i rfl ?_ (HK34.trans HK6)
      rw [thenE]
      have : (if e1 = 0 then 0 else e1) = e1 := by split <;> omega
      rw [this]
      simpa [List.append_assoc] using HW6
  have n8 : ¬ (tag : Int) = 8 := by omega
  have hv1 : (valS p ⟨tag, name, at'⟩).1 = [UInt8.ofNat tag] := by simp [valS, t7, t8]
  by_cases h8 : 8 < tag
  · have h8' : (8 : Int) < tag := by omega
    have hv2 : (valS p ⟨tag, name, at'⟩).2 = 17 := by simp [valS, t7, t8, h8]
    rw [hv1, hv2] at hfin
    simp (disch := first | omega | assumption) only [C.maps_wvalues_gos, vs, Go.Vc.vk, T.ts, ↓reduceIte, Nat.reduceEqDiff, reduceCtorEq, Nat.reduceLeDiff, Nat.reducePow, Int.reducePow, Int.reduceToNat, Nat.reduceAdd, d0, cw4, eq_false n7, eq_false n8, h8', decide_false]
    refine eff_call_of ?_
    simp (disch := first | omega | assumption) only [C.maps_wvalues_gos, vs, Go.Vc.vk, T.ts, ↓reduceIte, Nat.reduceEqDiff, reduceCtorEq, Nat.reduceLeDiff, Nat.reducePow, Int.reducePow, Int.reduceToNat, Nat.reduceAdd]
    refine (wfail_any 17 HW4).mono ?_
    rintro v5 h5 ⟨HW5, HK5⟩
    simp (disch := first | omega | assumption) only [C.maps_wvalues_gos, vs, Go.Vc.vk, T.ts, ↓reduceIte, Nat.reduceEqDiff, reduceCtorEq, Nat.reduceLeDiff, Nat.reducePow, Int.reducePow, Int.reduceToNat, Nat.reduceAdd]
    refine hfin h5 i rfl ?_ (HK34.trans HK5)
    rw [thenE]
    exact HW5
  · have h8' : ¬ (8 : Int) < tag := by omega
    have hv2 : (valS p ⟨tag, name, at'⟩).2 = 0 := by simp [valS, t7, t8, h8]
    rw [hv1, hv2] at hfin
    simp (disch := first | omega | assumption) only [C.maps_wvalues_gos, vs, Go.Vc.vk, T.ts, ↓reduceIte, Nat.reduceEqDiff, reduceCtorEq, Nat.reduceLeDiff, Nat.reducePow, Int.reducePow, Int.reduceToNat, Nat.reduceAdd, d0, cw4, eq_false n7, eq_false n8, h8', decide_false]
    refine hfin h4 i rfl ?_ HK34
    rw [thenE]
    have : (if e1 = 0 then 0 else e1) = e1 := by split <;> omega
    rw [this]
    exact HW4
end
end Go.Proofs.Ytohkbpnblkkdgaa
