/- The writer of classes: indexes, attributes. -/
import Derived.Test.YtohkbpnblkkdgaaL1
import Derived.Test.YtohkbpnblkkdgaaVcS
namespace Go.Proofs.Ytohkbpnblkkdgaa
open Go.Vc
set_option maxRecDepth 100000
set_option linter.unusedSimpArgs false
set_option linter.unusedVariables false

theorem idxP_num {x : Nat} (hx : x < 65536) : numP (x : Int) 2 = idxP x := by
  unfold numP idxP
  rw [atU_nat (by omega), if_neg (by have : (256 : Nat) ^ 2 = 65536 := by decide
                                     omega)]
theorem allP_idx (l : List Nat) : (allP idxP l).2 = 0 ∧ (allP idxP l).1.length = 2 * l.length := by
  induction l with
  | nil => exact ⟨rfl, rfl⟩
  | cons x r ih =>
    refine ⟨?_, ?_⟩
    · simp only [allP, seqP, idxP, ih.1, thenE_zero]
    · simp only [allP, seqP, idxP, List.length_append, bigS_len, ih.2, List.length_cons]; omega
theorem natV_at {l : List Nat} {i : Nat} (hi : i < l.length) : ((natV l).drop (i * 1)).take 1 = [.int .u16 ((l.getD i 0 : Nat) : Int)] := by
  rw [Nat.mul_one]
  unfold natV
  rw [List.drop_eq_getElem_cons (by simpa using hi)]
  simp [hi]
section
variable {h0 h : Heap} {g : Nat} {cc : List Value} {b : List UInt8} {e : Nat}
theorem cwindex_any (l : List Nat) (vi : Value) (hl : ∀ x ∈ l, x < 65536) (hlen : l.length ≤ 1073741824) (hb : b.length ≤ 1073741824) (hS : ∀ h', KeepB h h' g → Ext h0 h' → SlN h' 1 vi l.length (natV l)) (H : CW h0 h g cc b e) :
    HCalls Try.prog 38 #[.pointer (some ⟨g, 0, none⟩), vi] h fun _ h' => CW h0 h' g cc (b ++ (allP idxP l).1) e ∧ KeepB h h' g := by
  refine C.cw_index_calls (args := [.pointer (some ⟨g, 0, none⟩), vi]) rfl ?_
  obtain ⟨_, a, c, rfl, _⟩ := hS h (KeepB.refl _ _) H.2.1
  simp (disch := first | omega | assumption) only [C.cw_index_gos, vs, Go.Vc.vk, T.ts, ↓reduceIte, Nat.reduceEqDiff, reduceCtorEq, Nat.reduceLeDiff, Nat.reducePow, Int.reducePow, Int.reduceToNat, Nat.reduceAdd]
  refine loop_intro [0, 6, 7, 8] (fun m ρ hc => ∃ i : Nat, m = l.length - i ∧ i ≤ l.length ∧ ρ = [(0, .pointer (some ⟨g, 0, none⟩)), (6, .slice a l.length c), (7, .int .i64 l.length), (8, .int .i64 i)] ∧
      CW h0 hc g cc (b ++ (allP idxP (l.take i)).1) e ∧ KeepB h hc g) ?_ ?_
  · simp (disch := first | omega | assumption) only [C.cw_index_gos, vs, Go.Vc.vk, T.ts, ↓reduceIte, Nat.reduceEqDiff, reduceCtorEq, Nat.reduceLeDiff, Nat.reducePow, Int.reducePow, Int.reduceToNat, Nat.reduceAdd]
    exact ⟨_, 0, rfl, Nat.zero_le _, rfl, by simpa [allP] using H, KeepB.refl _ _⟩
  rintro m ρ hc ⟨i, rfl, hi, rfl, HW, HK⟩
  rcases Nat.lt_or_ge i l.length with hlt | hge
  case inr =>
    have hlt' : ¬ (i : Int) < l.length := by omega
    rw [List.take_of_length_le hge] at HW
    simp (disch := first | omega | assumption) only [C.cw_index_gos, vs, Go.Vc.vk, T.ts, ↓reduceIte, Nat.reduceEqDiff, reduceCtorEq, Nat.reduceLeDiff, Nat.reducePow, Int.reducePow, Int.reduceToNat, Nat.reduceAdd, hlt']
    exact ⟨HW, HK⟩
  have hlt' : (i : Int) < l.length := by omega
  obtain ⟨bb, o, c', heq, hrd, _⟩ := (hS hc HK HW.2.1).at hlt
  cases heq
  rw [natV_at hlt] at hrd
  have hx := hl (l.getD i 0) (by simp [hlt])
  have hst := take_snocD 0 hlt
  have hlb := (allP_idx (l.take i)).2
  have htl : (l.take i).length = i := by simp; omega
  have hP := idxP_num hx
  have c0 : cellAt hc ⟨bb, o + i, none⟩ = some (.int .u16 ((l.getD i 0 : Nat) : Int)) := by
    have := hrd 0 _ rfl
    simpa using this
  generalize l.getD i 0 = x at *
  have hw : IntKind.i64.wrap (x : Int) = (x : Int) := wrap_i64 (by omega) (by omega)
  simp (disch := first | omega | assumption) only [C.cw_index_gos, vs, Go.Vc.vk, T.ts, ↓reduceIte, Nat.reduceEqDiff, reduceCtorEq, Nat.reduceLeDiff, Nat.reducePow, Int.reducePow, Int.reduceToNat, Nat.reduceAdd, hlt', c0, hw]
  refine eff_call_of ?_
  simp (disch := first | omega | assumption) only [C.cw_index_gos, vs, Go.Vc.vk, T.ts, ↓reduceIte, Nat.reduceEqDiff, reduceCtorEq, Nat.reduceLeDiff, Nat.reducePow, Int.reducePow, Int.reduceToNat, Nat.reduceAdd]
  refine (cwnum_any (x : Int) 2 (.inl rfl) (by rw [List.length_append]; omega) HW).mono ?_
  rintro v2 h2 ⟨H2, K2⟩
  rw [hP] at H2
  have H3 : CW h0 h2 g cc (b ++ (allP idxP (l.take (i + 1))).1) e := by
    rw [hst, allP_snoc]
    simpa [seqP, idxP, thenE_zero] using H2
  simp (disch := first | omega | assumption) only [C.cw_index_gos, vs, Go.Vc.vk, T.ts, ↓reduceIte, Nat.reduceEqDiff, reduceCtorEq, Nat.reduceLeDiff, Nat.reducePow, Int.reducePow, Int.reduceToNat, Nat.reduceAdd]
  exact ⟨_, by omega, i + 1, rfl, by omega, by simp, H3, HK.trans K2⟩
theorem nameK_none {p : List Cst} {name : List UInt8} (h : ∀ j, j < p.length → hitN name (p.getD j Cst.zero) = false) : nameK p name = none := by
  unfold nameK
  rw [List.findIdx?_eq_none_iff]
  intro x hx
  obtain ⟨j, hj, rfl⟩ := List.mem_iff_getElem.1 hx
  have := h j hj
  simpa [hj] using this
theorem nameK_some {p : List Cst} {name : List UInt8} {i : Nat} (hi : i < p.length) (h1 : hitN name (p.getD i Cst.zero) = true) (h : ∀ j, j < i → hitN name (p.getD j Cst.zero) = false) : nameK p name = some i := by
  unfold nameK
  rw [List.findIdx?_eq_some_iff_getElem]
  refine ⟨hi, by simpa [hi] using h1, fun j hj => ?_⟩
  have := h j hj
  have hjl : j < p.length := by omega
  simp [hjl] at this
  simp [this]
theorem pat_take (b x l y : List UInt8) (hl : l.length = 4) (hx : x.length = 4) : (b ++ x ++ y).take b.length ++ l ++ (b ++ x ++ y).drop (b.length + 4) = b ++ (l ++ y) := by
  rw [List.append_assoc b x y, List.take_left, List.drop_append, Nat.add_sub_cancel_left, List.drop_eq_nil_of_le (by omega), List.drop_left' hx]
  simp
set_option maxHeartbeats 4000000 in
theorem cwattr_any (p : List Cst) (vp : Value) (name : List UInt8) (F : Nat) (cap : Array Value) (Q : Pce) (hcal : callable Try.prog F = true) (hp : SlN h0 5 vp p.length (flatS p)) (hcc : cc[5]? = some vp) (hpf : ∀ c ∈ p, c.Fit) (hpl : p.length ≤ 65536)
    (hb : b.length + Q.1.length ≤ 1000000000)
    (hF : ∀ (h1 : Heap) (b1 : List UInt8) (e1 : Nat), CW h0 h1 g cc b1 e1 → KeepB h h1 g → b1.length ≤ b.length + 6 → HCalls Try.prog F cap h1 fun _ h' => CW h0 h' g cc (b1 ++ Q.1) (thenE e1 Q.2) ∧ KeepB h1 h' g)
    (H : CW h0 h g cc b e) :
    HCalls Try.prog 41 #[.pointer (some ⟨g, 0, none⟩), str name, .func (.func F) #[] cap] h fun _ h' => CW h0 h' g cc (b ++ (attrP (nameK p) name Q).1) (thenE e (attrP (nameK p) name Q).2) ∧ KeepB h h' g := by
  refine C.cw_attribute_calls (args := [.pointer (some ⟨g, 0, none⟩), str name, .func (.func F) #[] cap]) rfl ?_
  have hp' := hp
  obtain ⟨_, ap, cp, rfl, _⟩ := hp'
  have c6 : cellAt h ⟨g, 6, none⟩ = some (.slice ap p.length cp) := by
    obtain ⟨_, _, hl, vb, h3, _⟩ := H
    rw [cellAt_of h3]
    have h5 : 5 < cc.length := by omega
    rw [List.getElem?_eq_getElem h5] at hcc
    simp [wrV, List.getElem?_cons, List.getElem?_append, hl]
    simpa using hcc
  simp (disch := first | omega | assumption) only [C.cw_attribute_gos, vs, Go.Vc.vk, T.ts, ↓reduceIte, Nat.reduceEqDiff, reduceCtorEq, Nat.reduceLeDiff, Nat.reducePow, Int.reducePow, Int.reduceToNat, Nat.reduceAdd, c6]
  refine loop_intro [0, 1, 2, 13, 14, 15] (fun m ρ hc => ∃ i : Nat, m = p.length - i ∧ i ≤ p.length ∧ ρ = [(0, .pointer (some ⟨g, 0, none⟩)), (1, str name), (2, .func (.func F) #[] cap), (13, .slice ap p.length cp), (14, .int .i64 p.length), (15, .int .i64 i)] ∧
      Ext h hc ∧ ∀ j, j < i → hitN name (p.getD j Cst.zero) = false) ?_ ?_
  · simp (disch := first | omega | assumption) only [C.cw_attribute_gos, vs, Go.Vc.vk, T.ts, ↓reduceIte, Nat.reduceEqDiff, reduceCtorEq, Nat.reduceLeDiff, Nat.reducePow, Int.reducePow, Int.reduceToNat, Nat.reduceAdd]
    exact ⟨_, 0, rfl, Nat.zero_le _, rfl, Ext.refl _, fun j hj => by omega⟩
  clear c6
  rintro m ρ hc ⟨i, rfl, hi, rfl, X, hno⟩
  have HW := H.ext X
  rcases Nat.lt_or_ge i p.length with hlt | hge
  case inr =>
    have hlt' : ¬ (i : Int) < p.length := by omega
    have hN : nameK p name = none := nameK_none fun j hj => hno j (by omega)
    have hA : attrP (nameK p) name Q = ([], 8) := by unfold attrP; rw [hN]
    rw [hA]
    simp (disch := first | omega | assumption) only [C.cw_attribute_gos, vs, Go.Vc.vk, T.ts, ↓reduceIte, Nat.reduceEqDiff, reduceCtorEq, Nat.reduceLeDiff, Nat.reducePow, Int.reducePow, Int.reduceToNat, Nat.reduceAdd, hlt']
    refine eff_call_of ?_
    simp (disch := first | omega | assumption) only [C.cw_attribute_gos, vs, Go.Vc.vk, T.ts, ↓reduceIte, Nat.reduceEqDiff, reduceCtorEq, Nat.reduceLeDiff, Nat.reducePow, Int.reducePow, Int.reduceToNat, Nat.reduceAdd]
    refine (cwfail_any 8 HW).mono ?_
    rintro v2 h2 ⟨H2, K2⟩
    simp (disch := first | omega | assumption) only [C.cw_attribute_gos, vs, Go.Vc.vk, T.ts, ↓reduceIte, Nat.reduceEqDiff, reduceCtorEq, Nat.reduceLeDiff, Nat.reducePow, Int.reducePow, Int.reduceToNat, Nat.reduceAdd]
    exact ⟨by simpa using H2, (KeepB.ext X).trans K2⟩
  have hlt' : (i : Int) < p.length := by omega
  obtain ⟨bb, o, c', heq, hrd, _⟩ := (hp.ext (by decide) HW.2.1).at hlt
  cases heq
  rw [flatS_at hlt] at hrd
  have hld := ld_agg T.ag_76 hrd rfl
  have hstep : hitN name (p.getD i Cst.zero) = false → ∀ j, j < i + 1 → hitN name (p.getD j Cst.zero) = false := fun h1 j hj => by
    rcases Nat.lt_or_ge j i with hji | hji
    · exact hno j hji
    · have : j = i := by omega
      rw [this]; exact h1
  have hhit := fun h1 => nameK_some (p := p) (name := name) hlt h1 hno
  generalize p.getD i Cst.zero = x at *
  obtain ⟨tag, text, bits, xa, xb⟩ := x
  simp only [Cst.cells] at hld
  simp (disch := first | omega | assumption) only [C.cw_attribute_gos, vs, Go.Vc.vk, T.ts, ↓reduceIte, Nat.reduceEqDiff, reduceCtorEq, Nat.reduceLeDiff, Nat.reducePow, Int.reducePow, Int.reduceToNat, Nat.reduceAdd, hlt', hld]
  refine eff_alloc_z T.zr_76 ?_
  simp (disch := first | omega | assumption) only [C.cw_attribute_gos, vs, Go.Vc.vk, T.ts, ↓reduceIte, Nat.reduceEqDiff, reduceCtorEq, Nat.reduceLeDiff, Nat.reducePow, Int.reducePow, Int.reduceToNat, Nat.reduceAdd]
  refine eff_store_new_z T.zr_76 rfl rfl rfl (by simp [Value.cells, oneCell, str]) rfl ?_
  intro h3 x3 hlt3 hrd3 b3
  have g0 : cellAt h3 ⟨hc.size, 0, none⟩ = some (.int .u8 (tag : Int)) := hrd3 0 _ rfl
  have g1 : cellAt h3 ⟨hc.size, 1, none⟩ = some (str text) := hrd3 1 _ rfl
  have X3 := X.trans x3
  have H3 := H.ext X3
  have K3 : KeepB h h3 g := KeepB.ext X3
  clear hld hrd hrd3 b3 hlt3 x3
  by_cases ht : tag = 1
  case neg =>
    have ht' : ¬ (tag : Int) = 1 := by omega
    simp (disch := first | omega | assumption) only [C.cw_attribute_gos, vs, Go.Vc.vk, T.ts, ↓reduceIte, Nat.reduceEqDiff, reduceCtorEq, Nat.reduceLeDiff, Nat.reducePow, Int.reducePow, Int.reduceToNat, Nat.reduceAdd, g0, ht']
    exact ⟨_, by omega, i + 1, rfl, by omega, by simp, X3, hstep (by simp [hitN, ht])⟩
  have ht' : (tag : Int) = 1 := by omega
  by_cases hx : text = name
  case neg =>
    simp (disch := first | omega | assumption) only [C.cw_attribute_gos, vs, Go.Vc.vk, T.ts, ↓reduceIte, Nat.reduceEqDiff, reduceCtorEq, Nat.reduceLeDiff, Nat.reducePow, Int.reducePow, Int.reduceToNat, Nat.reduceAdd, g0, ht', g1, eq_false hx]
    exact ⟨_, by omega, i + 1, rfl, by omega, by simp, X3, hstep (by simp [hitN, hx])⟩
  have hA : attrP (nameK p) name Q = (bigS i 2 ++ (bigS Q.1.length 4 ++ Q.1), Q.2) := by unfold attrP; rw [hhit (by simp [hitN, ht, hx])]
  rw [hA]
  have hPi : numP (i : Int) 2 = (bigS i 2, 0) := by
    have := idxP_num (x := i) (by omega)
    rw [this]; rfl
  simp (disch := first | omega | assumption) only [C.cw_attribute_gos, vs, Go.Vc.vk, T.ts, ↓reduceIte, Nat.reduceEqDiff, reduceCtorEq, Nat.reduceLeDiff, Nat.reducePow, Int.reducePow, Int.reduceToNat, Nat.reduceAdd, g0, ht', g1, hx]
  refine eff_call_of ?_
  simp (disch := first | omega | assumption) only [C.cw_attribute_gos, vs, Go.Vc.vk, T.ts, ↓reduceIte, Nat.reduceEqDiff, reduceCtorEq, Nat.reduceLeDiff, Nat.reducePow, Int.reducePow, Int.reduceToNat, Nat.reduceAdd]
  refine (cwnum_any (i : Int) 2 (.inl rfl) (by omega) H3).mono ?_
  rintro v4 h4 ⟨H4, K4⟩
  rw [hPi, thenE_zero] at H4
  simp only at H4
  obtain ⟨_, _, hl4, vb4, blk4, own4⟩ := id H4
  obtain ⟨_, a4, c4, rfl, _⟩ := own4.slN
  have d0 : cellAt h4 ⟨g, 0, none⟩ = some (.slice a4 (b ++ bigS i 2).length c4) := by rw [cellAt_of blk4]; rfl
  simp (disch := first | omega | assumption) only [C.cw_attribute_gos, vs, Go.Vc.vk, T.ts, ↓reduceIte, Nat.reduceEqDiff, reduceCtorEq, Nat.reduceLeDiff, Nat.reducePow, Int.reducePow, Int.reduceToNat, Nat.reduceAdd, d0]
  refine eff_call_of ?_
  simp (disch := first | omega | assumption) only [C.cw_attribute_gos, vs, Go.Vc.vk, T.ts, ↓reduceIte, Nat.reduceEqDiff, reduceCtorEq, Nat.reduceLeDiff, Nat.reducePow, Int.reducePow, Int.reduceToNat, Nat.reduceAdd]
  have hP0 : numP ((0 : Nat) : Int) 4 = (bigS 0 4, 0) := by decide
  refine (cwnum_any ((0 : Nat) : Int) 4 (.inr rfl) (by rw [List.length_append, bigS_len]; omega) H4).mono ?_
  rintro v5 h5 ⟨H5, K5⟩
  rw [hP0, thenE_zero] at H5
  simp only at H5
  clear d0 own4 blk4
  simp (disch := first | omega | assumption) only [C.cw_attribute_gos, vs, Go.Vc.vk, T.ts, ↓reduceIte, Nat.reduceEqDiff, reduceCtorEq, Nat.reduceLeDiff, Nat.reducePow, Int.reducePow, Int.reduceToNat, Nat.reduceAdd]
  refine eff_call_of ?_
  simp (disch := first | omega | assumption) only [C.cw_attribute_gos, vs, Go.Vc.vk, T.ts, ↓reduceIte, Nat.reduceEqDiff, reduceCtorEq, Nat.reduceLeDiff, Nat.reducePow, Int.reducePow, Int.reduceToNat, Nat.reduceAdd]
  refine ⟨hcal, ?_⟩
  rw [Array.toArray_toList]
  have hB5 : (b ++ bigS i 2 ++ bigS 0 4).length = b.length + 6 := by simp only [List.length_append, bigS_len]
  have K35 := (K3.trans K4).trans K5
  refine (hF h5 _ _ H5 K35 (by omega)).mono ?_
  rintro v6 h6 ⟨H6, K6⟩
  obtain ⟨hg, x0, hl, vb, blk6, own6⟩ := H6
  have hB6 : (b ++ bigS i 2 ++ bigS 0 4 ++ Q.1).length = b.length + 6 + Q.1.length := by rw [List.length_append, hB5]
  obtain ⟨at', hat⟩ : ∃ n, n = (b ++ bigS i 2).length := ⟨_, rfl⟩
  have hat2 : at' = b.length + 2 := by rw [hat, List.length_append, bigS_len]
  rw [← hat]
  have hpat := pat_take (b ++ bigS i 2) (bigS 0 4) (bigS Q.1.length 4) Q.1 bigS_len bigS_len
  rw [← hat] at hpat
  generalize b ++ bigS i 2 ++ bigS 0 4 ++ Q.1 = B at *
  obtain ⟨N, hN⟩ : ∃ N, N = B.length := ⟨_, rfl⟩
  rw [← hN] at own6 hB6
  have own6' := own6
  rcases own6'.2 with ⟨_, h0'⟩ | ⟨gb, cap6, cur, fz, hv, hbg, hgb, _, hnc, _⟩
  · omega
  subst hv
  have c0 : cellAt h6 ⟨g, 0, none⟩ = some (.slice (some ⟨gb, 0, none⟩) N cap6) := by rw [cellAt_of blk6]; rfl
  have hat' : (at' : Int) ≤ (N : Int) := by omega
  have hdf : (N : Int) - (at' : Int) - 4 = ((Q.1.length : Nat) : Int) := by omega
  have hwq : IntKind.u64.wrap ((Q.1.length : Nat) : Int) = ((Q.1.length : Nat) : Int) := wrap_u64 (by omega) (by omega)
  simp (disch := first | omega | assumption) only [C.cw_attribute_gos, vs, Go.Vc.vk, T.ts, ↓reduceIte, Nat.reduceEqDiff, reduceCtorEq, Nat.reduceLeDiff, Nat.reducePow, Int.reducePow, Int.reduceToNat, Nat.reduceAdd, c0, hat', hdf, hwq, Int.toNat_natCast]
  refine eff_call_of ?_
  simp (disch := first | omega | assumption) only [C.cw_attribute_gos, vs, Go.Vc.vk, T.ts, ↓reduceIte, Nat.reduceEqDiff, reduceCtorEq, Nat.reduceLeDiff, Nat.reducePow, Int.reducePow, Int.reduceToNat, Nat.reduceAdd]
  refine (big_any Q.1.length 4 h6 (by omega) (by omega)).mono ?_
  rintro v7 h7 ⟨x7, rfl⟩
  have own7 := own6.ext x7
  have blk7 := Fr_blk x7 blk6 id
  have c07 : cellAt h7 ⟨g, 0, none⟩ = some (.slice (some ⟨gb, 0, none⟩) N cap6) := by rw [cellAt_of blk7]; rfl
  simp (disch := first | omega | assumption) only [C.cw_attribute_gos, vs, Go.Vc.vk, T.ts, ↓reduceIte, Nat.reduceEqDiff, reduceCtorEq, Nat.reduceLeDiff, Nat.reducePow, Int.reducePow, Int.reduceToNat, Nat.reduceAdd, c07, hat', Int.toNat_natCast]
  refine eff_copy_str (l := bigS Q.1.length 4) (n := N) (at' := at') T.slT_69 rfl rfl own7 (by rw [bigS_len]; omega) (by rw [bigS_len]; omega) ?_
  intro h8 f8 own8
  rw [bigS_len, hpat] at own8
  simp (disch := first | omega | assumption) only [C.cw_attribute_gos, vs, Go.Vc.vk, T.ts, ↓reduceIte, Nat.reduceEqDiff, reduceCtorEq, Nat.reduceLeDiff, Nat.reducePow, Int.reducePow, Int.reduceToNat, Nat.reduceAdd]
  have hne : gb ≠ g := by
    intro hh
    subst hh
    rw [hgb] at blk6
    simp only [Option.some.injEq, Obj.cells.injEq] at blk6
    exact absurd blk6.2.1 (by decide)
  refine ⟨⟨hg, Fr.trans (x0.trans x7) f8 (fun _ _ h => h) (fun k hk hs => by omega), hl, _, Fr_blk f8 blk7 (fun hh => hne hh.symm), Own_cast own8 ?_ (by rw [List.append_assoc])⟩, ?_⟩
  · simp only [List.length_append, bigS_len]; omega
  · refine ((K35.trans K6).trans (KeepB.ext x7)).trans ⟨f8.size, fun c cs t fz' h1' h2' h3' => Fr_blk f8 h3' (fun hh => ?_)⟩
    subst hh
    have h7b := Fr_blk x7 hgb id
    rw [h3'] at h7b
    simp only [Option.some.injEq, Obj.cells.injEq] at h7b
    exact h2' h7b.2.1
end
end Go.Proofs.Ytohkbpnblkkdgaa
