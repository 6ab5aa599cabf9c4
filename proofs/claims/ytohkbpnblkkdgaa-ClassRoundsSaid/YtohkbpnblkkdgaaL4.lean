/- class.Write: a class as bytes. -/
import Derived.Test.YtohkbpnblkkdgaaL3
import Derived.Test.YtohkbpnblkkdgaaB2
namespace Go.Proofs.Ytohkbpnblkkdgaa
open Go.Vc
set_option maxRecDepth 100000
set_option linter.unusedSimpArgs false
set_option linter.unusedVariables false

section
variable {h0 h : Heap} {g : Nat} {cc : List Value} {b : List UInt8} {e : Nat}
theorem cwW1_any (f : Fld) (wb fb : Nat) (hw : h[wb]? = some (.cells #[.pointer (some ⟨g, 0, none⟩)] 82 (0, 0))) (hf : h[fb]? = some (.cells f.cells.toArray 89 (0, 0))) (hv : f.value < 65536)
    (hb : b.length ≤ 1000000000) (H : CW h0 h g cc b e) :
    HCalls Try.prog 42 #[.pointer (some ⟨wb, 0, none⟩), .pointer (some ⟨fb, 0, none⟩)] h fun _ h' => CW h0 h' g cc (b ++ (idxP f.value).1) e ∧ KeepB h h' g := by
  refine C.class_Write_1_calls (args := [.pointer (some ⟨wb, 0, none⟩), .pointer (some ⟨fb, 0, none⟩)]) rfl ?_
  have w0 : cellAt h ⟨wb, 0, none⟩ = some (.pointer (some ⟨g, 0, none⟩)) := by rw [cellAt_of hw]; rfl
  have k3 : cellAt h ⟨fb, 3, none⟩ = some (.int .u16 (f.value : Int)) := by rw [cellAt_of hf]; rfl
  have hx : Ext h (h.push (.cells (natV [f.value]).toArray 38)) := Ext.push _ _
  simp (disch := first | omega | assumption) only [C.class_Write_1_gos, T.tv, ↓reduceIte, Nat.reduceEqDiff, reduceCtorEq, Nat.reduceLeDiff, Nat.reducePow, Int.reducePow, Int.reduceToNat, Nat.reduceAdd, w0, k3]
  refine eff_lits T.slT_39 rfl rfl (by decide) ?_
  simp (disch := first | omega | assumption) only [C.class_Write_1_gos, T.tv, ↓reduceIte, Nat.reduceEqDiff, reduceCtorEq, Nat.reduceLeDiff, Nat.reducePow, Int.reducePow, Int.reduceToNat, Nat.reduceAdd]
  refine eff_callF rfl ((cwindex_any [f.value] _ (by simpa using hv) (by simp) (by omega) (fun h' K _ => lit_keep [f.value] H.lt h' K) (H.ext hx)).mono ?_)
  intro _ h2 hp
  simp (disch := first | omega | assumption) only [C.class_Write_1_gos, T.tv, ↓reduceIte, Nat.reduceEqDiff, reduceCtorEq, Nat.reduceLeDiff, Nat.reducePow, Int.reducePow, Int.reduceToNat, Nat.reduceAdd]
  refine ⟨?_, (KeepB.ext hx).trans hp.2⟩
  have h3 := hp.1
  simpa [allP, seqP] using h3
theorem cwW2_any (p : List Cst) (vp : Value) (m : Mth) (vH : Value) (wb mb : Nat) (hw : h[wb]? = some (.cells #[.pointer (some ⟨g, 0, none⟩)] 82 (0, 0))) (hm : h[mb]? = some (.cells (MthV m vH).toArray 81 (0, 0)))
    (hp : SlN h0 5 vp p.length (flatS p)) (hcc : cc[5]? = some vp) (hpf : ∀ c ∈ p, c.Fit) (hpl : p.length ≤ 65536) (hcf : m.code.Fit) (hH : SlN h0 4 vH m.code.hs.length (flatH m.code.hs))
    (hhl : m.code.hs.length ≤ 1048576) (hbl : m.code.bytes.length ≤ 1048576) (hml : m.code.map.length ≤ 1048576) (hb : b.length ≤ 900000000) (H : CW h0 h g cc b e) :
    HCalls Try.prog 43 #[.pointer (some ⟨wb, 0, none⟩), .pointer (some ⟨mb, 0, none⟩)] h fun _ h' => CW h0 h' g cc (b ++ (cdeP (nameK p) m.code).1) (thenE e (cdeP (nameK p) m.code).2) ∧ KeepB h h' g := by
  refine C.class_Write_2_calls (args := [.pointer (some ⟨wb, 0, none⟩), .pointer (some ⟨mb, 0, none⟩)]) rfl ?_
  have w0 : cellAt h ⟨wb, 0, none⟩ = some (.pointer (some ⟨g, 0, none⟩)) := by rw [cellAt_of hw]; rfl
  have hrd : Rd h mb 4 (CdeV m.code vH) := (Rd_block (vs := MthV m vH) hm).sub 4 5
  have hld := ld_agg T.ag_79 hrd rfl
  simp (disch := first | omega | assumption) only [C.class_Write_2_gos, T.tv, ↓reduceIte, Nat.reduceEqDiff, reduceCtorEq, Nat.reduceLeDiff, Nat.reducePow, Int.reducePow, Int.reduceToNat, Nat.reduceAdd, w0, hld]
  refine eff_callF rfl ((cwcode_any p vp m.code vH hp hcc hpf hpl hcf hH hhl hbl hml hb H).mono ?_)
  intro _ h2 hp
  simp (disch := first | omega | assumption) only [C.class_Write_2_gos, T.tv, ↓reduceIte, Nat.reduceEqDiff, reduceCtorEq, Nat.reduceLeDiff, Nat.reducePow, Int.reducePow, Int.reduceToNat, Nat.reduceAdd]
  exact hp
end
section
variable {h0 h hc : Heap} {g wb cb : Nat} {cc : List Value} {b : List UInt8} {e : Nat} {cs : List Value} {t : TypeId} {P : Pce}
theorem CSt.numK (D : CSt h0 h hc g wb cc b e cb cs t P) (x : Int) (n : Nat) (hn : n = 2 ∨ n = 4) (hb : b.length + P.1.length ≤ 1000000000) :
    HCalls Try.prog 37 #[.pointer (some ⟨g, 0, none⟩), .int .i64 x, .int .i64 n] hc fun _ h' => CSt h0 h h' g wb cc b e cb cs t (seqP P (numP x n)) ∧ KeepB hc h' g :=
  (cwnum_any x n hn (by rw [List.length_append]; omega) D.w).mono fun _ _ hp => ⟨D.step hp.1 hp.2, hp.2⟩
theorem CSt.litsK (D : CSt h0 h hc g wb cc b e cb cs t P) (l : List Nat) (hl : ∀ x ∈ l, x < 65536) (hlen : l.length ≤ 1073741824) (hb : b.length + P.1.length ≤ 1000000000) :
    HCalls Try.prog 38 #[.pointer (some ⟨g, 0, none⟩), .slice (some ⟨hc.size, 0, none⟩) l.length l.length] (hc.push (.cells (natV l).toArray 38)) fun _ h' => CSt h0 h h' g wb cc b e cb cs t (seqP P (allP idxP l)) ∧ KeepB hc h' g :=
  (cwindex_any l _ hl hlen (by rw [List.length_append]; omega) (fun h' K _ => lit_keep l D.w.lt h' K) (D.ext (Ext.push _ _)).w).mono fun _ _ hp =>
    ⟨(D.ext (Ext.push _ _)).step (by rw [allP_idx_eq l, thenE_zero]; exact hp.1) hp.2, (KeepB.ext (Ext.push _ _)).trans hp.2⟩
end
theorem outP_eq (R : Pce) : outP R = if R.2 = 0 then (R.1, 0) else ([], R.2) := by
  unfold outP
  by_cases h : R.2 = 0 <;> simp [h]
set_option maxHeartbeats 8000000 in
theorem classWrite_any (c : Cls) (vp vi vf vm : Value) (h : Heap) (hC : ClsC h c vp vi vf vm) (hF : c.Fit) (hpl : c.pool.length ≤ 65536) (hpt : ∀ x ∈ c.pool, x.text.length ≤ 1073741824) (htw : textW c.pool ≤ 100000000) (hil : c.ifs.length ≤ 1048576) (hfl : c.fields.length ≤ 1048576)
    (hml : c.methods.length ≤ 1048576) (hsw : sumW c.methods ≤ 1048576) :
    HCalls Try.prog 16 #[.agg (ClsV c vp vi vf vm).toArray] h fun r h' => Ext h h' ∧ r = .tuple #[str (outP (clsP (nameK c.pool) c)).1, .int .i64 ((outP (clsP (nameK c.pool) c)).2 : Int)] := by
  refine C.class_Write_calls (args := [.agg (ClsV c vp vi vf vm).toArray]) rfl ?_
  have hCp := hC.p
  have hCi := hC.i
  have hCf := hC.f
  have hCm := hC.m
  obtain ⟨_, ap, cp, rfl, _⟩ := id hC.p
  obtain ⟨_, ai, ci, rfl, _⟩ := id hC.i
  obtain ⟨_, af, cf, rfl, _⟩ := id hC.f
  obtain ⟨am, cm, rfl⟩ : ∃ am cm, vm = .slice am c.methods.length cm := by
    obtain ⟨rows, _, ⟨_, a, cc, e, _⟩, _⟩ := hC.m
    exact ⟨a, cc, e⟩
  have hwl := writeS_le c.pool
  simp only [ClsV]
  simp (disch := first | omega | assumption) only [C.class_Write_gos, T.tv, ↓reduceIte, Nat.reduceEqDiff, reduceCtorEq, Nat.reduceLeDiff, Nat.reducePow, Int.reducePow, Int.reduceToNat, Nat.reduceAdd]
  refine eff_box ?_
  have e1 : Ext h (h.push (.cells ([.int .u16 (c.minor : Int), .int .u16 (c.major : Int), .int .u16 (c.flags : Int), .int .u16 (c.this : Int), .int .u16 (c.super : Int), .slice ap c.pool.length cp, .slice ai c.ifs.length ci, .slice af c.fields.length cf, .slice am c.methods.length cm] : List Value).toArray 43)) := Ext.push _ _
  have cb0 : (h.push (.cells ([.int .u16 (c.minor : Int), .int .u16 (c.major : Int), .int .u16 (c.flags : Int), .int .u16 (c.this : Int), .int .u16 (c.super : Int), .slice ap c.pool.length cp, .slice ai c.ifs.length ci, .slice af c.fields.length cf, .slice am c.methods.length cm] : List Value).toArray 43))[h.size]? = some (.cells ([.int .u16 (c.minor : Int), .int .u16 (c.major : Int), .int .u16 (c.flags : Int), .int .u16 (c.this : Int), .int .u16 (c.super : Int), .slice ap c.pool.length cp, .slice ai c.ifs.length ci, .slice af c.fields.length cf, .slice am c.methods.length cm] : List Value).toArray 43 (0, 0)) := by simp
  simp (disch := first | omega | assumption) only [C.class_Write_gos, T.tv, ↓reduceIte, Nat.reduceEqDiff, reduceCtorEq, Nat.reduceLeDiff, Nat.reducePow, Int.reducePow, Int.reduceToNat, Nat.reduceAdd]
  generalize h.push (.cells ([.int .u16 (c.minor : Int), .int .u16 (c.major : Int), .int .u16 (c.flags : Int), .int .u16 (c.this : Int), .int .u16 (c.super : Int), .slice ap c.pool.length cp, .slice ai c.ifs.length ci, .slice af c.fields.length cf, .slice am c.methods.length cm] : List Value).toArray 43) = h1 at *
  obtain ⟨cb, hcb⟩ : ∃ x, x = h.size := ⟨_, rfl⟩
  rw [← hcb] at cb0 ⊢
  have hld := ld_agg T.ag_43 (Rd_block (vs := [.int .u16 (c.minor : Int), .int .u16 (c.major : Int), .int .u16 (c.flags : Int), .int .u16 (c.this : Int), .int .u16 (c.super : Int), .slice ap c.pool.length cp, .slice ai c.ifs.length ci, .slice af c.fields.length cf, .slice am c.methods.length cm]) cb0) rfl
  simp (disch := first | omega | assumption) only [C.class_Write_gos, T.tv, ↓reduceIte, Nat.reduceEqDiff, reduceCtorEq, Nat.reduceLeDiff, Nat.reducePow, Int.reducePow, Int.reduceToNat, Nat.reduceAdd, hld]
  have e2 : Ext h1 (h1.push (.cells (wrV (.slice none 0 0) [.int .u16 (c.minor : Int), .int .u16 (c.major : Int), .int .u16 (c.flags : Int), .int .u16 (c.this : Int), .int .u16 (c.super : Int), .slice ap c.pool.length cp, .slice ai c.ifs.length ci, .slice af c.fields.length cf, .slice am c.methods.length cm] 0).toArray 84)) := Ext.push _ _
  have g0 : (h1.push (.cells (wrV (.slice none 0 0) [.int .u16 (c.minor : Int), .int .u16 (c.major : Int), .int .u16 (c.flags : Int), .int .u16 (c.this : Int), .int .u16 (c.super : Int), .slice ap c.pool.length cp, .slice ai c.ifs.length ci, .slice af c.fields.length cf, .slice am c.methods.length cm] 0).toArray 84))[h1.size]? = some (.cells (wrV (.slice none 0 0) [.int .u16 (c.minor : Int), .int .u16 (c.major : Int), .int .u16 (c.flags : Int), .int .u16 (c.this : Int), .int .u16 (c.super : Int), .slice ap c.pool.length cp, .slice ai c.ifs.length ci, .slice af c.fields.length cf, .slice am c.methods.length cm] 0).toArray 84 (0, 0)) := by simp
  refine eff_box ?_
  simp (disch := first | omega | assumption) only [C.class_Write_gos, T.tv, ↓reduceIte, Nat.reduceEqDiff, reduceCtorEq, Nat.reduceLeDiff, Nat.reducePow, Int.reducePow, Int.reduceToNat, Nat.reduceAdd]
  change eff _ _ _ _ _ (h1.push (.cells (wrV (.slice none 0 0) [.int .u16 (c.minor : Int), .int .u16 (c.major : Int), .int .u16 (c.flags : Int), .int .u16 (c.this : Int), .int .u16 (c.super : Int), .slice ap c.pool.length cp, .slice ai c.ifs.length ci, .slice af c.fields.length cf, .slice am c.methods.length cm] 0).toArray 84)) _
  have hg1 : h.size ≤ h1.size := e1.size
  generalize h1.push (.cells (wrV (.slice none 0 0) [.int .u16 (c.minor : Int), .int .u16 (c.major : Int), .int .u16 (c.flags : Int), .int .u16 (c.this : Int), .int .u16 (c.super : Int), .slice ap c.pool.length cp, .slice ai c.ifs.length ci, .slice af c.fields.length cf, .slice am c.methods.length cm] 0).toArray 84) = h2 at *
  generalize h1.size = g at *
  refine eff_alloc_z T.zr_82 ?_
  simp (disch := first | omega | assumption) only [C.class_Write_gos, T.tv, ↓reduceIte, Nat.reduceEqDiff, reduceCtorEq, Nat.reduceLeDiff, Nat.reducePow, Int.reducePow, Int.reduceToNat, Nat.reduceAdd]
  refine eff_store_new_z T.zr_82 rfl rfl rfl (by simp [Value.cells, oneCell]) rfl ?_
  intro h3 x3 hlt3 hrd3 b3
  change h3[h2.size]? = some (.cells #[.pointer (some ⟨g, 0, none⟩)] 82 (0, 0)) at b3
  have X3 := (e1.trans e2).trans x3
  have D : CSt h h3 h3 g h2.size [.int .u16 (c.minor : Int), .int .u16 (c.major : Int), .int .u16 (c.flags : Int), .int .u16 (c.this : Int), .int .u16 (c.super : Int), .slice ap c.pool.length cp, .slice ai c.ifs.length ci, .slice af c.fields.length cf, .slice am c.methods.length cm] [] 0 cb [.int .u16 (c.minor : Int), .int .u16 (c.major : Int), .int .u16 (c.flags : Int), .int .u16 (c.this : Int), .int .u16 (c.super : Int), .slice ap c.pool.length cp, .slice ai c.ifs.length ci, .slice af c.fields.length cf, .slice am c.methods.length cm] 43 ([], 0) :=
    ⟨⟨hg1, X3, rfl, _, Fr_blk x3 g0 id, by simpa [thenE_zero, bytesV] using (Own.nil : Own h3 h.size 5 1 (.slice none 0 0) 0 [])⟩, KeepB.refl _ _, b3, Fr_blk (e2.trans x3) cb0 id, by decide, by decide⟩
  generalize h2.size = wb at *
  clear hld e1 e2 g0 x3 hlt3 hrd3 b3 cb0
  have q1 := hF.minor
  have q2 := hF.major
  have q3 := hF.flags
  have q4 := hF.this
  have q5 := hF.super
  have w0 := D.w0
  simp (disch := first | omega | assumption) only [C.class_Write_gos, T.tv, ↓reduceIte, Nat.reduceEqDiff, reduceCtorEq, Nat.reduceLeDiff, Nat.reducePow, Int.reducePow, Int.reduceToNat, Nat.reduceAdd, w0]
  refine eff_callF rfl ((D.num (((3405691582 : Nat) : Int)) 4 (by omega) (by simp only [List.length_nil]; omega)).mono ?_)
  intro _ h4 D'
  clear D w0
  have D := D'
  clear D'
  rw [numP_len (by omega)] at D
  obtain ⟨P1, hP1⟩ : ∃ P, P = seqP ([], 0) (bigS 3405691582 4, 0) := ⟨_, rfl⟩
  have lP1 : P1.1.length ≤ 4 := by rw [hP1]; simp only [seqP, numP, idxP, allP, List.length_append, bigS_len, List.length_nil]; omega
  rw [← hP1] at D
  have k0 : cellAt h4 ⟨cb, 0, none⟩ = some (.int .u16 (c.minor : Int)) := by rw [cellAt_of D.cb]; rfl
  have k1 : cellAt h4 ⟨cb, 1, none⟩ = some (.int .u16 (c.major : Int)) := by rw [cellAt_of D.cb]; rfl
  have w0 := D.w0
  simp (disch := first | omega | assumption) only [C.class_Write_gos, T.tv, ↓reduceIte, Nat.reduceEqDiff, reduceCtorEq, Nat.reduceLeDiff, Nat.reducePow, Int.reducePow, Int.reduceToNat, Nat.reduceAdd, w0, k0, k1]
  refine eff_lits T.slT_39 rfl rfl (by decide) ?_
  simp (disch := first | omega | assumption) only [C.class_Write_gos, T.tv, ↓reduceIte, Nat.reduceEqDiff, reduceCtorEq, Nat.reduceLeDiff, Nat.reducePow, Int.reducePow, Int.reduceToNat, Nat.reduceAdd]
  refine eff_callF rfl ((D.lits [c.minor, c.major] (by simp only [List.mem_cons, List.not_mem_nil, or_false]; rintro x (rfl | rfl) <;> assumption) (by simp) (by simp only [List.length_nil]; omega)).mono ?_)
  intro _ h5 D'
  clear D w0
  have D := D'
  clear D'
  obtain ⟨P2, hP2⟩ : ∃ P, P = seqP P1 (allP idxP [c.minor, c.major]) := ⟨_, rfl⟩
  have lP2 : P2.1.length ≤ 8 := by rw [hP2]; simp only [seqP, numP, idxP, allP, List.length_append, bigS_len, List.length_nil]; omega
  rw [← hP2] at D
  clear k0 k1
  have k0 : cellAt h5 ⟨cb, 0, none⟩ = some (.int .u16 (c.minor : Int)) := by rw [cellAt_of D.cb]; rfl
  have k1 : cellAt h5 ⟨cb, 1, none⟩ = some (.int .u16 (c.major : Int)) := by rw [cellAt_of D.cb]; rfl
  have D5' := D
  have hjoin0 : ∀ (h7 : Heap) (P3 : Pce) (x36 x47 : Value), CSt h h3 h7 g wb [.int .u16 (c.minor : Int), .int .u16 (c.major : Int), .int .u16 (c.flags : Int), .int .u16 (c.this : Int), .int .u16 (c.super : Int), .slice ap c.pool.length cp, .slice ai c.ifs.length ci, .slice af c.fields.length cf, .slice am c.methods.length cm] [] 0 cb [.int .u16 (c.minor : Int), .int .u16 (c.major : Int), .int .u16 (c.flags : Int), .int .u16 (c.this : Int), .int .u16 (c.super : Int), .slice ap c.pool.length cp, .slice ai c.ifs.length ci, .slice af c.fields.length cf, .slice am c.methods.length cm] 43 P3 → P3.1.length ≤ 8 → (∀ R : Pce, seqP P3 (seqP ((writeS c.pool).1, 0) R) = seqP (bigS 3405691582 4, 0) (seqP (allP idxP [c.minor, c.major]) (seqP ([], verE c) (seqP ((writeS c.pool).1, (writeS c.pool).2.1) R)))) →
      Cd.vc Try.prog C.class_Write_t0 (retQ Try.prog [(2, none), (3, none)] fun r h' => Ext h h' ∧ r = .tuple #[str (outP (clsP (nameK c.pool) c)).1, .int .i64 ((outP (clsP (nameK c.pool) c)).2 : Int)]) [(0, .agg ([.int .u16 (c.minor : Int), .int .u16 (c.major : Int), .int .u16 (c.flags : Int), .int .u16 (c.this : Int), .int .u16 (c.super : Int), .slice ap c.pool.length cp, .slice ai c.ifs.length ci, .slice af c.fields.length cf, .slice am c.methods.length cm] : List Value).toArray), (1, .pointer (some ⟨cb, 0, none⟩)), (2, str []), (3, .int .i64 0), (4, .pointer (some ⟨wb, 0, none⟩)), (5, str (writeS c.pool).1), (6, .int .i64 ((writeS c.pool).2.1 : Int)), (9, undef), (11, undef), (36, x36), (47, x47), (84, undef), (85, undef), (86, undef), (87, undef), (101, undef), (116, undef), (117, undef), (118, undef), (119, undef), (133, undef), (148, undef)] h7 := by
    clear D
    intro h7 P3 x36 x47 D lP3 hfin
    rw [C.class_Write_t0_go]
    have w0 := D.w0
    obtain ⟨hg, x0, hl, vb, hblk, own⟩ := id D.w
    have c0 : cellAt h7 ⟨g, 0, none⟩ = some vb := by rw [cellAt_of hblk]; rfl
    simp (disch := first | omega | assumption) only [C.class_Write_gos, T.tv, ↓reduceIte, Nat.reduceEqDiff, reduceCtorEq, Nat.reduceLeDiff, Nat.reducePow, Int.reducePow, Int.reduceToNat, Nat.reduceAdd, w0, c0]
    refine eff_append_str (l := (writeS c.pool).1) T.slT_69 Try.underlying9 rfl rfl own (by simp only [List.length_append, List.length_nil]; omega) (by simp only [List.length_append, List.length_nil]; omega) x0.size ?_
    intro v6 h8 own6 fr6
    obtain ⟨c06, z06, W6, K6⟩ := CW.app hg x0 hl hblk own own6 fr6
    have w6 := Fr_blk fr6 D.wb (Own_ne own D.wb (by decide))
    have w06 : cellAt h8 ⟨wb, 0, none⟩ = some (.pointer (some ⟨g, 0, none⟩)) := by rw [cellAt_of w6]; rfl
    obtain ⟨a6, c6, rfl, _⟩ := own6.slN.2
    simp (disch := first | omega | assumption) only [C.class_Write_gos, T.tv, ↓reduceIte, Nat.reduceEqDiff, reduceCtorEq, Nat.reduceLeDiff, Nat.reducePow, Int.reducePow, Int.reduceToNat, Nat.reduceAdd, w06]
    refine eff_store1_z T.zr_69 rfl rfl rfl rfl rfl c06 z06 ?_
    simp only [List.nil_append] at W6 K6
    have D4 := D.step (Q := ((writeS c.pool).1, 0)) (by rw [thenE_zero]; simpa only [List.nil_append] using W6) K6
    generalize setAt h8 ⟨g, 0, none⟩ _ = h9 at *
    clear W6 K6 own6 fr6 w6 w06 c06 z06 own hblk c0 w0 D
    obtain ⟨P4, hP4⟩ : ∃ P, P = seqP P3 ((writeS c.pool).1, 0) := ⟨_, rfl⟩
    have lP4 : P4.1.length ≤ 150000000 := by rw [hP4]; simp only [seqP, numP, idxP, allP, List.length_append, bigS_len, List.length_nil]; omega
    rw [← hP4] at D4
    have k2 : cellAt h9 ⟨cb, 2, none⟩ = some (.int .u16 (c.flags : Int)) := by rw [cellAt_of D4.cb]; rfl
    have k3 : cellAt h9 ⟨cb, 3, none⟩ = some (.int .u16 (c.this : Int)) := by rw [cellAt_of D4.cb]; rfl
    have k4 : cellAt h9 ⟨cb, 4, none⟩ = some (.int .u16 (c.super : Int)) := by rw [cellAt_of D4.cb]; rfl
    have w0 := D4.w0
    simp (disch := first | omega | assumption) only [C.class_Write_gos, T.tv, ↓reduceIte, Nat.reduceEqDiff, reduceCtorEq, Nat.reduceLeDiff, Nat.reducePow, Int.reducePow, Int.reduceToNat, Nat.reduceAdd, w0, k2, k3, k4]
    refine eff_lits T.slT_39 rfl rfl (by decide) ?_
    simp (disch := first | omega | assumption) only [C.class_Write_gos, T.tv, ↓reduceIte, Nat.reduceEqDiff, reduceCtorEq, Nat.reduceLeDiff, Nat.reducePow, Int.reducePow, Int.reduceToNat, Nat.reduceAdd]
    refine eff_callF rfl ((D4.lits [c.flags, c.this, c.super] (by simp only [List.mem_cons, List.not_mem_nil, or_false]; rintro x (rfl | rfl | rfl) <;> assumption) (by simp) (by simp only [seqP, List.length_append, List.length_nil, bigS_len]; omega)).mono ?_)
    rintro _ ha D5
    clear w0
    clear k2 k3 k4 D4
    obtain ⟨P5, hP5⟩ : ∃ P, P = seqP P4 (allP idxP [c.flags, c.this, c.super]) := ⟨_, rfl⟩
    have lP5 : P5.1.length ≤ 150000006 := by rw [hP5]; simp only [seqP, numP, idxP, allP, List.length_append, bigS_len, List.length_nil]; omega
    rw [← hP5] at D5
    have k6 : cellAt ha ⟨cb, 6, none⟩ = some (.slice ai c.ifs.length ci) := by rw [cellAt_of D5.cb]; rfl
    have w0 := D5.w0
    simp (disch := first | omega | assumption) only [C.class_Write_gos, T.tv, ↓reduceIte, Nat.reduceEqDiff, reduceCtorEq, Nat.reduceLeDiff, Nat.reducePow, Int.reducePow, Int.reduceToNat, Nat.reduceAdd, w0, k6]
    refine eff_callF rfl ((D5.num ((c.ifs.length : Int)) 2 (by omega) (by simp only [seqP, List.length_append, List.length_nil, bigS_len]; omega)).mono ?_)
    rintro _ hb D6
    clear w0
    clear k6 D5
    obtain ⟨P6, hP6⟩ : ∃ P, P = seqP P5 (numP (c.ifs.length : Int) 2) := ⟨_, rfl⟩
    have lP6 : P6.1.length ≤ 150000008 := by rw [hP6]; simp only [seqP, numP, idxP, allP, List.length_append, bigS_len, List.length_nil]; omega
    rw [← hP6] at D6
    have k6 : cellAt hb ⟨cb, 6, none⟩ = some (.slice ai c.ifs.length ci) := by rw [cellAt_of D6.cb]; rfl
    have w0 := D6.w0
    simp (disch := first | omega | assumption) only [C.class_Write_gos, T.tv, ↓reduceIte, Nat.reduceEqDiff, reduceCtorEq, Nat.reduceLeDiff, Nat.reducePow, Int.reducePow, Int.reduceToNat, Nat.reduceAdd, w0, k6]
    refine eff_callF rfl ((D6.index c.ifs _ hF.ifs (by omega) (by simp only [List.length_nil]; omega) (fun h' _ X => hCi.ext (by decide) X)).mono ?_)
    rintro _ hc D7
    clear w0 k6 D6
    have hil2 := (allP_idx c.ifs).2
    obtain ⟨P7, hP7⟩ : ∃ P, P = seqP P6 (allP idxP c.ifs) := ⟨_, rfl⟩
    have lP7 : P7.1.length ≤ 160000000 := by rw [hP7]; simp only [seqP, numP, idxP, allP, List.length_append, bigS_len, List.length_nil]; omega
    rw [← hP7] at D7
    have k7 : cellAt hc ⟨cb, 7, none⟩ = some (.slice af c.fields.length cf) := by rw [cellAt_of D7.cb]; rfl
    have w0 := D7.w0
    simp (disch := first | omega | assumption) only [C.class_Write_gos, T.tv, ↓reduceIte, Nat.reduceEqDiff, reduceCtorEq, Nat.reduceLeDiff, Nat.reducePow, Int.reducePow, Int.reduceToNat, Nat.reduceAdd, w0, k7]
    refine eff_callF rfl ((D7.num ((c.fields.length : Int)) 2 (by omega) (by simp only [seqP, List.length_append, List.length_nil, bigS_len]; omega)).mono ?_)
    rintro _ hd D8
    clear w0
    clear k7 D7
    obtain ⟨P8, hP8⟩ : ∃ P, P = seqP P7 (numP (c.fields.length : Int) 2) := ⟨_, rfl⟩
    have lP8 : P8.1.length ≤ 160000002 := by rw [hP8]; simp only [seqP, numP, idxP, allP, List.length_append, bigS_len, List.length_nil]; omega
    rw [← hP8] at D8
    have k7 : cellAt hd ⟨cb, 7, none⟩ = some (.slice af c.fields.length cf) := by rw [cellAt_of D8.cb]; rfl
    simp (disch := first | omega | assumption) only [C.class_Write_gos, T.tv, ↓reduceIte, Nat.reduceEqDiff, reduceCtorEq, Nat.reduceLeDiff, Nat.reducePow, Int.reducePow, Int.reduceToNat, Nat.reduceAdd, k7]
    refine loop_intro [1, 4, 84, 85, 86] (fun m ρ hx => ∃ i : Nat, m = c.fields.length - i ∧ i ≤ c.fields.length ∧ ρ = [(1, .pointer (some ⟨cb, 0, none⟩)), (4, .pointer (some ⟨wb, 0, none⟩)), (84, .slice af c.fields.length cf), (85, .int .i64 c.fields.length), (86, .int .i64 i)] ∧
        CSt h h3 hx g wb [.int .u16 (c.minor : Int), .int .u16 (c.major : Int), .int .u16 (c.flags : Int), .int .u16 (c.this : Int), .int .u16 (c.super : Int), .slice ap c.pool.length cp, .slice ai c.ifs.length ci, .slice af c.fields.length cf, .slice am c.methods.length cm] [] 0 cb [.int .u16 (c.minor : Int), .int .u16 (c.major : Int), .int .u16 (c.flags : Int), .int .u16 (c.this : Int), .int .u16 (c.super : Int), .slice ap c.pool.length cp, .slice ai c.ifs.length ci, .slice af c.fields.length cf, .slice am c.methods.length cm] 43 (seqP P8 (allP (fldP (nameK c.pool)) (c.fields.take i)))) ?_ ?_
    · simp (disch := first | omega | assumption) only [C.class_Write_gos, T.tv, ↓reduceIte, Nat.reduceEqDiff, reduceCtorEq, Nat.reduceLeDiff, Nat.reducePow, Int.reducePow, Int.reduceToNat, Nat.reduceAdd]
      exact ⟨_, 0, rfl, Nat.zero_le _, rfl, by simpa [allP, seqP_nil] using D8⟩
    clear D8 k7
    rintro m ρ hx ⟨i, rfl, hi, rfl, D⟩
    rcases Nat.lt_or_ge i c.fields.length with hlt | hge
    case inl =>
      have hlt' : (i : Int) < c.fields.length := by omega
      obtain ⟨bb, o, c', heq, hrd, _⟩ := (hCf.ext (by decide) D.w.2.1).at hlt
      cases heq
      rw [flatF_at hlt] at hrd
      have hst := take_snocD Fld.zero hlt
      have hfit := hF.fields (c.fields.getD i Fld.zero) (by simp [hlt])
      have hPl : (seqP P8 (allP (fldP (nameK c.pool)) (c.fields.take i))).1.length ≤ 190000000 := by
        have h1 := allF_len (nameK c.pool) (c.fields.take i)
        have h2 : (c.fields.take i).length ≤ c.fields.length := by simp; omega
        simp only [seqP, List.length_append]; omega
      have hnext : seqP P8 (allP (fldP (nameK c.pool)) (c.fields.take (i + 1))) = seqP (seqP P8 (allP (fldP (nameK c.pool)) (c.fields.take i))) (fldP (nameK c.pool) (c.fields.getD i Fld.zero)) := by rw [hst, allP_snoc, seqP_assoc]
      generalize c.fields.getD i Fld.zero = x at *
      obtain ⟨f1, f2, f3, f4⟩ := x
      obtain ⟨r1, r2, r3, r4⟩ := hfit
      simp only at r1 r2 r3 r4
      simp only [Fld.cells] at hrd
      have hld := ld_agg T.ag_89 hrd rfl
      generalize seqP P8 (allP (fldP (nameK c.pool)) (c.fields.take i)) = Pf at *
      simp (disch := first | omega | assumption) only [C.class_Write_gos, T.tv, ↓reduceIte, Nat.reduceEqDiff, reduceCtorEq, Nat.reduceLeDiff, Nat.reducePow, Int.reducePow, Int.reduceToNat, Nat.reduceAdd, hlt', hld]
      refine eff_alloc_z T.zr_89 ?_
      simp (disch := first | omega | assumption) only [C.class_Write_gos, T.tv, ↓reduceIte, Nat.reduceEqDiff, reduceCtorEq, Nat.reduceLeDiff, Nat.reducePow, Int.reducePow, Int.reduceToNat, Nat.reduceAdd]
      refine eff_store_new_z T.zr_89 rfl rfl rfl (by simp [Value.cells, oneCell]) rfl ?_
      intro hz xz hltz hrdz bz
      change hz[hx.size]? = some (.cells (Fld.cells ⟨f1, f2, f3, f4⟩).toArray 89 (0, 0)) at bz
      have Da := D.ext xz
      clear hld hrdz hrd D hltz xz
      generalize hx.size = q at *
      have k0 : cellAt hz ⟨q, 0, none⟩ = some (.int .u16 (f1 : Int)) := by rw [cellAt_of bz]; rfl
      have k1 : cellAt hz ⟨q, 1, none⟩ = some (.int .u16 (f2 : Int)) := by rw [cellAt_of bz]; rfl
      have k2 : cellAt hz ⟨q, 2, none⟩ = some (.int .u16 (f3 : Int)) := by rw [cellAt_of bz]; rfl
      have w0 := Da.w0
      simp (disch := first | omega | assumption) only [C.class_Write_gos, T.tv, ↓reduceIte, Nat.reduceEqDiff, reduceCtorEq, Nat.reduceLeDiff, Nat.reducePow, Int.reducePow, Int.reduceToNat, Nat.reduceAdd, w0, k0, k1, k2]
      refine eff_lits T.slT_39 rfl rfl (by decide) ?_
      simp (disch := first | omega | assumption) only [C.class_Write_gos, T.tv, ↓reduceIte, Nat.reduceEqDiff, reduceCtorEq, Nat.reduceLeDiff, Nat.reducePow, Int.reducePow, Int.reduceToNat, Nat.reduceAdd]
      refine eff_callF rfl ((Da.litsK [f1, f2, f3] (by simp only [List.mem_cons, List.not_mem_nil, or_false]; rintro x (rfl | rfl | rfl) <;> assumption) (by simp) (by simp only [seqP, List.length_append, List.length_nil, bigS_len]; omega)).mono ?_)
      rintro _ hy ⟨Db, K'⟩
      clear w0
      have by' := K'.blk bz (Da.w.ty bz (by decide)) (by decide)
      have k3 : cellAt hy ⟨q, 3, none⟩ = some (.int .u16 (f4 : Int)) := by rw [cellAt_of by']; rfl
      have lb : (seqP Pf (allP idxP [f1, f2, f3])).1.length ≤ 190000006 := by simp only [seqP, idxP, allP, List.length_append, bigS_len, List.length_nil]; omega
      clear k0 k1 k2 K' Da bz
      have hN0 : numP ((0 : Nat) : Int) 2 = (bigS 0 2, 0) := by decide
      have hN1 : numP ((1 : Nat) : Int) 2 = (bigS 1 2, 0) := by decide
      by_cases h4 : f4 = 0
      · have h4' : (f4 : Int) = 0 := by omega
        have hfp : fldP (nameK c.pool) ⟨f1, f2, f3, f4⟩ = seqP (allP idxP [f1, f2, f3]) (bigS 0 2, 0) := by unfold fldP; rw [if_pos h4]
        have w0 := Db.w0
        simp (disch := first | omega | assumption) only [C.class_Write_gos, T.tv, ↓reduceIte, Nat.reduceEqDiff, reduceCtorEq, Nat.reduceLeDiff, Nat.reducePow, Int.reducePow, Int.reduceToNat, Nat.reduceAdd, k3, eq_true h4', w0]
        refine eff_callF rfl ((Db.num ((0 : Nat) : Int) 2 (by omega) (by simp only [List.length_nil]; omega)).mono ?_)
        rintro _ hw Dc
        rw [hN0, seqP_assoc, ← hfp, ← hnext] at Dc
        simp (disch := first | omega | assumption) only [C.class_Write_gos, T.tv, ↓reduceIte, Nat.reduceEqDiff, reduceCtorEq, Nat.reduceLeDiff, Nat.reducePow, Int.reducePow, Int.reduceToNat, Nat.reduceAdd]
        exact ⟨_, by omega, i + 1, rfl, by omega, by simp, Dc⟩
      · have h4' : ¬ (f4 : Int) = 0 := by omega
        have hfp : fldP (nameK c.pool) ⟨f1, f2, f3, f4⟩ = seqP (allP idxP [f1, f2, f3]) (seqP (bigS 1 2, 0) (attrP (nameK c.pool) cvN (idxP f4))) := by unfold fldP; rw [if_neg h4]
        have w0 := Db.w0
        simp (disch := first | omega | assumption) only [C.class_Write_gos, T.tv, ↓reduceIte, Nat.reduceEqDiff, reduceCtorEq, Nat.reduceLeDiff, Nat.reducePow, Int.reducePow, Int.reduceToNat, Nat.reduceAdd, k3, eq_false h4', w0]
        refine eff_callF rfl ((Db.numK ((1 : Nat) : Int) 2 (by omega) (by simp only [List.length_nil]; omega)).mono ?_)
        rintro _ hw ⟨Dc, K'⟩
        rw [hN1] at Dc
        have bw := K'.blk by' (Db.w.ty by' (by decide)) (by decide)
        have w0c := Dc.w0
        clear w0 Db
        simp (disch := first | omega | assumption) only [C.class_Write_gos, T.tv, ↓reduceIte, Nat.reduceEqDiff, reduceCtorEq, Nat.reduceLeDiff, Nat.reducePow, Int.reducePow, Int.reduceToNat, Nat.reduceAdd, w0c]
        refine eff_callF rfl ((cwattr_any c.pool _ cvN 42 #[.pointer (some ⟨wb, 0, none⟩), .pointer (some ⟨q, 0, none⟩)] (idxP f4) (by decide +kernel) hCp rfl hF.pool (by omega) (by simp only [seqP, idxP, List.length_append, bigS_len, List.length_nil] at lb ⊢; omega) ?_ Dc.w).mono ?_)
        · intro h10 b1 e1 H1 K1 hb1
          refine (cwW1_any ⟨f1, f2, f3, f4⟩ wb q (K1.blk Dc.wb (Dc.w.ty Dc.wb (by decide)) (by decide)) (K1.blk bw (Dc.w.ty bw (by decide)) (by decide)) r4 (by simp only [seqP, idxP, List.length_append, bigS_len, List.length_nil] at lb hb1; omega) H1).mono ?_
          intro _ h11 hp11
          simp only [idxP, thenE_zero] at hp11 ⊢
          exact hp11
        · intro _ h10 hp10
          simp (disch := first | omega | assumption) only [C.class_Write_gos, T.tv, ↓reduceIte, Nat.reduceEqDiff, reduceCtorEq, Nat.reduceLeDiff, Nat.reducePow, Int.reducePow, Int.reduceToNat, Nat.reduceAdd]
          have Dd := Dc.step hp10.1 hp10.2
          rw [seqP_assoc, seqP_assoc, ← hfp, ← hnext] at Dd
          exact ⟨_, by omega, i + 1, rfl, by omega, by simp, Dd⟩
    have hlt' : ¬ (i : Int) < c.fields.length := by omega
    rw [List.take_of_length_le hge] at D
    have hal := allF_len (nameK c.pool) c.fields
    clear hge hi
    obtain ⟨P9, hP9⟩ : ∃ P, P = seqP P8 (allP (fldP (nameK c.pool)) c.fields) := ⟨_, rfl⟩
    have lP9 : P9.1.length ≤ 190000000 := by rw [hP9]; simp only [seqP, numP, idxP, allP, List.length_append, bigS_len, List.length_nil]; omega
    rw [← hP9] at D
    have k8 : cellAt hx ⟨cb, 8, none⟩ = some (.slice am c.methods.length cm) := by rw [cellAt_of D.cb]; rfl
    have w0 := D.w0
    simp (disch := first | omega | assumption) only [C.class_Write_gos, T.tv, ↓reduceIte, Nat.reduceEqDiff, reduceCtorEq, Nat.reduceLeDiff, Nat.reducePow, Int.reducePow, Int.reduceToNat, Nat.reduceAdd, w0, hlt', k8]
    refine eff_callF rfl ((D.num ((c.methods.length : Int)) 2 (by omega) (by simp only [seqP, List.length_append, List.length_nil, bigS_len]; omega)).mono ?_)
    rintro _ hm Da
    clear w0
    clear k8 D
    obtain ⟨Pa, hPa⟩ : ∃ P, P = seqP P9 (numP (c.methods.length : Int) 2) := ⟨_, rfl⟩
    have lPa : Pa.1.length ≤ 190000002 := by rw [hPa]; simp only [seqP, numP, idxP, allP, List.length_append, bigS_len, List.length_nil]; omega
    rw [← hPa] at Da
    have k8 : cellAt hm ⟨cb, 8, none⟩ = some (.slice am c.methods.length cm) := by rw [cellAt_of Da.cb]; rfl
    simp (disch := first | omega | assumption) only [C.class_Write_gos, T.tv, ↓reduceIte, Nat.reduceEqDiff, reduceCtorEq, Nat.reduceLeDiff, Nat.reducePow, Int.reducePow, Int.reduceToNat, Nat.reduceAdd, k8]
    refine loop_intro [1, 4, 116, 117, 118] (fun m ρ hx => ∃ i : Nat, m = c.methods.length - i ∧ i ≤ c.methods.length ∧ ρ = [(1, .pointer (some ⟨cb, 0, none⟩)), (4, .pointer (some ⟨wb, 0, none⟩)), (116, .slice am c.methods.length cm), (117, .int .i64 c.methods.length), (118, .int .i64 i)] ∧
        CSt h h3 hx g wb [.int .u16 (c.minor : Int), .int .u16 (c.major : Int), .int .u16 (c.flags : Int), .int .u16 (c.this : Int), .int .u16 (c.super : Int), .slice ap c.pool.length cp, .slice ai c.ifs.length ci, .slice af c.fields.length cf, .slice am c.methods.length cm] [] 0 cb [.int .u16 (c.minor : Int), .int .u16 (c.major : Int), .int .u16 (c.flags : Int), .int .u16 (c.this : Int), .int .u16 (c.super : Int), .slice ap c.pool.length cp, .slice ai c.ifs.length ci, .slice af c.fields.length cf, .slice am c.methods.length cm] 43 (seqP Pa (allP (mthP (nameK c.pool)) (c.methods.take i)))) ?_ ?_
    · simp (disch := first | omega | assumption) only [C.class_Write_gos, T.tv, ↓reduceIte, Nat.reduceEqDiff, reduceCtorEq, Nat.reduceLeDiff, Nat.reducePow, Int.reducePow, Int.reduceToNat, Nat.reduceAdd]
      exact ⟨_, 0, rfl, Nat.zero_le _, rfl, by simpa [allP, seqP_nil] using Da⟩
    clear Da k8 hlt' i
    rintro m ρ hx ⟨i, rfl, hi, rfl, D⟩
    rcases Nat.lt_or_ge i c.methods.length with hlt | hge
    case inl =>
      have hlt' : (i : Int) < c.methods.length := by omega
      obtain ⟨bb, o, c', vH, heq, hrd, hH, _⟩ := hCm.at hlt
      cases heq
      have hrd := fun j v hv => cell_ext D.w.2.1 (hrd j v hv)
      change Rd hx _ _ _ at hrd
      have hst := take_snocD Mth.zero hlt
      have hfit := hF.methods (c.methods.getD i Mth.zero) (by simp [hlt])
      have hmw := sumW_get hlt
      have hPl : (seqP Pa (allP (mthP (nameK c.pool)) (c.methods.take i))).1.length ≤ 290000000 := by
        have h1 := allM_len (nameK c.pool) (c.methods.take i)
        have h2 : (c.methods.take i).length ≤ c.methods.length := by simp; omega
        have h3 := sumW_take c.methods i
        simp only [seqP, List.length_append]; omega
      have hnext : seqP Pa (allP (mthP (nameK c.pool)) (c.methods.take (i + 1))) = seqP (seqP Pa (allP (mthP (nameK c.pool)) (c.methods.take i))) (mthP (nameK c.pool) (c.methods.getD i Mth.zero)) := by rw [hst, allP_snoc, seqP_assoc]
      generalize c.methods.getD i Mth.zero = x at *
      obtain ⟨f1, f2, f3, fh, fc⟩ := x
      obtain ⟨r1, r2, r3, r4⟩ := hfit
      simp only at r1 r2 r3 r4 hH
      simp only [mW] at hmw
      obtain ⟨_, aH, cH, rfl, _⟩ := id hH
      have hld := ld_agg T.ag_81 hrd rfl
      simp only [MthV, CdeV, List.cons_append, List.nil_append] at hld
      generalize seqP Pa (allP (mthP (nameK c.pool)) (c.methods.take i)) = Pf at *
      simp (disch := first | omega | assumption) only [C.class_Write_gos, T.tv, ↓reduceIte, Nat.reduceEqDiff, reduceCtorEq, Nat.reduceLeDiff, Nat.reducePow, Int.reducePow, Int.reduceToNat, Nat.reduceAdd, hlt', hld]
      refine eff_alloc_z T.zr_81 ?_
      simp (disch := first | omega | assumption) only [C.class_Write_gos, T.tv, ↓reduceIte, Nat.reduceEqDiff, reduceCtorEq, Nat.reduceLeDiff, Nat.reducePow, Int.reducePow, Int.reduceToNat, Nat.reduceAdd]
      refine eff_store_new_z T.zr_81 rfl rfl rfl (by simp [Value.cells, oneCell, str]) rfl ?_
      intro hz xz hltz hrdz bz
      change hz[hx.size]? = some (.cells (MthV ⟨f1, f2, f3, fh, fc⟩ (.slice aH fc.hs.length cH)).toArray 81 (0, 0)) at bz
      have Da := D.ext xz
      clear hld hrdz hrd D hltz xz
      generalize hx.size = q at *
      have k0 : cellAt hz ⟨q, 0, none⟩ = some (.int .u16 (f1 : Int)) := by rw [cellAt_of bz]; rfl
      have k1 : cellAt hz ⟨q, 1, none⟩ = some (.int .u16 (f2 : Int)) := by rw [cellAt_of bz]; rfl
      have k2 : cellAt hz ⟨q, 2, none⟩ = some (.int .u16 (f3 : Int)) := by rw [cellAt_of bz]; rfl
      have w0 := Da.w0
      simp (disch := first | omega | assumption) only [C.class_Write_gos, T.tv, ↓reduceIte, Nat.reduceEqDiff, reduceCtorEq, Nat.reduceLeDiff, Nat.reducePow, Int.reducePow, Int.reduceToNat, Nat.reduceAdd, w0, k0, k1, k2]
      refine eff_lits T.slT_39 rfl rfl (by decide) ?_
      simp (disch := first | omega | assumption) only [C.class_Write_gos, T.tv, ↓reduceIte, Nat.reduceEqDiff, reduceCtorEq, Nat.reduceLeDiff, Nat.reducePow, Int.reducePow, Int.reduceToNat, Nat.reduceAdd]
      refine eff_callF rfl ((Da.litsK [f1, f2, f3] (by simp only [List.mem_cons, List.not_mem_nil, or_false]; rintro x (rfl | rfl | rfl) <;> assumption) (by simp) (by simp only [seqP, List.length_append, List.length_nil, bigS_len]; omega)).mono ?_)
      rintro _ hy ⟨Db, K'⟩
      clear w0
      have by' := K'.blk bz (Da.w.ty bz (by decide)) (by decide)
      have k3 : cellAt hy ⟨q, 3, none⟩ = some (.bool fh) := by rw [cellAt_of by']; rfl
      have lb : (seqP Pf (allP idxP [f1, f2, f3])).1.length ≤ 290000006 := by simp only [seqP, idxP, allP, List.length_append, bigS_len, List.length_nil]; omega
      clear k0 k1 k2 K' Da bz
      have hN0 : numP ((0 : Nat) : Int) 2 = (bigS 0 2, 0) := by decide
      have hN1 : numP ((1 : Nat) : Int) 2 = (bigS 1 2, 0) := by decide
      cases fh with
      | false =>
        have hfp : mthP (nameK c.pool) ⟨f1, f2, f3, false, fc⟩ = seqP (allP idxP [f1, f2, f3]) (bigS 0 2, 0) := by unfold mthP; rw [if_neg (by simp)]
        have w0 := Db.w0
        simp (disch := first | omega | assumption) only [C.class_Write_gos, T.tv, ↓reduceIte, Nat.reduceEqDiff, reduceCtorEq, Nat.reduceLeDiff, Nat.reducePow, Int.reducePow, Int.reduceToNat, Nat.reduceAdd, k3, w0]
        refine eff_callF rfl ((Db.num ((0 : Nat) : Int) 2 (by omega) (by simp only [List.length_nil]; omega)).mono ?_)
        rintro _ hw Dc
        rw [hN0, seqP_assoc, ← hfp, ← hnext] at Dc
        simp (disch := first | omega | assumption) only [C.class_Write_gos, T.tv, ↓reduceIte, Nat.reduceEqDiff, reduceCtorEq, Nat.reduceLeDiff, Nat.reducePow, Int.reducePow, Int.reduceToNat, Nat.reduceAdd]
        exact ⟨_, by omega, i + 1, rfl, by omega, by simp, Dc⟩
      | true =>
        have hfp : mthP (nameK c.pool) ⟨f1, f2, f3, true, fc⟩ = seqP (allP idxP [f1, f2, f3]) (seqP (bigS 1 2, 0) (attrP (nameK c.pool) cdN (cdeP (nameK c.pool) fc))) := by unfold mthP; rw [if_pos rfl]
        have hcl := cdeP_len (nameK c.pool) fc
        have w0 := Db.w0
        simp (disch := first | omega | assumption) only [C.class_Write_gos, T.tv, ↓reduceIte, Nat.reduceEqDiff, reduceCtorEq, Nat.reduceLeDiff, Nat.reducePow, Int.reducePow, Int.reduceToNat, Nat.reduceAdd, k3, w0]
        refine eff_callF rfl ((Db.numK ((1 : Nat) : Int) 2 (by omega) (by simp only [List.length_nil]; omega)).mono ?_)
        rintro _ hw ⟨Dc, K'⟩
        rw [hN1] at Dc
        have bw := K'.blk by' (Db.w.ty by' (by decide)) (by decide)
        have w0c := Dc.w0
        clear w0 Db
        simp (disch := first | omega | assumption) only [C.class_Write_gos, T.tv, ↓reduceIte, Nat.reduceEqDiff, reduceCtorEq, Nat.reduceLeDiff, Nat.reducePow, Int.reducePow, Int.reduceToNat, Nat.reduceAdd, w0c]
        refine eff_callF rfl ((cwattr_any c.pool _ cdN 43 #[.pointer (some ⟨wb, 0, none⟩), .pointer (some ⟨q, 0, none⟩)] (cdeP (nameK c.pool) fc) (by decide +kernel) hCp rfl hF.pool (by omega) (by simp only [seqP, idxP, List.length_append, bigS_len, List.length_nil] at lb ⊢; omega) ?_ Dc.w).mono ?_)
        · intro h10 b1 e1 H1 K1 hb1
          refine (cwW2_any c.pool _ ⟨f1, f2, f3, true, fc⟩ (.slice aH fc.hs.length cH) wb q (K1.blk Dc.wb (Dc.w.ty Dc.wb (by decide)) (by decide)) (K1.blk bw (Dc.w.ty bw (by decide)) (by decide)) hCp rfl hF.pool (by omega) r4 hH (by simp only; omega) (by simp only; omega) (by simp only; omega) (by simp only [seqP, idxP, List.length_append, bigS_len, List.length_nil] at lb hb1; omega) H1).mono ?_
          intro _ h11 hp11
          exact hp11
        · intro _ h10 hp10
          simp (disch := first | omega | assumption) only [C.class_Write_gos, T.tv, ↓reduceIte, Nat.reduceEqDiff, reduceCtorEq, Nat.reduceLeDiff, Nat.reducePow, Int.reducePow, Int.reduceToNat, Nat.reduceAdd]
          have Dd := Dc.step hp10.1 hp10.2
          rw [seqP_assoc, seqP_assoc, ← hfp, ← hnext] at Dd
          exact ⟨_, by omega, i + 1, rfl, by omega, by simp, Dd⟩
    have hlt' : ¬ (i : Int) < c.methods.length := by omega
    rw [List.take_of_length_le hge] at D
    have hal2 := allM_len (nameK c.pool) c.methods
    obtain ⟨Pb, hPb⟩ : ∃ P, P = seqP Pa (allP (mthP (nameK c.pool)) c.methods) := ⟨_, rfl⟩
    have lPb : Pb.1.length ≤ 290000000 := by rw [hPb]; simp only [seqP, numP, idxP, allP, List.length_append, bigS_len, List.length_nil]; omega
    rw [← hPb] at D
    have w0 := D.w0
    simp (disch := first | omega | assumption) only [C.class_Write_gos, T.tv, ↓reduceIte, Nat.reduceEqDiff, reduceCtorEq, Nat.reduceLeDiff, Nat.reducePow, Int.reducePow, Int.reduceToNat, Nat.reduceAdd, w0, hlt']
    refine eff_callF rfl ((D.num (((0 : Nat) : Int)) 2 (by omega) (by simp only [seqP, List.length_append, List.length_nil, bigS_len]; omega)).mono ?_)
    rintro _ hn De
    clear w0
    clear D
    have hN0 : numP ((0 : Nat) : Int) 2 = (bigS 0 2, 0) := by decide
    rw [hN0] at De
    have hcls : clsP (nameK c.pool) c = seqP Pb (bigS 0 2, 0) := by
      unfold clsP
      rw [← hfin, hPb, hPa, hP9, hP8, hP7, hP6, hP5, hP4]
      simp only [seqP_assoc]
    rw [← hcls] at De
    have hout := outP_eq (clsP (nameK c.pool) c)
    generalize clsP (nameK c.pool) c = R at *
    obtain ⟨RB, RE⟩ := R
    obtain ⟨hg, x0, hl, vb, hblk, own⟩ := id De.w
    rw [thenE_z] at hblk
    rw [List.nil_append] at own
    simp only at hblk own hout
    have w0 := De.w0
    have c0 : cellAt hn ⟨g, 0, none⟩ = some vb := by rw [cellAt_of hblk]; rfl
    have c10 : cellAt hn ⟨g, 10, none⟩ = some (.int .i64 (RE : Int)) := by rw [cellAt_of hblk]; exact wrV_err hl
    by_cases hR : RE = 0
    · have hR' : (RE : Int) = 0 := by omega
      rw [if_pos hR] at hout
      rw [hout]
      simp (disch := first | omega | assumption) only [C.class_Write_gos, T.tv, ↓reduceIte, Nat.reduceEqDiff, reduceCtorEq, Nat.reduceLeDiff, Nat.reducePow, Int.reducePow, Int.reduceToNat, Nat.reduceAdd, w0, c10, eq_true hR', c0, T.cvo_69_9 own]
      first | exact x0 | exact ⟨x0, rfl⟩
    · have hR' : ¬ (RE : Int) = 0 := by omega
      rw [if_neg hR] at hout
      rw [hout]
      simp (disch := first | omega | assumption) only [C.class_Write_gos, T.tv, ↓reduceIte, Nat.reduceEqDiff, reduceCtorEq, Nat.reduceLeDiff, Nat.reducePow, Int.reducePow, Int.reduceToNat, Nat.reduceAdd, w0, c10, eq_false hR']
      first | exact x0 | exact ⟨x0, rfl⟩
  have hjoin1 : ∀ (h6 : Heap) (x36 : Value), CSt h h3 h6 g wb [.int .u16 (c.minor : Int), .int .u16 (c.major : Int), .int .u16 (c.flags : Int), .int .u16 (c.this : Int), .int .u16 (c.super : Int), .slice ap c.pool.length cp, .slice ai c.ifs.length ci, .slice af c.fields.length cf, .slice am c.methods.length cm] [] 0 cb [.int .u16 (c.minor : Int), .int .u16 (c.major : Int), .int .u16 (c.flags : Int), .int .u16 (c.this : Int), .int .u16 (c.super : Int), .slice ap c.pool.length cp, .slice ai c.ifs.length ci, .slice af c.fields.length cf, .slice am c.methods.length cm] 43 (seqP P2 ([], verE c)) →
      Cd.vc Try.prog C.class_Write_t1 (retQ Try.prog [(2, none), (3, none)] fun r h' => Ext h h' ∧ r = .tuple #[str (outP (clsP (nameK c.pool) c)).1, .int .i64 ((outP (clsP (nameK c.pool) c)).2 : Int)]) [(0, .agg ([.int .u16 (c.minor : Int), .int .u16 (c.major : Int), .int .u16 (c.flags : Int), .int .u16 (c.this : Int), .int .u16 (c.super : Int), .slice ap c.pool.length cp, .slice ai c.ifs.length ci, .slice af c.fields.length cf, .slice am c.methods.length cm] : List Value).toArray), (1, .pointer (some ⟨cb, 0, none⟩)), (2, str []), (3, .int .i64 0), (4, .pointer (some ⟨wb, 0, none⟩)), (5, undef), (6, undef), (9, undef), (11, undef), (36, x36), (47, undef), (84, undef), (85, undef), (86, undef), (87, undef), (101, undef), (116, undef), (117, undef), (118, undef), (119, undef), (133, undef), (148, undef)] h6 := by
    intro h6 x36 D
    rw [C.class_Write_t1_go]
    have k5 : cellAt h6 ⟨cb, 5, none⟩ = some (.slice ap c.pool.length cp) := by rw [cellAt_of D.cb]; rfl
    simp (disch := first | omega | assumption) only [C.class_Write_gos, T.tv, ↓reduceIte, Nat.reduceEqDiff, reduceCtorEq, Nat.reduceLeDiff, Nat.reducePow, Int.reducePow, Int.reduceToNat, Nat.reduceAdd, k5]
    refine eff_callF rfl ((write_any c.pool _ h6 (hCp.ext (by decide) D.w.2.1) hF.pool hpt (by omega)).mono ?_)
    rintro _ h7 ⟨x7, rfl⟩
    have D7 := D.ext x7
    have lP3 : (seqP (seqP P2 ([], verE c)) ([], (writeS c.pool).2.1)).1.length ≤ 8 := by simp only [seqP, List.length_append, List.length_nil]; omega
    have hfin : ∀ R : Pce, seqP (seqP (seqP P2 ([], verE c)) ([], (writeS c.pool).2.1)) (seqP ((writeS c.pool).1, 0) R) = seqP (bigS 3405691582 4, 0) (seqP (allP idxP [c.minor, c.major]) (seqP ([], verE c) (seqP ((writeS c.pool).1, (writeS c.pool).2.1) R))) := by
      intro R
      rw [hP2, hP1]
      have h1 : seqP ([], (writeS c.pool).2.1) (seqP ((writeS c.pool).1, 0) R) = seqP ((writeS c.pool).1, (writeS c.pool).2.1) R := by simp [seqP, thenE_z]
      simp only [seqP_assoc, nilP_seq, h1]
    unfold wV
    by_cases hw : (writeS c.pool).2.1 = 0
    · have hw' : ((writeS c.pool).2.1 : Int) = 0 := by omega
      simp (disch := first | omega | assumption) only [C.class_Write_gos, T.tv, ↓reduceIte, Nat.reduceEqDiff, reduceCtorEq, Nat.reduceLeDiff, Nat.reducePow, Int.reducePow, Int.reduceToNat, Nat.reduceAdd, eq_true hw']
      refine hjoin0 h7 _ _ _ ?_ lP3 hfin
      rw [hw, seqP_nil]; exact D7
    · have hw' : ¬ ((writeS c.pool).2.1 : Int) = 0 := by omega
      have w0 := D7.w0
      simp (disch := first | omega | assumption) only [C.class_Write_gos, T.tv, ↓reduceIte, Nat.reduceEqDiff, reduceCtorEq, Nat.reduceLeDiff, Nat.reducePow, Int.reducePow, Int.reduceToNat, Nat.reduceAdd, eq_false hw', w0]
      refine eff_callF rfl ((D7.fail (writeS c.pool).2.1).mono ?_)
      intro _ h8 D8
      simp (disch := first | omega | assumption) only [C.class_Write_gos, T.tv, ↓reduceIte, Nat.reduceEqDiff, reduceCtorEq, Nat.reduceLeDiff, Nat.reducePow, Int.reducePow, Int.reduceToNat, Nat.reduceAdd]
      exact hjoin0 h8 _ _ _ D8 lP3 hfin
  have hver : (c.major = 50 ∨ c.major = 51) ∧ c.minor = 0 ∨ ¬ ((c.major = 50 ∨ c.major = 51) ∧ c.minor = 0) := Classical.em _
  refine Or.elim hver (fun hver => ?ca) (fun hver => ?cb)
  case' ca =>
    have hvE : verE c = 0 := by unfold verE; rw [if_neg (by omega)]
    have m0 : (c.minor : Int) = 0 := by omega
    obtain ⟨h6, hh6⟩ : ∃ h6, h6 = h5 := ⟨_, rfl⟩
    have D' : CSt h h3 h6 g wb [.int .u16 (c.minor : Int), .int .u16 (c.major : Int), .int .u16 (c.flags : Int), .int .u16 (c.this : Int), .int .u16 (c.super : Int), .slice ap c.pool.length cp, .slice ai c.ifs.length ci, .slice af c.fields.length cf, .slice am c.methods.length cm] [] 0 cb [.int .u16 (c.minor : Int), .int .u16 (c.major : Int), .int .u16 (c.flags : Int), .int .u16 (c.this : Int), .int .u16 (c.super : Int), .slice ap c.pool.length cp, .slice ai c.ifs.length ci, .slice af c.fields.length cf, .slice am c.methods.length cm] 43 (seqP P2 ([], verE c)) := by rw [hh6, hvE, seqP_nil]; exact D
    rcases hver.1 with h50 | h51
    case' inl =>
      have m1 : (c.major : Int) = 50 := by omega
      simp (disch := first | omega | assumption) only [C.class_Write_gos, T.tv, ↓reduceIte, Nat.reduceEqDiff, reduceCtorEq, Nat.reduceLeDiff, Nat.reducePow, Int.reducePow, Int.reduceToNat, Nat.reduceAdd, k0, k1, eq_true m1, eq_true m0]
    case' inr =>
      have m1 : (c.major : Int) = 51 := by omega
      have m2 : ¬ (c.major : Int) = 50 := by omega
      simp (disch := first | omega | assumption) only [C.class_Write_gos, T.tv, ↓reduceIte, Nat.reduceEqDiff, reduceCtorEq, Nat.reduceLeDiff, Nat.reducePow, Int.reducePow, Int.reduceToNat, Nat.reduceAdd, k0, k1, eq_false m2, eq_true m1, eq_true m0]
    all_goals
      rw [← hh6]
      clear D k0 k1 hh6
      have D := D'
      clear D'
  case' cb =>
    have hvE : verE c = 4 := by unfold verE; rw [if_pos (by omega)]
    have w0 := D.w0
    by_cases h50 : c.major = 50 ∨ c.major = 51
    case' pos =>
      have m0 : ¬ (c.minor : Int) = 0 := by omega
      rcases h50 with h50 | h51
      case' inl =>
        have m1 : (c.major : Int) = 50 := by omega
        simp (disch := first | omega | assumption) only [C.class_Write_gos, T.tv, ↓reduceIte, Nat.reduceEqDiff, reduceCtorEq, Nat.reduceLeDiff, Nat.reducePow, Int.reducePow, Int.reduceToNat, Nat.reduceAdd, k0, k1, eq_true m1, eq_false m0, w0]
      case' inr =>
        have m1 : (c.major : Int) = 51 := by omega
        have m2 : ¬ (c.major : Int) = 50 := by omega
        simp (disch := first | omega | assumption) only [C.class_Write_gos, T.tv, ↓reduceIte, Nat.reduceEqDiff, reduceCtorEq, Nat.reduceLeDiff, Nat.reducePow, Int.reducePow, Int.reduceToNat, Nat.reduceAdd, k0, k1, eq_false m2, eq_true m1, eq_false m0, w0]
    case' neg =>
      have m1 : ¬ (c.major : Int) = 50 := by omega
      have m2 : ¬ (c.major : Int) = 51 := by omega
      simp (disch := first | omega | assumption) only [C.class_Write_gos, T.tv, ↓reduceIte, Nat.reduceEqDiff, reduceCtorEq, Nat.reduceLeDiff, Nat.reducePow, Int.reducePow, Int.reduceToNat, Nat.reduceAdd, k0, k1, eq_false m1, eq_false m2, w0]
    all_goals
      refine eff_callF rfl ((D.fail 4).mono ?_)
      intro _ h6 D'
      clear D k0 k1 w0
      have D : CSt h h3 h6 g wb [.int .u16 (c.minor : Int), .int .u16 (c.major : Int), .int .u16 (c.flags : Int), .int .u16 (c.this : Int), .int .u16 (c.super : Int), .slice ap c.pool.length cp, .slice ai c.ifs.length ci, .slice af c.fields.length cf, .slice am c.methods.length cm] [] 0 cb [.int .u16 (c.minor : Int), .int .u16 (c.major : Int), .int .u16 (c.flags : Int), .int .u16 (c.this : Int), .int .u16 (c.super : Int), .slice ap c.pool.length cp, .slice ai c.ifs.length ci, .slice af c.fields.length cf, .slice am c.methods.length cm] 43 (seqP P2 ([], verE c)) := by rw [hvE]; exact D'
      clear D'
  all_goals
    first | (exact hjoin1 _ _ D; done) | (simp (disch := first | omega | assumption) only [C.class_Write_gos, T.tv, ↓reduceIte, Nat.reduceEqDiff, reduceCtorEq, Nat.reduceLeDiff, Nat.reducePow, Int.reducePow, Int.reduceToNat, Nat.reduceAdd]; exact hjoin1 _ _ D)
end Go.Proofs.Ytohkbpnblkkdgaa
