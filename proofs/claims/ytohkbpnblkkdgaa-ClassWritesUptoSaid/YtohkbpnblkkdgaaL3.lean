/- The writer of classes: code. -/
import Derived.Test.YtohkbpnblkkdgaaL2
namespace Go.Proofs.Ytohkbpnblkkdgaa
open Go.Vc
set_option maxRecDepth 100000
set_option linter.unusedSimpArgs false
set_option linter.unusedVariables false

section
variable {h0 h : Heap} {g : Nat} {cc : List Value} {b : List UInt8} {e : Nat}
theorem CW.seq {P Q : Pce} (H : CW h0 h g cc (b ++ P.1 ++ Q.1) (thenE (thenE e P.2) Q.2)) : CW h0 h g cc (b ++ (seqP P Q).1) (thenE e (seqP P Q).2) := by
  simpa [seqP, thenE_assoc] using H
theorem CW.seq0 {P : Pce} {x : List UInt8} (H : CW h0 h g cc (b ++ P.1 ++ x) (thenE e P.2)) : CW h0 h g cc (b ++ (seqP P (x, 0)).1) (thenE e (seqP P (x, 0)).2) := by
  simpa [seqP, thenE_zero] using H
theorem numP_len {n : Nat} (hn : n < 4294967296) : numP (n : Int) 4 = (bigS n 4, 0) := by
  unfold numP
  rw [atU_nat (by omega), if_neg (by have : (256 : Nat) ^ 4 = 4294967296 := by decide
                                     omega)]
theorem numP_one (x : Int) (n : Nat) : (numP x n).1.length = n := bigS_len
/-- A list of indexes that was just written out. -/
theorem lit_keep (l : List Nat) (hg : g < h.size) : ∀ h', KeepB (h.push (.cells (natV l).toArray 38)) h' g → SlN h' 1 (.slice (some ⟨h.size, 0, none⟩) l.length l.length) l.length (natV l) := by
  intro h' K
  have hb : (h.push (.cells (natV l).toArray 38))[h.size]? = some (.cells (natV l).toArray 38 (0, 0)) := by simp
  have hb' := K.blk hb (by omega) (by decide)
  exact ⟨by simp [natV], _, _, rfl, .inr ⟨_, _, rfl, Rd_block hb'⟩⟩
set_option maxHeartbeats 1000000 in
theorem cwcode1_any (c : Cde) (vH : Value) (wb cb : Nat) (hw : h[wb]? = some (.cells #[.pointer (some ⟨g, 0, none⟩)] 82 (0, 0))) (hc : h[cb]? = some (.cells (CdeV c vH).toArray 79 (0, 0)))
    (hb : b.length + c.map.length ≤ 1000000000) (H : CW h0 h g cc b e) :
    HCalls Try.prog 74 #[.pointer (some ⟨wb, 0, none⟩), .pointer (some ⟨cb, 0, none⟩)] h fun _ h' => CW h0 h' g cc (b ++ c.map) e ∧ KeepB h h' g := by
  refine C.cw_code_1_calls (args := [.pointer (some ⟨wb, 0, none⟩), .pointer (some ⟨cb, 0, none⟩)]) rfl ?_
  have w0 : cellAt h ⟨wb, 0, none⟩ = some (.pointer (some ⟨g, 0, none⟩)) := by rw [cellAt_of hw]; rfl
  have k4 : cellAt h ⟨cb, 4, none⟩ = some (str c.map) := by rw [cellAt_of hc]; rfl
  have hwg := H.ty hw (by decide)
  obtain ⟨hg, x0, hl, vb, hblk, own⟩ := H
  have c0 : cellAt h ⟨g, 0, none⟩ = some vb := by rw [cellAt_of hblk]; rfl
  simp (disch := first | omega | assumption) only [C.cw_code_1_gos, vs, Go.Vc.vk, T.ts, ↓reduceIte, Nat.reduceEqDiff, reduceCtorEq, Nat.reduceLeDiff, Nat.reducePow, Int.reducePow, Int.reduceToNat, Nat.reduceAdd, w0, k4, c0]
  refine eff_append_str (l := c.map) T.slT_69 Try.underlying9 rfl rfl own (by omega) (by omega) x0.size ?_
  intro v2 h2 own2 fr2
  obtain ⟨c02, z02, W2, K2⟩ := CW.app hg x0 hl hblk own own2 fr2
  have w2 := Fr_blk fr2 hw (Own_ne own hw (by decide))
  have w02 : cellAt h2 ⟨wb, 0, none⟩ = some (.pointer (some ⟨g, 0, none⟩)) := by rw [cellAt_of w2]; rfl
  obtain ⟨a2, c2, rfl, _⟩ := own2.slN.2
  simp (disch := first | omega | assumption) only [C.cw_code_1_gos, vs, Go.Vc.vk, T.ts, ↓reduceIte, Nat.reduceEqDiff, reduceCtorEq, Nat.reduceLeDiff, Nat.reducePow, Int.reducePow, Int.reduceToNat, Nat.reduceAdd, w02]
  refine eff_store1_z T.zr_69 rfl rfl rfl rfl rfl c02 z02 ?_
  simp (disch := first | omega | assumption) only [C.cw_code_1_gos, vs, Go.Vc.vk, T.ts, ↓reduceIte, Nat.reduceEqDiff, reduceCtorEq, Nat.reduceLeDiff, Nat.reducePow, Int.reducePow, Int.reduceToNat, Nat.reduceAdd]
  exact ⟨W2, K2⟩
/-- While parts of a class are written: the writer, its variable, the variable of what is written. -/
structure CSt (h0 h hc : Heap) (g wb : Nat) (cc : List Value) (b : List UInt8) (e : Nat) (cb : Nat) (cs : List Value) (t : TypeId) (P : Pce) : Prop where
  w : CW h0 hc g cc (b ++ P.1) (thenE e P.2)
  k : KeepB h hc g
  wb : hc[wb]? = some (.cells #[.pointer (some ⟨g, 0, none⟩)] 82 (0, 0))
  cb : hc[cb]? = some (.cells cs.toArray t (0, 0))
  t1 : t ≠ 5
  t2 : t ≠ 84
section
variable {hc h' : Heap} {wb cb : Nat} {cs : List Value} {t : TypeId} {P Q : Pce}
theorem CSt.w0 (D : CSt h0 h hc g wb cc b e cb cs t P) : cellAt hc ⟨wb, 0, none⟩ = some (.pointer (some ⟨g, 0, none⟩)) := by rw [cellAt_of D.wb]; rfl
theorem CSt.step (D : CSt h0 h hc g wb cc b e cb cs t P) (W : CW h0 h' g cc (b ++ P.1 ++ Q.1) (thenE (thenE e P.2) Q.2)) (K : KeepB hc h' g) : CSt h0 h h' g wb cc b e cb cs t (seqP P Q) :=
  ⟨W.seq, D.k.trans K, K.blk D.wb (D.w.ty D.wb (by decide)) (by decide), K.blk D.cb (D.w.ty D.cb D.t2) D.t1, D.t1, D.t2⟩
theorem CSt.ext (D : CSt h0 h hc g wb cc b e cb cs t P) (x : Ext hc h') : CSt h0 h h' g wb cc b e cb cs t P :=
  ⟨D.w.ext x, D.k.trans (KeepB.ext x), Fr_blk x D.wb id, Fr_blk x D.cb id, D.t1, D.t2⟩
theorem CSt.num (D : CSt h0 h hc g wb cc b e cb cs t P) (x : Int) (n : Nat) (hn : n = 2 ∨ n = 4) (hb : b.length + P.1.length ≤ 1000000000) :
    HCalls Try.prog 37 #[.pointer (some ⟨g, 0, none⟩), .int .i64 x, .int .i64 n] hc fun _ h' => CSt h0 h h' g wb cc b e cb cs t (seqP P (numP x n)) :=
  (cwnum_any x n hn (by rw [List.length_append]; omega) D.w).mono fun _ _ hp => D.step hp.1 hp.2
theorem CSt.fail (D : CSt h0 h hc g wb cc b e cb cs t P) (q : Nat) :
    HCalls Try.prog 39 #[.pointer (some ⟨g, 0, none⟩), .int .i64 q] hc fun _ h' => CSt h0 h h' g wb cc b e cb cs t (seqP P ([], q)) :=
  (cwfail_any q D.w).mono fun _ _ hp => D.step (by rw [List.append_nil]; exact hp.1) hp.2
theorem allP_idx_eq (l : List Nat) : allP idxP l = ((allP idxP l).1, 0) := by
  have := (allP_idx l).1
  exact Prod.ext rfl this
theorem CSt.index (D : CSt h0 h hc g wb cc b e cb cs t P) (l : List Nat) (vi : Value) (hl : ∀ x ∈ l, x < 65536) (hlen : l.length ≤ 1073741824) (hb : b.length + P.1.length ≤ 1000000000) (hS : ∀ h', KeepB hc h' g → Ext h0 h' → SlN h' 1 vi l.length (natV l)) :
    HCalls Try.prog 38 #[.pointer (some ⟨g, 0, none⟩), vi] hc fun _ h' => CSt h0 h h' g wb cc b e cb cs t (seqP P (allP idxP l)) :=
  (cwindex_any l vi hl hlen (by rw [List.length_append]; omega) hS D.w).mono fun _ _ hp => D.step (by rw [allP_idx_eq l, thenE_zero]; exact hp.1) hp.2
/-- The indexes of a list that is written out. -/
theorem CSt.lits (D : CSt h0 h hc g wb cc b e cb cs t P) (l : List Nat) (hl : ∀ x ∈ l, x < 65536) (hlen : l.length ≤ 1073741824) (hb : b.length + P.1.length ≤ 1000000000) :
    HCalls Try.prog 38 #[.pointer (some ⟨g, 0, none⟩), .slice (some ⟨hc.size, 0, none⟩) l.length l.length] (hc.push (.cells (natV l).toArray 38)) fun _ h' => CSt h0 h h' g wb cc b e cb cs t (seqP P (allP idxP l)) :=
  (D.ext (Ext.push _ _)).index l _ hl hlen hb fun h' K _ => lit_keep l D.w.lt h' K
end
theorem flatH_at {l : List Hnd} {i : Nat} (hi : i < l.length) : ((flatH l).drop (i * 4)).take 4 = (l.getD i Hnd.zero).cells := flat_at Hnd.cells 4 (fun _ => rfl) Hnd.zero hi
set_option maxHeartbeats 8000000 in
theorem cwcode_any (p : List Cst) (vp : Value) (c : Cde) (vH : Value) (hp : SlN h0 5 vp p.length (flatS p)) (hcc : cc[5]? = some vp) (hpf : ∀ c ∈ p, c.Fit) (hpl : p.length ≤ 65536) (hcf : c.Fit) (hH : SlN h0 4 vH c.hs.length (flatH c.hs))
    (hhl : c.hs.length ≤ 1048576) (hbl : c.bytes.length ≤ 1048576) (hml : c.map.length ≤ 1048576) (hb : b.length ≤ 900000000) (H : CW h0 h g cc b e) :
    HCalls Try.prog 44 #[.pointer (some ⟨g, 0, none⟩), .agg (CdeV c vH).toArray] h fun _ h' => CW h0 h' g cc (b ++ (cdeP (nameK p) c).1) (thenE e (cdeP (nameK p) c).2) ∧ KeepB h h' g := by
  refine C.cw_code_calls (args := [.pointer (some ⟨g, 0, none⟩), .agg (CdeV c vH).toArray]) rfl ?_
  have hH' := hH
  obtain ⟨_, aH, cH, rfl, _⟩ := hH'
  have hgs := H.lt
  simp only [CdeV]
  simp (disch := first | omega | assumption) only [C.cw_code_gos, vs, Go.Vc.vk, T.ts, ↓reduceIte, Nat.reduceEqDiff, reduceCtorEq, Nat.reduceLeDiff, Nat.reducePow, Int.reducePow, Int.reduceToNat, Nat.reduceAdd]
  refine eff_box ?_
  simp (disch := first | omega | assumption) only [C.cw_code_gos, vs, Go.Vc.vk, T.ts, ↓reduceIte, Nat.reduceEqDiff, reduceCtorEq, Nat.reduceLeDiff, Nat.reducePow, Int.reducePow, Int.reduceToNat, Nat.reduceAdd]
  have e1 : Ext h (h.push (.cells #[.pointer (some ⟨g, 0, none⟩)] 82)) := Ext.push _ _
  have wb0 : (h.push (.cells #[.pointer (some ⟨g, 0, none⟩)] 82))[h.size]? = some (.cells #[.pointer (some ⟨g, 0, none⟩)] 82 (0, 0)) := by simp
  generalize h.push (.cells #[.pointer (some ⟨g, 0, none⟩)] 82) = h1 at *
  generalize h.size = wb at *
  refine eff_box ?_
  have e2 : Ext h1 (h1.push (.cells (CdeV c (.slice aH c.hs.length cH)).toArray 79)) := Ext.push _ _
  have cb0 : (h1.push (.cells (CdeV c (.slice aH c.hs.length cH)).toArray 79))[h1.size]? = some (.cells (CdeV c (.slice aH c.hs.length cH)).toArray 79 (0, 0)) := by simp
  have D0 : CSt h0 h (h1.push (.cells (CdeV c (.slice aH c.hs.length cH)).toArray 79)) g wb cc b e h1.size (CdeV c (.slice aH c.hs.length cH)) 79 ([], 0) :=
    ⟨by simpa [thenE_zero] using H.ext (e1.trans e2), KeepB.ext (e1.trans e2), Fr_blk e2 wb0 id, cb0, by decide, by decide⟩
  simp (disch := first | omega | assumption) only [C.cw_code_gos, vs, Go.Vc.vk, T.ts, ↓reduceIte, Nat.reduceEqDiff, reduceCtorEq, Nat.reduceLeDiff, Nat.reducePow, Int.reducePow, Int.reduceToNat, Nat.reduceAdd]
  clear e1 e2 wb0 cb0
  simp only [CdeV] at D0
  change CSt h0 h (h1.push (.cells #[.int .i64 c.maxS, .int .i64 c.maxL, str c.bytes, .slice aH c.hs.length cH, str c.map] 79)) g wb cc b e h1.size _ _ _ at D0
  generalize h1.push (.cells #[.int .i64 c.maxS, .int .i64 c.maxL, str c.bytes, .slice aH c.hs.length cH, str c.map] 79) = h2 at *
  generalize h1.size = cb at *
  have w0 := D0.w0
  have kx : cellAt h2 ⟨cb, 0, none⟩ = some (.int .i64 c.maxS) := by rw [cellAt_of D0.cb]; rfl
  simp (disch := first | omega | assumption) only [C.cw_code_gos, vs, Go.Vc.vk, T.ts, ↓reduceIte, Nat.reduceEqDiff, reduceCtorEq, Nat.reduceLeDiff, Nat.reducePow, Int.reducePow, Int.reduceToNat, Nat.reduceAdd, w0, kx]
  refine eff_call_of ?_
  simp (disch := first | omega | assumption) only [C.cw_code_gos, vs, Go.Vc.vk, T.ts, ↓reduceIte, Nat.reduceEqDiff, reduceCtorEq, Nat.reduceLeDiff, Nat.reducePow, Int.reducePow, Int.reduceToNat, Nat.reduceAdd]
  refine (D0.num (c.maxS) 2 (by omega) (by simp only [seqP, numP, List.length_append, bigS_len, List.length_nil]; omega)).mono ?_
  intro _ h3 D1
  clear w0 kx
  have w0 := D1.w0
  have kx : cellAt h3 ⟨cb, 1, none⟩ = some (.int .i64 c.maxL) := by rw [cellAt_of D1.cb]; rfl
  simp (disch := first | omega | assumption) only [C.cw_code_gos, vs, Go.Vc.vk, T.ts, ↓reduceIte, Nat.reduceEqDiff, reduceCtorEq, Nat.reduceLeDiff, Nat.reducePow, Int.reducePow, Int.reduceToNat, Nat.reduceAdd, w0, kx]
  refine eff_call_of ?_
  simp (disch := first | omega | assumption) only [C.cw_code_gos, vs, Go.Vc.vk, T.ts, ↓reduceIte, Nat.reduceEqDiff, reduceCtorEq, Nat.reduceLeDiff, Nat.reducePow, Int.reducePow, Int.reduceToNat, Nat.reduceAdd]
  refine (D1.num (c.maxL) 2 (by omega) (by simp only [seqP, numP, List.length_append, bigS_len, List.length_nil]; omega)).mono ?_
  intro _ h4 D2
  clear w0 kx
  have w0 := D2.w0
  have kx : cellAt h4 ⟨cb, 2, none⟩ = some (str c.bytes) := by rw [cellAt_of D2.cb]; rfl
  simp (disch := first | omega | assumption) only [C.cw_code_gos, vs, Go.Vc.vk, T.ts, ↓reduceIte, Nat.reduceEqDiff, reduceCtorEq, Nat.reduceLeDiff, Nat.reducePow, Int.reducePow, Int.reduceToNat, Nat.reduceAdd, w0, kx]
  refine eff_call_of ?_
  simp (disch := first | omega | assumption) only [C.cw_code_gos, vs, Go.Vc.vk, T.ts, ↓reduceIte, Nat.reduceEqDiff, reduceCtorEq, Nat.reduceLeDiff, Nat.reducePow, Int.reducePow, Int.reduceToNat, Nat.reduceAdd]
  refine (D2.num ((c.bytes.length : Int)) 4 (by omega) (by simp only [seqP, numP, List.length_append, bigS_len, List.length_nil]; omega)).mono ?_
  intro _ h5 D3
  clear w0 kx
  rw [numP_len (by omega)] at D3
  have w0 := D3.w0
  have kx : cellAt h5 ⟨cb, 2, none⟩ = some (str c.bytes) := by rw [cellAt_of D3.cb]; rfl
  obtain ⟨hg, x0, hl, vb, hblk, own⟩ := id D3.w
  have c0 : cellAt h5 ⟨g, 0, none⟩ = some vb := by rw [cellAt_of hblk]; rfl
  simp (disch := first | omega | assumption) only [C.cw_code_gos, vs, Go.Vc.vk, T.ts, ↓reduceIte, Nat.reduceEqDiff, reduceCtorEq, Nat.reduceLeDiff, Nat.reducePow, Int.reducePow, Int.reduceToNat, Nat.reduceAdd, w0, kx, c0]
  refine eff_append_str (l := c.bytes) T.slT_69 Try.underlying9 rfl rfl own (by simp only [seqP, numP, List.length_append, bigS_len, List.length_nil]; omega) (by simp only [seqP, numP, List.length_append, bigS_len, List.length_nil]; omega) x0.size ?_
  intro v6 h6 own6 fr6
  obtain ⟨c06, z06, W6, K6⟩ := CW.app hg x0 hl hblk own own6 fr6
  have w6 := Fr_blk fr6 D3.wb (Own_ne own D3.wb (by decide))
  have w06 : cellAt h6 ⟨wb, 0, none⟩ = some (.pointer (some ⟨g, 0, none⟩)) := by rw [cellAt_of w6]; rfl
  obtain ⟨a6, c6, rfl, _⟩ := own6.slN.2
  simp (disch := first | omega | assumption) only [C.cw_code_gos, vs, Go.Vc.vk, T.ts, ↓reduceIte, Nat.reduceEqDiff, reduceCtorEq, Nat.reduceLeDiff, Nat.reducePow, Int.reducePow, Int.reduceToNat, Nat.reduceAdd, w06]
  refine eff_store1_z T.zr_69 rfl rfl rfl rfl rfl c06 z06 ?_
  have D4 := D3.step (Q := (c.bytes, 0)) (by rw [thenE_zero]; exact W6) K6
  generalize setAt h6 ⟨g, 0, none⟩ _ = h7 at *
  clear W6 K6 own6 fr6 w6 w06 c06 z06 own hblk c0 kx w0 D3 D2 D1 D0
  have w0 := D4.w0
  have kx : cellAt h7 ⟨cb, 3, none⟩ = some (.slice aH c.hs.length cH) := by rw [cellAt_of D4.cb]; rfl
  simp (disch := first | omega | assumption) only [C.cw_code_gos, vs, Go.Vc.vk, T.ts, ↓reduceIte, Nat.reduceEqDiff, reduceCtorEq, Nat.reduceLeDiff, Nat.reducePow, Int.reducePow, Int.reduceToNat, Nat.reduceAdd, w0, kx]
  refine eff_call_of ?_
  simp (disch := first | omega | assumption) only [C.cw_code_gos, vs, Go.Vc.vk, T.ts, ↓reduceIte, Nat.reduceEqDiff, reduceCtorEq, Nat.reduceLeDiff, Nat.reducePow, Int.reducePow, Int.reduceToNat, Nat.reduceAdd]
  refine (D4.num ((c.hs.length : Int)) 2 (by omega) (by simp only [seqP, numP, List.length_append, bigS_len, List.length_nil]; omega)).mono ?_
  intro _ h8 D5
  clear w0 kx
  obtain ⟨P5, hP5⟩ : ∃ P5, P5 = seqP (seqP (seqP (seqP (seqP ([], 0) (numP c.maxS 2)) (numP c.maxL 2)) (bigS c.bytes.length 4, 0)) (c.bytes, 0)) (numP (c.hs.length : Int) 2) := ⟨_, rfl⟩
  have hP5l : P5.1.length ≤ 1048600 := by rw [hP5]; simp only [seqP, numP, List.length_append, bigS_len, List.length_nil]; omega
  rw [← hP5] at D5
  have kx : cellAt h8 ⟨cb, 3, none⟩ = some (.slice aH c.hs.length cH) := by rw [cellAt_of D5.cb]; rfl
  simp (disch := first | omega | assumption) only [C.cw_code_gos, vs, Go.Vc.vk, T.ts, ↓reduceIte, Nat.reduceEqDiff, reduceCtorEq, Nat.reduceLeDiff, Nat.reducePow, Int.reducePow, Int.reduceToNat, Nat.reduceAdd, kx]
  clear D4 kx
  refine loop_intro [0, 1, 2, 3, 35, 36, 37] (fun m ρ hc => ∃ i : Nat, m = c.hs.length - i ∧ i ≤ c.hs.length ∧ ρ = [(0, .pointer (some ⟨g, 0, none⟩)), (1, .agg #[.int .i64 c.maxS, .int .i64 c.maxL, str c.bytes, .slice aH c.hs.length cH, str c.map]), (2, .pointer (some ⟨wb, 0, none⟩)), (3, .pointer (some ⟨cb, 0, none⟩)), (35, .slice aH c.hs.length cH), (36, .int .i64 c.hs.length), (37, .int .i64 i)] ∧
      CSt h0 h hc g wb cc b e cb [.int .i64 c.maxS, .int .i64 c.maxL, str c.bytes, .slice aH c.hs.length cH, str c.map] 79 (seqP P5 (allP hndP (c.hs.take i)))) ?_ ?_
  · simp (disch := first | omega | assumption) only [C.cw_code_gos, vs, Go.Vc.vk, T.ts, ↓reduceIte, Nat.reduceEqDiff, reduceCtorEq, Nat.reduceLeDiff, Nat.reducePow, Int.reducePow, Int.reduceToNat, Nat.reduceAdd]
    exact ⟨_, 0, rfl, Nat.zero_le _, rfl, by simpa [allP, seqP_nil] using D5⟩
  clear D5
  rintro m ρ hc ⟨i, rfl, hi, rfl, D⟩
  rcases Nat.lt_or_ge i c.hs.length with hlt | hge
  case inr =>
    have hlt' : ¬ (i : Int) < c.hs.length := by omega
    rw [List.take_of_length_le hge] at D
    have hPl : (seqP P5 (allP hndP c.hs)).1.length ≤ 10000000 := by simp only [seqP, List.length_append, allP_hnd_len]; omega
    have hcde : cdeP (nameK p) c = seqP (seqP P5 (allP hndP c.hs)) (if c.map = [] then (bigS 0 2, 0) else seqP (bigS 1 2, 0) (attrP (nameK p) smN (c.map, 0))) := by
      have hbb : ((bigS c.bytes.length 4 ++ c.bytes, 0) : Pce) = seqP (bigS c.bytes.length 4, 0) (c.bytes, 0) := by simp [seqP, thenE_zero]
      rw [hP5]
      unfold cdeP
      rw [hbb]
      simp only [seqP_assoc, nilP_seq]
    rw [hcde]
    generalize seqP P5 (allP hndP c.hs) = P6 at *
    have kx : cellAt hc ⟨cb, 4, none⟩ = some (str c.map) := by rw [cellAt_of D.cb]; rfl
    have w0 := D.w0
    have hN0 : numP ((0 : Nat) : Int) 2 = (bigS 0 2, 0) := by decide
    have hN1 : numP ((1 : Nat) : Int) 2 = (bigS 1 2, 0) := by decide
    by_cases hm : c.map = []
    · rw [if_pos hm]
      simp (disch := first | omega | assumption) only [C.cw_code_gos, vs, Go.Vc.vk, T.ts, ↓reduceIte, Nat.reduceEqDiff, reduceCtorEq, Nat.reduceLeDiff, Nat.reducePow, Int.reducePow, Int.reduceToNat, Nat.reduceAdd, hlt', kx, eq_true hm, w0]
      refine eff_call_of ?_
      simp (disch := first | omega | assumption) only [C.cw_code_gos, vs, Go.Vc.vk, T.ts, ↓reduceIte, Nat.reduceEqDiff, reduceCtorEq, Nat.reduceLeDiff, Nat.reducePow, Int.reducePow, Int.reduceToNat, Nat.reduceAdd]
      refine (D.num ((0 : Nat) : Int) 2 (by omega) (by omega)).mono ?_
      intro _ h9 D9
      rw [hN0] at D9
      simp (disch := first | omega | assumption) only [C.cw_code_gos, vs, Go.Vc.vk, T.ts, ↓reduceIte, Nat.reduceEqDiff, reduceCtorEq, Nat.reduceLeDiff, Nat.reducePow, Int.reducePow, Int.reduceToNat, Nat.reduceAdd]
      exact ⟨D9.w, D9.k⟩
    · rw [if_neg hm]
      simp (disch := first | omega | assumption) only [C.cw_code_gos, vs, Go.Vc.vk, T.ts, ↓reduceIte, Nat.reduceEqDiff, reduceCtorEq, Nat.reduceLeDiff, Nat.reducePow, Int.reducePow, Int.reduceToNat, Nat.reduceAdd, hlt', kx, eq_false hm, w0]
      refine eff_call_of ?_
      simp (disch := first | omega | assumption) only [C.cw_code_gos, vs, Go.Vc.vk, T.ts, ↓reduceIte, Nat.reduceEqDiff, reduceCtorEq, Nat.reduceLeDiff, Nat.reducePow, Int.reducePow, Int.reduceToNat, Nat.reduceAdd]
      refine (D.num ((1 : Nat) : Int) 2 (by omega) (by omega)).mono ?_
      intro _ h9 D9
      rw [hN1] at D9
      have w09 := D9.w0
      simp (disch := first | omega | assumption) only [C.cw_code_gos, vs, Go.Vc.vk, T.ts, ↓reduceIte, Nat.reduceEqDiff, reduceCtorEq, Nat.reduceLeDiff, Nat.reducePow, Int.reducePow, Int.reduceToNat, Nat.reduceAdd, w09]
      refine eff_call_of ?_
      simp (disch := first | omega | assumption) only [C.cw_code_gos, vs, Go.Vc.vk, T.ts, ↓reduceIte, Nat.reduceEqDiff, reduceCtorEq, Nat.reduceLeDiff, Nat.reducePow, Int.reducePow, Int.reduceToNat, Nat.reduceAdd]
      refine (cwattr_any p _ smN 74 #[.pointer (some ⟨wb, 0, none⟩), .pointer (some ⟨cb, 0, none⟩)] (c.map, 0) (by decide +kernel) hp hcc hpf hpl (by simp only [seqP, List.length_append, bigS_len]; omega) ?_ D9.w).mono ?_
      · intro h10 b1 e1 H1 K1 hb1
        refine (cwcode1_any c (.slice aH c.hs.length cH) wb cb (K1.blk D9.wb (D9.w.ty D9.wb (by decide)) (by decide)) (K1.blk D9.cb (D9.w.ty D9.cb (by decide)) (by decide)) (by simp only [seqP, List.length_append, bigS_len] at hb1; omega) H1).mono ?_
        intro _ h11 hp11
        simp only [thenE_zero]
        exact hp11
      · intro _ h10 hp10
        simp (disch := first | omega | assumption) only [C.cw_code_gos, vs, Go.Vc.vk, T.ts, ↓reduceIte, Nat.reduceEqDiff, reduceCtorEq, Nat.reduceLeDiff, Nat.reducePow, Int.reducePow, Int.reduceToNat, Nat.reduceAdd]
        have D10 := D9.step hp10.1 hp10.2
        rw [seqP_assoc] at D10
        exact ⟨D10.w, D10.k⟩
  have hlt' : (i : Int) < c.hs.length := by omega
  obtain ⟨bb, o, c', heq, hrd, _⟩ := (hH.ext (by decide) D.w.2.1).at hlt
  cases heq
  rw [flatH_at hlt] at hrd
  have hst := take_snocD Hnd.zero hlt
  have hfit := hcf.hs (c.hs.getD i Hnd.zero) (by simp [hlt])
  have hPl : (seqP P5 (allP hndP (c.hs.take i))).1.length ≤ 10000000 := by
    have : (c.hs.take i).length ≤ c.hs.length := by simp; omega
    simp only [seqP, List.length_append, allP_hnd_len]; omega
  have hnext : seqP P5 (allP hndP (c.hs.take (i + 1))) = seqP (seqP P5 (allP hndP (c.hs.take i))) (hndP (c.hs.getD i Hnd.zero)) := by rw [hst, allP_snoc, seqP_assoc]
  generalize c.hs.getD i Hnd.zero = x at *
  obtain ⟨f1, f2, f3, ty⟩ := x
  simp only [Hnd.cells] at hrd
  have hld := ld_agg T.ag_132 hrd rfl
  generalize seqP P5 (allP hndP (c.hs.take i)) = P6 at *
  simp (disch := first | omega | assumption) only [C.cw_code_gos, vs, Go.Vc.vk, T.ts, ↓reduceIte, Nat.reduceEqDiff, reduceCtorEq, Nat.reduceLeDiff, Nat.reducePow, Int.reducePow, Int.reduceToNat, Nat.reduceAdd, hlt', hld]
  refine eff_alloc_z T.zr_132 ?_
  simp (disch := first | omega | assumption) only [C.cw_code_gos, vs, Go.Vc.vk, T.ts, ↓reduceIte, Nat.reduceEqDiff, reduceCtorEq, Nat.reduceLeDiff, Nat.reducePow, Int.reducePow, Int.reduceToNat, Nat.reduceAdd]
  refine eff_store_new_z T.zr_132 rfl rfl rfl (by simp [Value.cells, oneCell]) rfl ?_
  intro h9 x9 hlt9 hrd9 b9
  change h9[hc.size]? = some (.cells (Hnd.cells ⟨f1, f2, f3, ty⟩).toArray 132 (0, 0)) at b9
  have Da := D.ext x9
  clear hld hrd9 hrd D hlt9 x9
  generalize hc.size = q at *
  have w0 := Da.w0
  have kx : cellAt h9 ⟨q, 0, none⟩ = some (.int .i64 f1) := by rw [cellAt_of b9]; rfl
  simp (disch := first | omega | assumption) only [C.cw_code_gos, vs, Go.Vc.vk, T.ts, ↓reduceIte, Nat.reduceEqDiff, reduceCtorEq, Nat.reduceLeDiff, Nat.reducePow, Int.reducePow, Int.reduceToNat, Nat.reduceAdd, w0, kx]
  refine eff_call_of ?_
  simp (disch := first | omega | assumption) only [C.cw_code_gos, vs, Go.Vc.vk, T.ts, ↓reduceIte, Nat.reduceEqDiff, reduceCtorEq, Nat.reduceLeDiff, Nat.reducePow, Int.reducePow, Int.reduceToNat, Nat.reduceAdd]
  refine (cwnum_any f1 2 (.inl rfl) (by simp only [seqP, numP, List.length_append, bigS_len]; omega) Da.w).mono ?_
  intro _ ha hp
  have ba := hp.2.blk b9 (Da.w.ty b9 (by decide)) (by decide)
  have Db := Da.step hp.1 hp.2
  clear w0 kx hp
  have w0 := Db.w0
  have kx : cellAt ha ⟨q, 1, none⟩ = some (.int .i64 f2) := by rw [cellAt_of ba]; rfl
  simp (disch := first | omega | assumption) only [C.cw_code_gos, vs, Go.Vc.vk, T.ts, ↓reduceIte, Nat.reduceEqDiff, reduceCtorEq, Nat.reduceLeDiff, Nat.reducePow, Int.reducePow, Int.reduceToNat, Nat.reduceAdd, w0, kx]
  refine eff_call_of ?_
  simp (disch := first | omega | assumption) only [C.cw_code_gos, vs, Go.Vc.vk, T.ts, ↓reduceIte, Nat.reduceEqDiff, reduceCtorEq, Nat.reduceLeDiff, Nat.reducePow, Int.reducePow, Int.reduceToNat, Nat.reduceAdd]
  refine (cwnum_any f2 2 (.inl rfl) (by simp only [seqP, numP, List.length_append, bigS_len]; omega) Db.w).mono ?_
  intro _ hb' hp
  have bb' := hp.2.blk ba (Db.w.ty ba (by decide)) (by decide)
  have Dc := Db.step hp.1 hp.2
  clear w0 kx hp
  have w0 := Dc.w0
  have kx : cellAt hb' ⟨q, 2, none⟩ = some (.int .i64 f3) := by rw [cellAt_of bb']; rfl
  simp (disch := first | omega | assumption) only [C.cw_code_gos, vs, Go.Vc.vk, T.ts, ↓reduceIte, Nat.reduceEqDiff, reduceCtorEq, Nat.reduceLeDiff, Nat.reducePow, Int.reducePow, Int.reduceToNat, Nat.reduceAdd, w0, kx]
  refine eff_call_of ?_
  simp (disch := first | omega | assumption) only [C.cw_code_gos, vs, Go.Vc.vk, T.ts, ↓reduceIte, Nat.reduceEqDiff, reduceCtorEq, Nat.reduceLeDiff, Nat.reducePow, Int.reducePow, Int.reduceToNat, Nat.reduceAdd]
  refine (cwnum_any f3 2 (.inl rfl) (by simp only [seqP, numP, List.length_append, bigS_len]; omega) Dc.w).mono ?_
  intro _ hd hp
  have bd := hp.2.blk bb' (Dc.w.ty bb' (by decide)) (by decide)
  have Dd := Dc.step hp.1 hp.2
  clear w0 kx hp
  have w0 := Dd.w0
  have kx : cellAt hd ⟨q, 3, none⟩ = some (.int .u16 (ty : Int)) := by rw [cellAt_of bd]; rfl
  simp (disch := first | omega | assumption) only [C.cw_code_gos, vs, Go.Vc.vk, T.ts, ↓reduceIte, Nat.reduceEqDiff, reduceCtorEq, Nat.reduceLeDiff, Nat.reducePow, Int.reducePow, Int.reduceToNat, Nat.reduceAdd, w0, kx]
  refine eff_lits T.slT_39 rfl rfl (by decide) ?_
  simp (disch := first | omega | assumption) only [C.cw_code_gos, vs, Go.Vc.vk, T.ts, ↓reduceIte, Nat.reduceEqDiff, reduceCtorEq, Nat.reduceLeDiff, Nat.reducePow, Int.reducePow, Int.reduceToNat, Nat.reduceAdd]
  refine eff_call_of ?_
  simp (disch := first | omega | assumption) only [C.cw_code_gos, vs, Go.Vc.vk, T.ts, ↓reduceIte, Nat.reduceEqDiff, reduceCtorEq, Nat.reduceLeDiff, Nat.reducePow, Int.reducePow, Int.reduceToNat, Nat.reduceAdd]
  refine (Dd.lits [ty] (by simpa using hfit.type) (by simp) (by simp only [seqP, numP, List.length_append, bigS_len]; omega)).mono ?_
  intro _ he De
  have hq : seqP (seqP (seqP (seqP P6 (numP f1 2)) (numP f2 2)) (numP f3 2)) (allP idxP [ty]) = seqP P6 (hndP ⟨f1, f2, f3, ty⟩) := by
    simp only [seqP_assoc, hndP, allP, seqP_nil]
  rw [hq, ← hnext] at De
  simp (disch := first | omega | assumption) only [C.cw_code_gos, vs, Go.Vc.vk, T.ts, ↓reduceIte, Nat.reduceEqDiff, reduceCtorEq, Nat.reduceLeDiff, Nat.reducePow, Int.reducePow, Int.reduceToNat, Nat.reduceAdd]
  exact ⟨_, by omega, i + 1, rfl, by omega, by simp, De⟩
end
end Go.Proofs.Ytohkbpnblkkdgaa
