/- The law HeapQuiet on heaps: it returns true. No condition. -/
import Derived.Test.YtidkokdkldfglaaUZ
namespace Go.Proofs.Ytidkokdkldfglaa
open Go.Vc
set_option maxRecDepth 100000
set_option linter.unusedSimpArgs false
set_option linter.unusedVariables false

def A1 (n : Nat) : AS := ⟨[([], []), ([0], [0])], 1 :: List.replicate 15 0, n⟩
def A2 (n : Nat) : AS := ⟨[([], []), ([0], [7])], 1 :: List.replicate 15 0, n⟩
theorem ar0 {n t : Nat} (h : AR (a0 n) t) : t = 0 := by
  induction h with
  | root h => exact List.eq_of_mem_replicate h
  | step _ h1 h2 ih =>
    subst ih
    cases h1
    cases h2
theorem total0 (n : Nat) : Total (a0 n) 0 :=
  ⟨[], by simp, fun t => ⟨fun h => (by cases h), fun h => absurd (ar0 h.2) h.1⟩, rfl⟩
theorem make1 {n : Nat} (h : 5 < n) : aMake (a0 n) 0 1 1 = (A1 n, 0) := by
  have hf : Fits (a0 n) (2 + (1 : Int).toNat + (1 : Int).toNat) := ⟨0, total0 n, by show 0 + 4 ≤ n; omega⟩
  unfold aMake
  rw [if_neg (by decide), if_neg (by show ¬ ((n : Int) < 1 ∨ (n : Int) < 1); omega), if_pos hf]
  rfl
theorem set1 {n : Nat} : aSet (A1 n) 0 0 7 = (A2 n, 0) := by
  unfold aSet
  rw [if_pos ⟨⟨by decide, by show (1 : Nat) ≠ 0; decide⟩, by decide, by show (0 : Int) < ((1 : Nat) : Int); decide⟩]
  rfl
theorem word1 {n : Nat} : aWord (A2 n) 0 0 = (7, 0) := by
  unfold aWord
  rw [if_pos ⟨⟨by decide, by show (1 : Nat) ≠ 0; decide⟩, by decide, by show (0 : Int) < ((1 : Nat) : Int); decide⟩]
  rfl
theorem same1 {n : Nat} : aSame (A2 n) 0 1 = (false, 0) := by
  unfold aSame
  rw [if_pos ⟨by decide, by decide⟩]
  rfl
theorem put1 {n : Nat} : aPut (A2 n) 0 0 16 = (A2 n, 7) := by
  unfold aPut
  rw [if_neg (fun h => absurd h.2.1 (by decide))]
theorem flat5 : ∀ (l : List OpP) (i : Nat) (o : OpP), l[i]? = some o → ((l.flatMap OpP.row).drop (i * 5)).take 5 = o.row
  | [], i, o, h => by simp at h
  | x :: r, 0, o, h => by
    simp only [List.getElem?_cons_zero, Option.some.injEq] at h
    subst h; rfl
  | x :: r, i + 1, o, h => by
    rw [List.getElem?_cons_succ] at h
    rw [List.flatMap_cons, List.drop_append, List.drop_of_length_le (by show 5 ≤ (i + 1) * 5; omega), List.nil_append, show (i + 1) * 5 - x.row.length = i * 5 by show (i + 1) * 5 - 5 = _; omega]
    exact flat5 r i o h
theorem pn {x y : Operand} {q : Option Addr} {h : Heap} : binE Try.prog .eql 26 x y (.pointer q) (.pointer none) h = some (.bool q.isNone) := bin_pnil_eql Try.underlying26
set_option maxHeartbeats 4000000 in
theorem quiet_t0 {h0 hc : Heap} {pa pb : Ph} {sa sb : St} {A : AS} {Sa Sb : Nat} {ops : List OpP} {av : Option Addr} {ac : Nat} {w0 w1 w9 w10 w11 w12 w13 w14 w40 w52 w74 w76 w117 : Value} (SL : SlN h0 5 (.slice av ops.length ac) ops.length (ops.flatMap OpP.row)) (hl : ops.length ≤ 16384) (TW : Tw h0 hc pa sa A pb sb A) (ea : pa.S = Sa) (eb : pb.S = Sb) :
    Cd.vc Try.prog C.law5_HeapQuiet_t0 (retQ Try.prog [(6, none)] fun r h' => Ext h0 h' ∧ r = .bool true)
      [(0, w0), (1, w1), (2, .slice av ops.length ac), (6, .bool false), (7, ptr Sa 0), (8, ptr Sb 0), (9, w9), (10, w10), (11, w11), (12, w12), (13, w13), (14, w14), (16, undef), (17, undef), (18, undef), (19, undef), (20, undef), (40, w40), (52, w52), (74, w74), (76, w76), (117, w117), (118, undef), (119, undef), (120, undef), (121, undef), (131, undef), (156, undef)] hc := by
  obtain ⟨hlen, _, _, hvv, hav⟩ := id SL
  cases hvv
  simp (disch := first | omega | assumption) only [C.law5_HeapQuiet_gos, T.tv, ↓reduceIte, Nat.reduceEqDiff, reduceCtorEq, Nat.reduceLeDiff, Nat.reducePow, Int.reducePow, Int.reduceToNat, Nat.reduceAdd, C.law5_HeapQuiet_t0_go]
  refine loop_intro [2, 6, 7, 8, 118, 119, 120] (fun mm ρ hc => ∃ i pa sa pb sb A, mm = ops.length - i ∧ i ≤ ops.length ∧ ρ = [(2, .slice av ops.length ac), (6, .bool false), (7, ptr Sa 0), (8, ptr Sb 0), (118, .slice av ops.length ac), (119, .int .i64 (ops.length : Int)), (120, .int .i64 (i : Int))] ∧
    Tw h0 hc pa sa A pb sb A ∧ pa.S = Sa ∧ pb.S = Sb) ?_ ?_
  · simp (disch := first | omega | assumption) only [C.law5_HeapQuiet_gos, T.tv, ↓reduceIte, Nat.reduceEqDiff, reduceCtorEq, Nat.reduceLeDiff, Nat.reducePow, Int.reducePow, Int.reduceToNat, Nat.reduceAdd]
    exact ⟨_, 0, pa, sa, pb, sb, A, rfl, Nat.zero_le _, rfl, TW, ea, eb⟩
  clear TW ea eb
  rintro mm ρ hc1 ⟨i, pa, sa, pb, sb, A, rfl, hi, rfl, TW, ea, eb⟩
  by_cases c1 : i < ops.length
  · obtain ⟨bb, oo, rfl, hrd⟩ : ∃ bb oo, av = some ⟨bb, oo, none⟩ ∧ Rd h0 bb oo (ops.flatMap OpP.row) := by
      rcases hav with h | ⟨b, o, h1, h2⟩
      · omega
      · exact ⟨b, o, h1, h2⟩
    have c2 : (i : Int) < (ops.length : Int) := by omega
    have b1 : (0 : Int) ≤ (i : Int) := by omega
    have w : IntKind.i64.wrap ((i : Int) + 1) = ((i + 1 : Nat) : Int) := by rw [wrap_i64 (by omega) (by omega)]; omega
    have hoi : ops[i]? = some ops[i] := by simp
    generalize ops[i] = o at hoi
    have hsub := hrd.sub (i * 5) 5
    rw [flat5 ops i o hoi] at hsub
    have hbl : bb < h0.size := hrd.lt (fun e => by rw [e] at hlen; simp only [List.length_nil] at hlen; omega)
    have lr : ld Try.prog 32 ⟨bb, oo + i * 5, none⟩ hc1 = some (.agg o.row.toArray) := by
      rw [TW.x.ld hbl]
      exact ld_agg T.ag_32 (vs := o.row) hsub rfl
    simp (disch := first | omega | assumption) only [C.law5_HeapQuiet_gos, T.tv, ↓reduceIte, Nat.reduceEqDiff, reduceCtorEq, Nat.reduceLeDiff, Nat.reducePow, Int.reducePow, Int.reduceToNat, Nat.reduceAdd, c2, b1, lr]
    refine eff_alloc_z T.zr_32 ?_
    simp (disch := first | omega | assumption) only [C.law5_HeapQuiet_gos, T.tv, ↓reduceIte, Nat.reduceEqDiff, reduceCtorEq, Nat.reduceLeDiff, Nat.reducePow, Int.reducePow, Int.reduceToNat, Nat.reduceAdd]
    refine eff_store_new_z T.zr_32 rfl rfl rfl (by intro u hu; simp only [Value.cells, OpP.row, List.mem_cons, List.not_mem_nil, or_false] at hu; rcases hu with rfl | rfl | rfl | rfl | rfl <;> rfl) rfl ?_
    intro h3 X3 s3 rd3 g3
    have T3 := TW.ext X3
    have f0 : cellAt h3 ⟨hc1.size, 0, none⟩ = some (.int .i64 o.k) := by rw [cellAt_of g3]; rfl
    by_cases c9 : o.k = 9
    · simp (disch := first | omega | assumption) only [C.law5_HeapQuiet_gos, T.tv, ↓reduceIte, Nat.reduceEqDiff, reduceCtorEq, Nat.reduceLeDiff, Nat.reducePow, Int.reducePow, Int.reduceToNat, Nat.reduceAdd, f0, c9, Int.reduceEq]
      have M := sMinor_any T3.a
      rw [ea] at M
      refine eff_callF rfl (M.mono ?_)
      rintro v4 h4 ⟨N4, rfl⟩
      obtain ⟨pa4, sa4, T4, e4⟩ := T3.left N4
      simp (disch := first | omega | assumption) only [C.law5_HeapQuiet_gos, T.tv, ↓reduceIte, Nat.reduceEqDiff, reduceCtorEq, Nat.reduceLeDiff, Nat.reducePow, Int.reducePow, Int.reduceToNat, Nat.reduceAdd, w]
      exact ⟨_, by omega, i + 1, pa4, sa4, pb, sb, A, rfl, by omega, rfl, T4, e4.trans ea, eb⟩
    by_cases c10 : o.k = 10
    · simp (disch := first | omega | assumption) only [C.law5_HeapQuiet_gos, T.tv, ↓reduceIte, Nat.reduceEqDiff, reduceCtorEq, Nat.reduceLeDiff, Nat.reducePow, Int.reducePow, Int.reduceToNat, Nat.reduceAdd, f0, c9, c10, Int.reduceEq]
      have M := sMajor_any T3.a
      rw [ea] at M
      refine eff_callF rfl (M.mono ?_)
      rintro v4 h4 ⟨N4, _, _, rfl⟩
      obtain ⟨pa4, sa4, T4, e4⟩ := T3.left N4
      simp (disch := first | omega | assumption) only [C.law5_HeapQuiet_gos, T.tv, ↓reduceIte, Nat.reduceEqDiff, reduceCtorEq, Nat.reduceLeDiff, Nat.reducePow, Int.reducePow, Int.reduceToNat, Nat.reduceAdd, w]
      exact ⟨_, by omega, i + 1, pa4, sa4, pb, sb, A, rfl, by omega, rfl, T4, e4.trans ea, eb⟩
    have lq : ld Try.prog 32 ⟨hc1.size, 0, none⟩ h3 = some (.agg o.row.toArray) := ld_agg T.ag_32 (vs := o.row) rd3 rfl
    simp (disch := first | omega | assumption) only [C.law5_HeapQuiet_gos, T.tv, ↓reduceIte, Nat.reduceEqDiff, reduceCtorEq, Nat.reduceLeDiff, Nat.reducePow, Int.reducePow, Int.reduceToNat, Nat.reduceAdd, f0, c9, c10, lq]
    have R1 := answer_any T3.a o
    rw [ea] at R1
    refine eff_callF rfl (R1.mono ?_)
    rintro v4 h4 ⟨N4, rfl⟩
    have lq4 : ld Try.prog 32 ⟨hc1.size, 0, none⟩ h4 = some (.agg o.row.toArray) := by
      obtain ⟨p', s', S4, _⟩ := N4
      rw [S4.fr.ld s3 (fun hf => by have := (TW.a.r.lt hf).2; omega)]
      exact lq
    obtain ⟨pa4, sa4, T4, e4⟩ := T3.left N4
    simp (disch := first | omega | assumption) only [C.law5_HeapQuiet_gos, T.tv, ↓reduceIte, Nat.reduceEqDiff, reduceCtorEq, Nat.reduceLeDiff, Nat.reducePow, Int.reducePow, Int.reduceToNat, Nat.reduceAdd, lq4, wordV]
    have R2 := answer_any T4.b o
    rw [eb] at R2
    refine eff_callF rfl (R2.mono ?_)
    rintro v5 h5 ⟨N5, rfl⟩
    obtain ⟨pb5, sb5, T5, e5⟩ := T4.right N5
    simp (disch := first | omega | assumption) only [C.law5_HeapQuiet_gos, T.tv, ↓reduceIte, Nat.reduceEqDiff, reduceCtorEq, Nat.reduceLeDiff, Nat.reducePow, Int.reducePow, Int.reduceToNat, Nat.reduceAdd, wordV, ne_eq]
    exact ⟨_, by omega, i + 1, pa4, sa4, pb5, sb5, (ans A o).1, rfl, by omega, rfl, T5, e4.trans ea, e5.trans eb⟩
  · have c2 : ¬ (i : Int) < (ops.length : Int) := by omega
    simp (disch := first | omega | assumption) only [C.law5_HeapQuiet_gos, T.tv, ↓reduceIte, Nat.reduceEqDiff, reduceCtorEq, Nat.reduceLeDiff, Nat.reducePow, Int.reducePow, Int.reduceToNat, Nat.reduceAdd, c2]
    have M1 := sMajor_any TW.a
    rw [ea] at M1
    refine eff_callF rfl (M1.mono ?_)
    rintro v4 h4 ⟨N4, n1, t1, rfl⟩
    obtain ⟨pa4, sa4, T4, e4⟩ := TW.left N4
    simp (disch := first | omega | assumption) only [C.law5_HeapQuiet_gos, T.tv, ↓reduceIte, Nat.reduceEqDiff, reduceCtorEq, Nat.reduceLeDiff, Nat.reducePow, Int.reducePow, Int.reduceToNat, Nat.reduceAdd]
    have M2 := sMajor_any T4.b
    rw [eb] at M2
    refine eff_callF rfl (M2.mono ?_)
    rintro v5 h5 ⟨N5, n2, t2, rfl⟩
    obtain ⟨pb5, sb5, T5, e5⟩ := T4.right N5
    have e := t1.uniq t2
    subst e
    simp (disch := first | omega | assumption) only [C.law5_HeapQuiet_gos, T.tv, ↓reduceIte, Nat.reduceEqDiff, reduceCtorEq, Nat.reduceLeDiff, Nat.reducePow, Int.reducePow, Int.reduceToNat, Nat.reduceAdd]
    first | exact T5.x | exact ⟨T5.x, rfl⟩
set_option maxHeartbeats 4000000 in
theorem heapQuiet_any {h0 : Heap} {lim rm : Int} {ops : List OpP} {v : Value} (SL : SlN h0 5 v ops.length (ops.flatMap OpP.row)) :
    HCalls Try.prog 4 #[.int .i64 lim, .int .i64 rm, v] h0 fun r h' => Ext h0 h' ∧ r = .bool true := by
  obtain ⟨hlen, av, ac, rfl, hav⟩ := id SL
  refine C.law5_HeapQuiet_calls (args := [.int .i64 lim, .int .i64 rm, .slice av ops.length ac]) rfl ?_
  by_cases c1 : lim < 0
  · simp (disch := first | omega | assumption) only [C.law5_HeapQuiet_gos, T.tv, ↓reduceIte, Nat.reduceEqDiff, reduceCtorEq, Nat.reduceLeDiff, Nat.reducePow, Int.reducePow, Int.reduceToNat, Nat.reduceAdd, c1]
    first | exact Ext.refl _ | exact ⟨Ext.refl _, rfl⟩
  by_cases c2 : 16384 < lim
  · simp (disch := first | omega | assumption) only [C.law5_HeapQuiet_gos, T.tv, ↓reduceIte, Nat.reduceEqDiff, reduceCtorEq, Nat.reduceLeDiff, Nat.reducePow, Int.reducePow, Int.reduceToNat, Nat.reduceAdd, c1, c2]
    first | exact Ext.refl _ | exact ⟨Ext.refl _, rfl⟩
  by_cases c3 : rm < 0
  · simp (disch := first | omega | assumption) only [C.law5_HeapQuiet_gos, T.tv, ↓reduceIte, Nat.reduceEqDiff, reduceCtorEq, Nat.reduceLeDiff, Nat.reducePow, Int.reducePow, Int.reduceToNat, Nat.reduceAdd, c1, c2, c3]
    first | exact Ext.refl _ | exact ⟨Ext.refl _, rfl⟩
  by_cases c4 : lim < rm
  · simp (disch := first | omega | assumption) only [C.law5_HeapQuiet_gos, T.tv, ↓reduceIte, Nat.reduceEqDiff, reduceCtorEq, Nat.reduceLeDiff, Nat.reducePow, Int.reducePow, Int.reduceToNat, Nat.reduceAdd, c1, c2, c3, c4]
    first | exact Ext.refl _ | exact ⟨Ext.refl _, rfl⟩
  by_cases c5 : (16384 : Int) < (ops.length : Int)
  · simp (disch := first | omega | assumption) only [C.law5_HeapQuiet_gos, T.tv, ↓reduceIte, Nat.reduceEqDiff, reduceCtorEq, Nat.reduceLeDiff, Nat.reducePow, Int.reducePow, Int.reduceToNat, Nat.reduceAdd, c1, c2, c3, c4, c5]
    first | exact Ext.refl _ | exact ⟨Ext.refl _, rfl⟩
  obtain ⟨n, rfl⟩ : ∃ n : Nat, lim = n := ⟨lim.toNat, by omega⟩
  obtain ⟨m, rfl⟩ : ∃ m : Nat, rm = m := ⟨rm.toNat, by omega⟩
  simp (disch := first | omega | assumption) only [C.law5_HeapQuiet_gos, T.tv, ↓reduceIte, Nat.reduceEqDiff, reduceCtorEq, Nat.reduceLeDiff, Nat.reducePow, Int.reducePow, Int.reduceToNat, Nat.reduceAdd, c1, c2, c3, c4, c5]
  refine eff_callF rfl ((sNew_any (n := n) (m := m) (by omega) (by omega)).mono ?_)
  rintro v1 h1 ⟨X1, pa, sa, rfl, Ga, _, fa⟩
  simp (disch := first | omega | assumption) only [C.law5_HeapQuiet_gos, T.tv, ↓reduceIte, Nat.reduceEqDiff, reduceCtorEq, Nat.reduceLeDiff, Nat.reducePow, Int.reducePow, Int.reduceToNat, Nat.reduceAdd]
  refine eff_callF rfl ((sNew_any (n := n) (m := n) (by omega) (by omega)).mono ?_)
  rintro v2 h2 ⟨X2, pb, sb, rfl, Gb, _, fb⟩
  have T0 : Tw h0 h2 pa sa (a0 n) pb sb (a0 n) := ⟨Ga.ext X2, Gb.base X1.size, fun k hk hq => by have := (Ga.r.lt hk).2; have := fb k hq; omega, X1.trans X2⟩
  clear Ga Gb fa fb
  have hn5 : (5 : Int) < (n : Int) ∨ ¬ (5 : Int) < (n : Int) := Classical.em _
  rcases hn5 with c6 | c6
  · have M1 := sMake_any T0.a (k := 0) (r := 1) (w := 1)
    rw [make1 (by omega)] at M1
    simp (disch := first | omega | assumption) only [C.law5_HeapQuiet_gos, T.tv, ↓reduceIte, Nat.reduceEqDiff, reduceCtorEq, Nat.reduceLeDiff, Nat.reducePow, Int.reducePow, Int.reduceToNat, Nat.reduceAdd, pn, Option.isNone_some, c6]
    refine eff_callF rfl (M1.mono ?_)
    rintro v1 h3 ⟨N1, rfl⟩
    obtain ⟨pa1, sa1, T1, e1⟩ := T0.left N1
    have M2 := sMake_any T1.b (k := 0) (r := 1) (w := 1)
    rw [make1 (by omega)] at M2
    simp (disch := first | omega | assumption) only [C.law5_HeapQuiet_gos, T.tv, ↓reduceIte, Nat.reduceEqDiff, reduceCtorEq, Nat.reduceLeDiff, Nat.reducePow, Int.reducePow, Int.reduceToNat, Nat.reduceAdd, c6]
    refine eff_callF rfl (M2.mono ?_)
    rintro v2 h4 ⟨N2, rfl⟩
    obtain ⟨pb1, sb1, T2, e2⟩ := T1.right N2
    have M3 := sSet_any T2.a (k := 0) (i := 0) (x := 7)
    rw [set1, e1, show wordV 7 = .int .u64 7 from rfl] at M3
    simp (disch := first | omega | assumption) only [C.law5_HeapQuiet_gos, T.tv, ↓reduceIte, Nat.reduceEqDiff, reduceCtorEq, Nat.reduceLeDiff, Nat.reducePow, Int.reducePow, Int.reduceToNat, Nat.reduceAdd, c6]
    refine eff_callF rfl (M3.mono ?_)
    rintro v3 h5 ⟨N3, rfl⟩
    obtain ⟨pa2, sa2, T3, e3⟩ := T2.left N3
    have M4 := sSet_any T3.b (k := 0) (i := 0) (x := 7)
    rw [set1, e2, show wordV 7 = .int .u64 7 from rfl] at M4
    simp (disch := first | omega | assumption) only [C.law5_HeapQuiet_gos, T.tv, ↓reduceIte, Nat.reduceEqDiff, reduceCtorEq, Nat.reduceLeDiff, Nat.reducePow, Int.reducePow, Int.reduceToNat, Nat.reduceAdd, c6]
    refine eff_callF rfl (M4.mono ?_)
    rintro v4 h6 ⟨N4, rfl⟩
    obtain ⟨pb2, sb2, T4, e4⟩ := T3.right N4
    have ea : pa2.S = pa.S := e3.trans e1
    have eb : pb2.S = pb.S := e4.trans e2
    clear T0 T1 T2 T3 N1 N2 N3 N4 M1 M2 M3 M4
    have W1 := sWord_any T4.a (k := 0) (i := 0)
    rw [word1, ea] at W1
    simp (disch := first | omega | assumption) only [C.law5_HeapQuiet_gos, T.tv, ↓reduceIte, Nat.reduceEqDiff, reduceCtorEq, Nat.reduceLeDiff, Nat.reducePow, Int.reducePow, Int.reduceToNat, Nat.reduceAdd, c6]
    refine eff_callF rfl (W1.mono ?_)
    rintro v5 h7 ⟨rfl, rfl⟩
    have W2 := sWord_any T4.b (k := 0) (i := 0)
    rw [word1, eb] at W2
    simp (disch := first | omega | assumption) only [C.law5_HeapQuiet_gos, T.tv, ↓reduceIte, Nat.reduceEqDiff, reduceCtorEq, Nat.reduceLeDiff, Nat.reducePow, Int.reducePow, Int.reduceToNat, Nat.reduceAdd, c6]
    refine eff_callF rfl (W2.mono ?_)
    rintro v6 h8 ⟨rfl, rfl⟩
    have W3 := sSame_any T4.a (t := 0) (f := 1)
    rw [same1, ea] at W3
    simp (disch := first | omega | assumption) only [C.law5_HeapQuiet_gos, T.tv, ↓reduceIte, Nat.reduceEqDiff, reduceCtorEq, Nat.reduceLeDiff, Nat.reducePow, Int.reducePow, Int.reduceToNat, Nat.reduceAdd, c6]
    refine eff_callF rfl (W3.mono ?_)
    rintro v7 h9 ⟨rfl, rfl⟩
    have z7 : ((7 : Nat) : Int) = 7 := rfl
    have W4 := sPut_any T4.a (k := 0) (i := 0) (f := 16)
    rw [put1, ea] at W4
    simp (disch := first | omega | assumption) only [C.law5_HeapQuiet_gos, T.tv, ↓reduceIte, Nat.reduceEqDiff, reduceCtorEq, Nat.reduceLeDiff, Nat.reducePow, Int.reducePow, Int.reduceToNat, Nat.reduceAdd, c6, wordV, z7]
    refine eff_callF rfl (W4.mono ?_)
    rintro v8 h10 ⟨N5, rfl⟩
    obtain ⟨pa3, sa3, T5, e5⟩ := T4.left N5
    simp (disch := first | omega | assumption) only [C.law5_HeapQuiet_gos, T.tv, ↓reduceIte, Nat.reduceEqDiff, reduceCtorEq, Nat.reduceLeDiff, Nat.reducePow, Int.reducePow, Int.reduceToNat, Nat.reduceAdd, c6, Int.reduceEq]
    exact quiet_t0 SL (by omega) T5 (e5.trans ea) eb
  · simp (disch := first | omega | assumption) only [C.law5_HeapQuiet_gos, T.tv, ↓reduceIte, Nat.reduceEqDiff, reduceCtorEq, Nat.reduceLeDiff, Nat.reducePow, Int.reducePow, Int.reduceToNat, Nat.reduceAdd, pn, Option.isNone_some, c6]
    exact quiet_t0 SL (by omega) T0 rfl rfl
end Go.Proofs.Ytidkokdkldfglaa
