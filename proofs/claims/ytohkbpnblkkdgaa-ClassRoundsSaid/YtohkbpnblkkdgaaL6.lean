/- jvmcoreref3's writing: code. -/
import Derived.Test.YtohkbpnblkkdgaaL5
import Derived.Test.YtohkbpnblkkdgaaL3
namespace Go.Proofs.Ytohkbpnblkkdgaa
open Go.Vc
set_option maxRecDepth 100000
set_option linter.unusedSimpArgs false
set_option linter.unusedVariables false

structure RSt (h0 h hc : Heap) (g : Nat) (cc : List Value) (e : Nat) (cb : Nat) (cs : List Value) (t : TypeId) (P : Pce) : Prop where
  w : RW h0 hc g cc (thenE e P.2)
  f : FrG g h hc
  cb : hc[cb]? = some (.cells cs.toArray t (0, 0))
  t2 : t ≠ 94
section
variable {h0 h hc : Heap} {g : Nat} {cc : List Value} {e cb : Nat} {cs : List Value} {t : TypeId} {P : Pce}
theorem RSt.step {h' : Heap} (D : RSt h0 h hc g cc e cb cs t P) (Q : Pce) (W : RW h0 h' g cc (thenE (thenE e P.2) Q.2)) (F : FrG g hc h') : RSt h0 h h' g cc e cb cs t (seqP P Q) :=
  ⟨by simpa [seqP, thenE_assoc] using W, D.f.trans' F, Fr_blk F D.cb (D.w.ty D.cb D.t2), D.t2⟩
theorem RSt.ext {h' : Heap} (D : RSt h0 h hc g cc e cb cs t P) (x : Ext hc h') : RSt h0 h h' g cc e cb cs t P :=
  ⟨D.w.ext x, D.f.trans' (FrG.ext x), Fr_blk x D.cb id, D.t2⟩
theorem RSt.num (D : RSt h0 h hc g cc e cb cs t P) (x : Int) (n : Nat) (hn : n = 2 ∨ n = 4) :
    HCalls Try.prog 47 #[.pointer (some ⟨g, 0, none⟩), .int .i64 x, .int .i64 n] hc fun r h' => r = str (numP x n).1 ∧ RSt h0 h h' g cc e cb cs t (seqP P (numP x n)) ∧ FrG g hc h' :=
  (rwnum_any x n hn D.w).mono fun _ _ hp => ⟨hp.1, D.step _ hp.2.1 hp.2.2, hp.2.2⟩
theorem RSt.fail (D : RSt h0 h hc g cc e cb cs t P) (q : Nat) :
    HCalls Try.prog 45 #[.pointer (some ⟨g, 0, none⟩), .int .i64 q] hc fun _ h' => RSt h0 h h' g cc e cb cs t (seqP P ([], q)) :=
  (rwfail_any q D.w).mono fun _ _ hp => D.step ([], q) hp.1 hp.2
theorem RSt.attr (D : RSt h0 h hc g cc e cb cs t P) (p : List Cst) (vp : Value) (name body : List UInt8) (hp : SlN h0 5 vp p.length (flatS p)) (hcc : cc[5]? = some vp) (hpl : p.length ≤ 65536) (hb : body.length ≤ 1000000000) :
    HCalls Try.prog 48 #[.pointer (some ⟨g, 0, none⟩), str name, str body] hc fun r h' => r = str (attrP (nameR p) name (body, 0)).1 ∧ RSt h0 h h' g cc e cb cs t (seqP P (attrP (nameR p) name (body, 0))) ∧ FrG g hc h' :=
  (rwattr_any p vp name body hp hcc hpl hb D.w).mono fun _ _ hp => ⟨hp.1, D.step _ hp.2.1 hp.2.2, hp.2.2⟩
theorem numP_l (x : Int) (n : Nat) : (numP x n).1.length = n := bigS_len
set_option maxHeartbeats 8000000 in
theorem rwcode_any (p : List Cst) (vp : Value) (c : Cde) (vH : Value) (hp : SlN h0 5 vp p.length (flatS p)) (hcc : cc[5]? = some vp) (hpl : p.length ≤ 65536) (hcf : c.Fit) (hH : SlN h0 4 vH c.hs.length (flatH c.hs))
    (hhl : c.hs.length ≤ 1048576) (hbl : c.bytes.length ≤ 1048576) (hml : c.map.length ≤ 1048576) (H : RW h0 h g cc e) :
    HCalls Try.prog 49 #[.pointer (some ⟨g, 0, none⟩), .agg (CdeV c vH).toArray] h fun r h' => r = str (attrP (nameR p) cdN (cdeP (nameR p) c)).1 ∧ RW h0 h' g cc (thenE e (attrP (nameR p) cdN (cdeP (nameR p) c)).2) ∧ FrG g h h' := by
  refine C.rw_code_calls (args := [.pointer (some ⟨g, 0, none⟩), .agg (CdeV c vH).toArray]) rfl ?_
  obtain ⟨_, aH, cH, rfl, _⟩ := id hH
  have hgs := H.lt
  simp only [CdeV]
  simp (disch := first | omega | assumption) only [C.rw_code_gos, T.tv, ↓reduceIte, Nat.reduceEqDiff, reduceCtorEq, Nat.reduceLeDiff, Nat.reducePow, Int.reducePow, Int.reduceToNat, Nat.reduceAdd]
  refine eff_box ?_
  have e2 : Ext h (h.push (.cells (CdeV c (.slice aH c.hs.length cH)).toArray 79)) := Ext.push _ _
  have cb0 : (h.push (.cells (CdeV c (.slice aH c.hs.length cH)).toArray 79))[h.size]? = some (.cells (CdeV c (.slice aH c.hs.length cH)).toArray 79 (0, 0)) := by simp
  have D0 : RSt h0 h (h.push (.cells (CdeV c (.slice aH c.hs.length cH)).toArray 79)) g cc e h.size (CdeV c (.slice aH c.hs.length cH)) 79 ([], 0) :=
    ⟨by simpa [thenE_zero] using H.ext e2, FrG.ext e2, cb0, by decide⟩
  simp (disch := first | omega | assumption) only [C.rw_code_gos, T.tv, ↓reduceIte, Nat.reduceEqDiff, reduceCtorEq, Nat.reduceLeDiff, Nat.reducePow, Int.reducePow, Int.reduceToNat, Nat.reduceAdd]
  clear e2 cb0
  simp only [CdeV] at D0
  change RSt h0 h (h.push (.cells #[.int .i64 c.maxS, .int .i64 c.maxL, str c.bytes, .slice aH c.hs.length cH, str c.map] 79)) g cc e h.size _ _ _ at D0
  generalize h.push (.cells #[.int .i64 c.maxS, .int .i64 c.maxL, str c.bytes, .slice aH c.hs.length cH, str c.map] 79) = h2 at *
  generalize h.size = cb at *
  refine eff_callF rfl ((D0.attr p _ cdN [] hp hcc hpl (by simp)).mono ?_)
  rintro _ h3 ⟨rfl, D1, _⟩
  have hA0 : (seqP ([], 0) (attrP (nameR p) cdN ([], 0))).2 = (attrP (nameR p) cdN ([], 0)).2 := by rw [nilP_seq]
  obtain ⟨e0, he0⟩ : ∃ e0, e0 = thenE e (attrP (nameR p) cdN ([], 0)).2 := ⟨_, rfl⟩
  have D2 : RSt h0 h h3 g cc e0 cb [.int .i64 c.maxS, .int .i64 c.maxL, str c.bytes, .slice aH c.hs.length cH, str c.map] 79 ([], 0) := ⟨by rw [thenE_zero, he0, ← hA0]; exact D1.w, D1.f, D1.cb, D1.t2⟩
  clear D0 D1 hA0 hgs H
  have k0 : cellAt h3 ⟨cb, 0, none⟩ = some (.int .i64 c.maxS) := by rw [cellAt_of D2.cb]; rfl
  have k1 : cellAt h3 ⟨cb, 1, none⟩ = some (.int .i64 c.maxL) := by rw [cellAt_of D2.cb]; rfl
  have k2 : cellAt h3 ⟨cb, 2, none⟩ = some (str c.bytes) := by rw [cellAt_of D2.cb]; rfl
  have k3 : cellAt h3 ⟨cb, 3, none⟩ = some (.slice aH c.hs.length cH) := by rw [cellAt_of D2.cb]; rfl
  simp (disch := first | omega | assumption) only [C.rw_code_gos, T.tv, ↓reduceIte, Nat.reduceEqDiff, reduceCtorEq, Nat.reduceLeDiff, Nat.reducePow, Int.reducePow, Int.reduceToNat, Nat.reduceAdd, k0, k1, k2, k3]
  refine eff_callF rfl ((D2.num c.maxS 2 (.inl rfl)).mono ?_)
  rintro _ h4 ⟨rfl, D3, _⟩
  clear k0 k1 k2 k3 D2
  have k0 : cellAt h4 ⟨cb, 0, none⟩ = some (.int .i64 c.maxS) := by rw [cellAt_of D3.cb]; rfl
  have k1 : cellAt h4 ⟨cb, 1, none⟩ = some (.int .i64 c.maxL) := by rw [cellAt_of D3.cb]; rfl
  have k2 : cellAt h4 ⟨cb, 2, none⟩ = some (str c.bytes) := by rw [cellAt_of D3.cb]; rfl
  have k3 : cellAt h4 ⟨cb, 3, none⟩ = some (.slice aH c.hs.length cH) := by rw [cellAt_of D3.cb]; rfl
  simp (disch := first | omega | assumption) only [C.rw_code_gos, T.tv, ↓reduceIte, Nat.reduceEqDiff, reduceCtorEq, Nat.reduceLeDiff, Nat.reducePow, Int.reducePow, Int.reduceToNat, Nat.reduceAdd, k0, k1, k2, k3]
  refine eff_callF rfl ((D3.num c.maxL 2 (.inl rfl)).mono ?_)
  rintro _ h5 ⟨rfl, D4, _⟩
  have q1 : (numP c.maxS 2).1.length + (numP c.maxL 2).1.length ≤ 9223372036854775807 := by rw [numP_l, numP_l]; omega
  clear k0 k1 k2 k3 D3
  have k0 : cellAt h5 ⟨cb, 0, none⟩ = some (.int .i64 c.maxS) := by rw [cellAt_of D4.cb]; rfl
  have k1 : cellAt h5 ⟨cb, 1, none⟩ = some (.int .i64 c.maxL) := by rw [cellAt_of D4.cb]; rfl
  have k2 : cellAt h5 ⟨cb, 2, none⟩ = some (str c.bytes) := by rw [cellAt_of D4.cb]; rfl
  have k3 : cellAt h5 ⟨cb, 3, none⟩ = some (.slice aH c.hs.length cH) := by rw [cellAt_of D4.cb]; rfl
  simp (disch := first | omega | assumption) only [C.rw_code_gos, T.tv, ↓reduceIte, Nat.reduceEqDiff, reduceCtorEq, Nat.reduceLeDiff, Nat.reducePow, Int.reducePow, Int.reduceToNat, Nat.reduceAdd, k0, k1, k2, k3, bin_str_add q1]
  refine eff_callF rfl ((D4.num (c.bytes.length : Int) 4 (.inr rfl)).mono ?_)
  rintro _ h6 ⟨rfl, D5, _⟩
  have q2 : ((numP c.maxS 2).1 ++ (numP c.maxL 2).1).length + (numP (c.bytes.length : Int) 4).1.length ≤ 9223372036854775807 := by rw [List.length_append, numP_l, numP_l, numP_l]; omega
  have q3 : ((numP c.maxS 2).1 ++ (numP c.maxL 2).1 ++ (numP (c.bytes.length : Int) 4).1).length + c.bytes.length ≤ 9223372036854775807 := by rw [List.length_append, List.length_append, numP_l, numP_l, numP_l]; omega
  clear k0 k1 k2 k3 D4
  have k0 : cellAt h6 ⟨cb, 0, none⟩ = some (.int .i64 c.maxS) := by rw [cellAt_of D5.cb]; rfl
  have k1 : cellAt h6 ⟨cb, 1, none⟩ = some (.int .i64 c.maxL) := by rw [cellAt_of D5.cb]; rfl
  have k2 : cellAt h6 ⟨cb, 2, none⟩ = some (str c.bytes) := by rw [cellAt_of D5.cb]; rfl
  have k3 : cellAt h6 ⟨cb, 3, none⟩ = some (.slice aH c.hs.length cH) := by rw [cellAt_of D5.cb]; rfl
  simp (disch := first | omega | assumption) only [C.rw_code_gos, T.tv, ↓reduceIte, Nat.reduceEqDiff, reduceCtorEq, Nat.reduceLeDiff, Nat.reducePow, Int.reducePow, Int.reduceToNat, Nat.reduceAdd, k0, k1, k2, k3, bin_str_add q1, bin_str_add q2, bin_str_add q3]
  refine eff_callF rfl ((D5.num (c.hs.length : Int) 2 (.inl rfl)).mono ?_)
  rintro _ h7 ⟨rfl, D6, _⟩
  have q4 : ((numP c.maxS 2).1 ++ (numP c.maxL 2).1 ++ (numP (c.bytes.length : Int) 4).1 ++ c.bytes).length + (numP (c.hs.length : Int) 2).1.length ≤ 9223372036854775807 := by rw [List.length_append, List.length_append, List.length_append, numP_l, numP_l, numP_l, numP_l]; omega
  clear k0 k1 k2 k3 D5
  have k0 : cellAt h7 ⟨cb, 0, none⟩ = some (.int .i64 c.maxS) := by rw [cellAt_of D6.cb]; rfl
  have k1 : cellAt h7 ⟨cb, 1, none⟩ = some (.int .i64 c.maxL) := by rw [cellAt_of D6.cb]; rfl
  have k2 : cellAt h7 ⟨cb, 2, none⟩ = some (str c.bytes) := by rw [cellAt_of D6.cb]; rfl
  have k3 : cellAt h7 ⟨cb, 3, none⟩ = some (.slice aH c.hs.length cH) := by rw [cellAt_of D6.cb]; rfl
  simp (disch := first | omega | assumption) only [C.rw_code_gos, T.tv, ↓reduceIte, Nat.reduceEqDiff, reduceCtorEq, Nat.reduceLeDiff, Nat.reducePow, Int.reducePow, Int.reduceToNat, Nat.reduceAdd, k0, k1, k2, k3, bin_str_add q1, bin_str_add q2, bin_str_add q3, bin_str_add q4]
  clear q1 q2 q3 q4 k0 k1 k2
  obtain ⟨P5, hP5⟩ : ∃ P5 : Pce, P5 = ((numP c.maxS 2).1 ++ (numP c.maxL 2).1 ++ (numP (c.bytes.length : Int) 4).1 ++ c.bytes ++ (numP (c.hs.length : Int) 2).1, (seqP (seqP (seqP (seqP ([], 0) (numP c.maxS 2)) (numP c.maxL 2)) (numP (c.bytes.length : Int) 4)) (numP (c.hs.length : Int) 2)).2) := ⟨_, rfl⟩
  have hP51 : (numP c.maxS 2).1 ++ ((numP c.maxL 2).1 ++ ((numP (c.bytes.length : Int) 4).1 ++ (c.bytes ++ (numP (c.hs.length : Int) 2).1))) = P5.1 := by rw [hP5]; simp
  have hP51' : (numP c.maxS 2).1 ++ (numP c.maxL 2).1 ++ (numP (c.bytes.length : Int) 4).1 ++ c.bytes ++ (numP (c.hs.length : Int) 2).1 = P5.1 := by rw [hP5]
  have hP5l : P5.1.length ≤ 1048600 := by rw [hP5]; simp only [List.length_append, numP_l]; omega
  have D7 : RSt h0 h h7 g cc e0 cb [.int .i64 c.maxS, .int .i64 c.maxL, str c.bytes, .slice aH c.hs.length cH, str c.map] 79 P5 := ⟨by rw [hP5]; exact D6.w, D6.f, D6.cb, D6.t2⟩
  clear D6
  have hm : c.hs.length ≤ 1048576 := hhl
  rw [hP51']
  refine loop_intro [0, 1, 3, 4, 5, 35, 36, 37] (fun m ρ hc => ∃ i : Nat, ∃ S : Pce, m = c.hs.length - i ∧ i ≤ c.hs.length ∧ S = seqP P5 (allP hndP (c.hs.take i)) ∧ ρ = [(0, .pointer (some ⟨g, 0, none⟩)), (1, .agg #[.int .i64 c.maxS, .int .i64 c.maxL, str c.bytes, .slice aH c.hs.length cH, str c.map]), (3, .pointer (some ⟨cb, 0, none⟩)), (4, str []), (5, str S.1), (35, .slice aH c.hs.length cH), (36, .int .i64 c.hs.length), (37, .int .i64 i)] ∧
      RSt h0 h hc g cc e0 cb [.int .i64 c.maxS, .int .i64 c.maxL, str c.bytes, .slice aH c.hs.length cH, str c.map] 79 S) ?_ ?_
  · simp (disch := first | omega | assumption) only [C.rw_code_gos, T.tv, ↓reduceIte, Nat.reduceEqDiff, reduceCtorEq, Nat.reduceLeDiff, Nat.reducePow, Int.reducePow, Int.reduceToNat, Nat.reduceAdd]
    exact ⟨_, 0, P5, rfl, Nat.zero_le _, by simp [allP, seqP_nil], rfl, D7⟩
  clear D7 k3 hP51 hP51'
  rintro m ρ hc ⟨i, S, rfl, hi, hS, rfl, D⟩
  have hSl : S.1.length ≤ 10000000 := by
    have : (c.hs.take i).length ≤ c.hs.length := by simp; omega
    rw [hS]; simp only [seqP, List.length_append, allP_hnd_len]; omega
  rcases Nat.lt_or_ge i c.hs.length with hlt | hge
  case inr =>
    have hlt' : ¬ (i : Int) < c.hs.length := by omega
    rw [List.take_of_length_le hge] at hS
    have hcde : cdeP (nameR p) c = seqP S (if c.map = [] then (bigS 0 2, 0) else seqP (bigS 1 2, 0) (attrP (nameR p) smN (c.map, 0))) := by
      rw [hS, hP5]
      have hnb : numP (c.bytes.length : Int) 4 = (bigS c.bytes.length 4, 0) := numP_len (by omega)
      rw [hnb]
      unfold cdeP
      simp only [seqP, List.append_assoc, thenE_assoc, thenE_z, thenE_zero, List.nil_append]
    clear hS hP5 hP5l
    have k4 : cellAt hc ⟨cb, 4, none⟩ = some (str c.map) := by rw [cellAt_of D.cb]; rfl
    have hfin : ∀ (h9 : Heap) (Z : Pce), Z = cdeP (nameR p) c → Z.1.length ≤ 20000000 → RSt h0 h h9 g cc e0 cb [.int .i64 c.maxS, .int .i64 c.maxL, str c.bytes, .slice aH c.hs.length cH, str c.map] 79 Z →
        HCalls Try.prog 48 #[.pointer (some ⟨g, 0, none⟩), str cdN, str Z.1] h9 fun r h' => r = str (attrP (nameR p) cdN (cdeP (nameR p) c)).1 ∧ RW h0 h' g cc (thenE e (attrP (nameR p) cdN (cdeP (nameR p) c)).2) ∧ FrG g h h' := by
      intro h9 Z hZ hZl D9
      refine (D9.attr p _ cdN Z.1 hp hcc hpl (by omega)).mono ?_
      rintro r h' ⟨rfl, Da, _⟩
      rw [← hZ]
      refine ⟨?_, ?_, Da.f⟩
      · unfold attrP; cases nameR p cdN <;> rfl
      · have hw := Da.w
        have he : thenE e0 (seqP Z (attrP (nameR p) cdN (Z.1, 0))).2 = thenE e (attrP (nameR p) cdN Z).2 := by
          rw [he0]
          unfold attrP
          cases nameR p cdN
          · simp only [seqP, thenE_assoc]
            congr 1
          · simp only [seqP, thenE_assoc, thenE_zero, thenE_z]
        rw [he] at hw
        exact hw
    by_cases hmp : c.map = []
    · rw [if_pos hmp] at hcde
      have q1 : S.1.length + ([0, 0] : List UInt8).length ≤ 9223372036854775807 := by simp; omega
      simp (disch := first | omega | assumption) only [C.rw_code_gos, T.tv, ↓reduceIte, Nat.reduceEqDiff, reduceCtorEq, Nat.reduceLeDiff, Nat.reducePow, Int.reducePow, Int.reduceToNat, Nat.reduceAdd, hlt', k4, eq_true hmp, bin_str_add q1]
      refine eff_callF rfl ((hfin hc (seqP S (bigS 0 2, 0)) hcde.symm (by simp only [seqP, List.length_append, bigS_len]; omega) ⟨by simpa [seqP, thenE_zero] using D.w, D.f, D.cb, D.t2⟩).mono ?_)
      rintro _ h9 ⟨rfl, W9, F9⟩
      simp (disch := first | omega | assumption) only [C.rw_code_gos, T.tv, ↓reduceIte, Nat.reduceEqDiff, reduceCtorEq, Nat.reduceLeDiff, Nat.reducePow, Int.reducePow, Int.reduceToNat, Nat.reduceAdd]
      exact ⟨W9, F9⟩
    · rw [if_neg hmp] at hcde
      simp (disch := first | omega | assumption) only [C.rw_code_gos, T.tv, ↓reduceIte, Nat.reduceEqDiff, reduceCtorEq, Nat.reduceLeDiff, Nat.reducePow, Int.reducePow, Int.reduceToNat, Nat.reduceAdd, hlt', k4, eq_false hmp]
      refine eff_callF rfl ((D.attr p _ smN c.map hp hcc hpl (by omega)).mono ?_)
      rintro _ h8 ⟨rfl, D8, _⟩
      have hal := attrP_len (nameR p) smN (c.map, 0)
      simp only at hal
      have q1 : ([0, 1] : List UInt8).length + (attrP (nameR p) smN (c.map, 0)).1.length ≤ 9223372036854775807 := by simp; omega
      have q2 : S.1.length + ([0, 1] ++ (attrP (nameR p) smN (c.map, 0)).1).length ≤ 9223372036854775807 := by simp; omega
      simp only [List.cons_append, List.nil_append] at q2
      simp (disch := first | omega | assumption) only [C.rw_code_gos, T.tv, ↓reduceIte, Nat.reduceEqDiff, reduceCtorEq, Nat.reduceLeDiff, Nat.reducePow, Int.reducePow, Int.reduceToNat, Nat.reduceAdd, bin_str_add q1, List.cons_append, List.nil_append, bin_str_add q2]
      refine eff_callF rfl ((hfin h8 (seqP S (seqP (bigS 1 2, 0) (attrP (nameR p) smN (c.map, 0)))) hcde.symm (by simp only [seqP, List.length_append, bigS_len]; omega) ⟨by simpa [seqP, thenE_zero, thenE_z, thenE_assoc] using D8.w, D8.f, D8.cb, D8.t2⟩).mono ?_)
      rintro _ h9 ⟨rfl, W9, F9⟩
      simp (disch := first | omega | assumption) only [C.rw_code_gos, T.tv, ↓reduceIte, Nat.reduceEqDiff, reduceCtorEq, Nat.reduceLeDiff, Nat.reducePow, Int.reducePow, Int.reduceToNat, Nat.reduceAdd]
      exact ⟨W9, F9⟩
  have hlt' : (i : Int) < c.hs.length := by omega
  obtain ⟨bb, o, c', heq, hrd, _⟩ := (hH.ext (by decide) D.w.2.1).at hlt
  cases heq
  rw [flatH_at hlt] at hrd
  have hst := take_snocD Hnd.zero hlt
  have hfit := hcf.hs (c.hs.getD i Hnd.zero) (by simp [hlt])
  have hnext : seqP P5 (allP hndP (c.hs.take (i + 1))) = seqP S (hndP (c.hs.getD i Hnd.zero)) := by rw [hst, allP_snoc, hS, seqP_assoc]
  clear hS hst
  generalize c.hs.getD i Hnd.zero = x at *
  obtain ⟨f1, f2, f3, ty⟩ := x
  simp only [Hnd.cells] at hrd
  have hld := ld_agg T.ag_132 hrd rfl
  simp (disch := first | omega | assumption) only [C.rw_code_gos, T.tv, ↓reduceIte, Nat.reduceEqDiff, reduceCtorEq, Nat.reduceLeDiff, Nat.reducePow, Int.reducePow, Int.reduceToNat, Nat.reduceAdd, hlt', hld]
  refine eff_alloc_z T.zr_132 ?_
  simp (disch := first | omega | assumption) only [C.rw_code_gos, T.tv, ↓reduceIte, Nat.reduceEqDiff, reduceCtorEq, Nat.reduceLeDiff, Nat.reducePow, Int.reducePow, Int.reduceToNat, Nat.reduceAdd]
  refine eff_store_new_z T.zr_132 rfl rfl rfl (by simp [Value.cells, oneCell]) rfl ?_
  intro h9 x9 hlt9 hrd9 b9
  change h9[hc.size]? = some (.cells (Hnd.cells ⟨f1, f2, f3, ty⟩).toArray 132 (0, 0)) at b9
  have Da := D.ext x9
  clear hld hrd9 hrd D hlt9 x9
  generalize hc.size = q at *
  have hwt : IntKind.i64.wrap (ty : Int) = (ty : Int) := wrap_i64 (by omega) (by have := hfit.type; simp only at this; omega)
  have k0 : cellAt h9 ⟨q, 0, none⟩ = some (.int .i64 f1) := by rw [cellAt_of b9]; rfl
  have k1 : cellAt h9 ⟨q, 1, none⟩ = some (.int .i64 f2) := by rw [cellAt_of b9]; rfl
  have k2 : cellAt h9 ⟨q, 2, none⟩ = some (.int .i64 f3) := by rw [cellAt_of b9]; rfl
  have k3 : cellAt h9 ⟨q, 3, none⟩ = some (.int .u16 (ty : Int)) := by rw [cellAt_of b9]; rfl
  simp (disch := first | omega | assumption) only [C.rw_code_gos, T.tv, ↓reduceIte, Nat.reduceEqDiff, reduceCtorEq, Nat.reduceLeDiff, Nat.reducePow, Int.reducePow, Int.reduceToNat, Nat.reduceAdd, k0, k1, k2, k3, hwt]
  refine eff_callF rfl ((Da.num f1 2 (.inl rfl)).mono ?_)
  rintro _ ha ⟨rfl, Db, F⟩
  have ba := Fr_blk F b9 (Da.w.ty b9 (by decide))
  clear k0 k1 k2 k3 F
  have k0 : cellAt ha ⟨q, 0, none⟩ = some (.int .i64 f1) := by rw [cellAt_of ba]; rfl
  have k1 : cellAt ha ⟨q, 1, none⟩ = some (.int .i64 f2) := by rw [cellAt_of ba]; rfl
  have k2 : cellAt ha ⟨q, 2, none⟩ = some (.int .i64 f3) := by rw [cellAt_of ba]; rfl
  have k3 : cellAt ha ⟨q, 3, none⟩ = some (.int .u16 (ty : Int)) := by rw [cellAt_of ba]; rfl
  simp (disch := first | omega | assumption) only [C.rw_code_gos, T.tv, ↓reduceIte, Nat.reduceEqDiff, reduceCtorEq, Nat.reduceLeDiff, Nat.reducePow, Int.reducePow, Int.reduceToNat, Nat.reduceAdd, k0, k1, k2, k3, hwt]
  refine eff_callF rfl ((Db.num f2 2 (.inl rfl)).mono ?_)
  rintro _ hb ⟨rfl, Dc, F⟩
  have bb1 := Fr_blk F ba (Db.w.ty ba (by decide))
  clear k0 k1 k2 k3 F
  have q1 : (numP f1 2).1.length + (numP f2 2).1.length ≤ 9223372036854775807 := by rw [numP_l, numP_l]; omega
  have k0 : cellAt hb ⟨q, 0, none⟩ = some (.int .i64 f1) := by rw [cellAt_of bb1]; rfl
  have k1 : cellAt hb ⟨q, 1, none⟩ = some (.int .i64 f2) := by rw [cellAt_of bb1]; rfl
  have k2 : cellAt hb ⟨q, 2, none⟩ = some (.int .i64 f3) := by rw [cellAt_of bb1]; rfl
  have k3 : cellAt hb ⟨q, 3, none⟩ = some (.int .u16 (ty : Int)) := by rw [cellAt_of bb1]; rfl
  simp (disch := first | omega | assumption) only [C.rw_code_gos, T.tv, ↓reduceIte, Nat.reduceEqDiff, reduceCtorEq, Nat.reduceLeDiff, Nat.reducePow, Int.reducePow, Int.reduceToNat, Nat.reduceAdd, k0, k1, k2, k3, hwt, bin_str_add q1]
  refine eff_callF rfl ((Dc.num f3 2 (.inl rfl)).mono ?_)
  rintro _ hd ⟨rfl, Dd, F⟩
  have bd := Fr_blk F bb1 (Dc.w.ty bb1 (by decide))
  clear k0 k1 k2 k3 F
  have q2 : ((numP f1 2).1 ++ (numP f2 2).1).length + (numP f3 2).1.length ≤ 9223372036854775807 := by rw [List.length_append, numP_l, numP_l, numP_l]; omega
  have k0 : cellAt hd ⟨q, 0, none⟩ = some (.int .i64 f1) := by rw [cellAt_of bd]; rfl
  have k1 : cellAt hd ⟨q, 1, none⟩ = some (.int .i64 f2) := by rw [cellAt_of bd]; rfl
  have k2 : cellAt hd ⟨q, 2, none⟩ = some (.int .i64 f3) := by rw [cellAt_of bd]; rfl
  have k3 : cellAt hd ⟨q, 3, none⟩ = some (.int .u16 (ty : Int)) := by rw [cellAt_of bd]; rfl
  simp (disch := first | omega | assumption) only [C.rw_code_gos, T.tv, ↓reduceIte, Nat.reduceEqDiff, reduceCtorEq, Nat.reduceLeDiff, Nat.reducePow, Int.reducePow, Int.reduceToNat, Nat.reduceAdd, k0, k1, k2, k3, hwt, bin_str_add q1, bin_str_add q2]
  refine eff_callF rfl ((Dd.num (ty : Int) 2 (.inl rfl)).mono ?_)
  rintro _ he ⟨rfl, De, F⟩
  have be := Fr_blk F bd (Dd.w.ty bd (by decide))
  clear k0 k1 k2 k3 F
  have q3 : ((numP f1 2).1 ++ (numP f2 2).1 ++ (numP f3 2).1).length + (numP (ty : Int) 2).1.length ≤ 9223372036854775807 := by rw [List.length_append, List.length_append, numP_l, numP_l, numP_l, numP_l]; omega
  have q4 : S.1.length + ((numP f1 2).1 ++ (numP f2 2).1 ++ (numP f3 2).1 ++ (numP (ty : Int) 2).1).length ≤ 9223372036854775807 := by rw [List.length_append, List.length_append, List.length_append, numP_l, numP_l, numP_l, numP_l]; omega
  have hq : seqP (seqP (seqP (seqP S (numP f1 2)) (numP f2 2)) (numP f3 2)) (numP (ty : Int) 2) = seqP S (hndP ⟨f1, f2, f3, ty⟩) := by
    rw [idxP_num hfit.type]
    simp only [seqP_assoc, hndP]
  rw [hq] at De
  have hs5 : S.1 ++ ((numP f1 2).1 ++ (numP f2 2).1 ++ (numP f3 2).1 ++ (numP (ty : Int) 2).1) = (seqP S (hndP ⟨f1, f2, f3, ty⟩)).1 := by
    rw [← hq]; simp only [seqP, List.append_assoc]
  simp (disch := first | omega | assumption) only [C.rw_code_gos, T.tv, ↓reduceIte, Nat.reduceEqDiff, reduceCtorEq, Nat.reduceLeDiff, Nat.reducePow, Int.reducePow, Int.reduceToNat, Nat.reduceAdd, bin_str_add q1, bin_str_add q2, bin_str_add q3, bin_str_add q4, hs5]
  exact ⟨_, by omega, i + 1, _, rfl, by omega, hnext.symm, by simp, De⟩
end
end Go.Proofs.Ytohkbpnblkkdgaa
