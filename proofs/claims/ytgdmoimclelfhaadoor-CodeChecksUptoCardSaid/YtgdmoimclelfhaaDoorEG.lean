/- The first instruction whose operand may not be, by both; the law. No condition. -/
import Derived.Test.YtgdmoimclelfhaaDoorEF
import Derived.Test.YtgdmoimclelfhaaDoorNW
import Derived.Test.YtgdmoimclelfhaaDoorNB
namespace Go.Proofs.YtgdmoimclelfhaaDoor
open Go.Vc
set_option maxRecDepth 100000
set_option linter.unusedSimpArgs false
set_option linter.unusedVariables false
def checkP (p : List Cst) (L : Int) : List In → Int × Int
  | [] => (0, 0)
  | x :: r => if roomP x.op x.A L && operP x.op x.A x.B p then checkP p L r else (15, x.at')
theorem cst_eqk (c : Cst) : eqaC Tryd.prog 32 c.cells = true := by
  unfold eqaC
  rw [Tryd.underlying32]
  kernel_rfl
theorem flatS_onek (l : List Cst) : ∀ u ∈ flatS l, oneCell u = true := by
  intro u hu
  obtain ⟨c, _, hc⟩ := List.mem_flatMap.1 hu
  simp only [Cst.cells, List.mem_cons, List.not_mem_nil, or_false] at hc
  rcases hc with rfl | rfl | rfl | rfl | rfl <;> rfl

set_option maxHeartbeats 4000000 in
theorem check_any (l : List In) (v : Value) (h : Heap) (hl : InsC h v l) (hlf : ∀ x ∈ l, x.Fit) (hll : l.length ≤ 1048576) (L : Int) (hL : L < 9223372036854775808) {p : List Cst} {vp : Value} (hp : p.length ≤ 65536)
    (hf : ∀ c ∈ p, c.Fit) (htx : ∀ c ∈ p, c.text.length ≤ 4294967296) (hs : SlN h 5 vp p.length (flatS p)) :
    HCalls Tryd.prog 6 #[v, vp, .int .i64 L] h fun r h' => Ext h h' ∧ r = .tuple #[.int .i64 (checkP p L l).1, .int .i64 (checkP p L l).2] := by
  obtain ⟨_, _, hr2, _⟩ := id hl
  obtain ⟨_, a, c, rfl, _⟩ := hr2
  obtain ⟨_, a2, c2, rfl, _⟩ := id hs
  refine C.code_Check_calls (args := [.slice a l.length c, .slice a2 p.length c2, .int .i64 L]) rfl ?_
  simp (disch := first | omega | assumption) only [C.code_Check_gos, T.tv, ↓reduceIte, Nat.reduceEqDiff, reduceCtorEq, Nat.reduceLeDiff, Nat.reducePow, Int.reducePow, Int.reduceToNat, Nat.reduceAdd]
  refine loop_intro [1, 2, 10, 11, 12] (fun m ρ hc => ∃ i : Nat, m = l.length - i ∧ i ≤ l.length ∧
    ρ = [(1, .slice a2 p.length c2), (2, .int .i64 L), (10, .slice a l.length c), (11, .int .i64 (l.length : Int)), (12, .int .i64 (i : Int))] ∧ Ext h hc ∧ checkP p L l = checkP p L (l.drop i)) ?_ ?_
  · simp (disch := first | omega | assumption) only [C.code_Check_gos, T.tv, ↓reduceIte, Nat.reduceEqDiff, reduceCtorEq, Nat.reduceLeDiff, Nat.reducePow, Int.reducePow, Int.reduceToNat, Nat.reduceAdd]
    exact ⟨_, 0, rfl, Nat.zero_le _, rfl, Ext.refl _, by simp⟩
  rintro m ρ hc ⟨i, rfl, hi, rfl, hx, hck⟩
  by_cases hlt : i < l.length
  case neg =>
    have hlt' : ¬ (i : Int) < (l.length : Int) := by omega
    rw [hck, List.drop_of_length_le (by omega)]
    simp (disch := first | omega | assumption) only [C.code_Check_gos, T.tv, ↓reduceIte, Nat.reduceEqDiff, reduceCtorEq, Nat.reduceLeDiff, Nat.reducePow, Int.reducePow, Int.reduceToNat, Nat.reduceAdd, hlt']
    exact ⟨hx, rfl⟩
  have hlt' : (i : Int) < (l.length : Int) := by omega
  have w1 : IntKind.i64.wrap ((i : Int) + 1) = ((i + 1 : Nat) : Int) := by rw [wrap_i64 (by omega) (by omega)]; omega
  rw [drop_getD (d := in0) hlt, checkP] at hck
  have hfit := hlf (l.getD i in0) (getD_mem hlt)
  obtain ⟨b, o, c', vk, vt, heq, hrd0, sk, _, st, _⟩ := hl.at hlt
  cases heq
  generalize l.getD i in0 = x at *
  have hrd : Rd hc b (o + i * 8) (InV x vk vt) := hx.rd hrd0 (hrd0.lt (by simp [InV])) _root_.id
  obtain ⟨_, ak, ck, rfl, _⟩ := sk
  obtain ⟨_, bk, cb, rfl, _⟩ := st
  have hld := ld_agg T.ag_37 hrd rfl
  simp only [InV] at hld
  simp (disch := first | omega | assumption) only [C.code_Check_gos, T.tv, ↓reduceIte, Nat.reduceEqDiff, reduceCtorEq, Nat.reduceLeDiff, Nat.reducePow, Int.reducePow, Int.reduceToNat, Nat.reduceAdd, hlt', hld]
  refine eff_alloc_z T.zr_37 ?_
  simp (disch := first | omega | assumption) only [C.code_Check_gos, T.tv, ↓reduceIte, Nat.reduceEqDiff, reduceCtorEq, Nat.reduceLeDiff, Nat.reducePow, Int.reducePow, Int.reduceToNat, Nat.reduceAdd]
  refine eff_store_new_z T.zr_37 rfl rfl rfl (by simp [Value.cells, oneCell]) rfl ?_
  intro h3 x3 hlt3 hrd3 b3
  change h3[hc.size]? = some (rowX x ak bk x.keys.length ck x.tgts.length cb) at b3
  have hx3 := hx.trans x3
  clear hld hrd hrd3
  generalize hc.size = q at *
  have ldx : ∀ h4, Ext h3 h4 → _ := fun h4 e4 => ld_agg T.ag_37 (Rd_block (vs := [.int .i64 x.at', .int .u8 (x.op : Int), .bool x.wide, .int .i64 x.A, .int .i64 x.B, .int .i64 x.low, .slice ak x.keys.length ck, .slice bk x.tgts.length cb]) (Fr_blk e4 b3 _root_.id)) rfl
  have ld3 := ldx h3 (Ext.refl _)
  simp (disch := first | omega | assumption) only [C.code_Check_gos, T.tv, ↓reduceIte, Nat.reduceEqDiff, reduceCtorEq, Nat.reduceLeDiff, Nat.reducePow, Int.reducePow, Int.reduceToNat, Nat.reduceAdd, ld3]
  refine eff_callF rfl ((room_any (ak := ak) (bk := bk) (ck := ck) (cb := cb) (nk := x.keys.length) (nb := x.tgts.length) hfit.op L h3 hL).mono ?_)
  rintro v4 h4 ⟨x4, rfl⟩
  have c4 : cellAt h4 ⟨q, 0, none⟩ = some (.int .i64 x.at') := by rw [cellAt_of (Fr_blk x4 b3 _root_.id)]; rfl
  cases hr : roomP x.op x.A L with
  | false =>
    rw [hr, Bool.false_and, if_neg (by decide)] at hck
    rw [hck]
    simp (disch := first | omega | assumption) only [C.code_Check_gos, T.tv, ↓reduceIte, Nat.reduceEqDiff, reduceCtorEq, Nat.reduceLeDiff, Nat.reducePow, Int.reducePow, Int.reduceToNat, Nat.reduceAdd, c4]
    exact hx3.trans x4
  | true =>
    rw [hr, Bool.true_and] at hck
    have ld4 := ldx h4 x4
    simp (disch := first | omega | assumption) only [C.code_Check_gos, T.tv, ↓reduceIte, Nat.reduceEqDiff, reduceCtorEq, Nat.reduceLeDiff, Nat.reducePow, Int.reducePow, Int.reduceToNat, Nat.reduceAdd, ld4]
    refine eff_callF rfl ((operand_any (ak := ak) (bk := bk) (ck := ck) (cb := cb) (nk := x.keys.length) (nb := x.tgts.length) hfit.op hp hf htx (hs.ext (by decide) (hx3.trans x4))).mono ?_)
    rintro v5 h5 ⟨x5, rfl⟩
    have c5 : cellAt h5 ⟨q, 0, none⟩ = some (.int .i64 x.at') := by rw [cellAt_of (Fr_blk (x4.trans x5) b3 _root_.id)]; rfl
    cases ho : operP x.op x.A x.B p with
    | false =>
      rw [ho, if_neg (by decide)] at hck
      rw [hck]
      simp (disch := first | omega | assumption) only [C.code_Check_gos, T.tv, ↓reduceIte, Nat.reduceEqDiff, reduceCtorEq, Nat.reduceLeDiff, Nat.reducePow, Int.reducePow, Int.reduceToNat, Nat.reduceAdd, c5]
      exact (hx3.trans x4).trans x5
    | true =>
      rw [ho, if_pos rfl] at hck
      simp (disch := first | omega | assumption) only [C.code_Check_gos, T.tv, ↓reduceIte, Nat.reduceEqDiff, reduceCtorEq, Nat.reduceLeDiff, Nat.reducePow, Int.reducePow, Int.reduceToNat, Nat.reduceAdd, w1]
      exact ⟨l.length - (i + 1), by omega, i + 1, rfl, by omega, rfl, (hx3.trans x4).trans x5, hck⟩
set_option maxHeartbeats 4000000 in
theorem rcheck_any (l : List In) (v : Value) (h : Heap) (hl : InsC h v l) (hlf : ∀ x ∈ l, x.Fit) (hll : l.length ≤ 1048576) (L : Int) (hL : L < 9223372036854775808) {p : List Cst} {vp : Value} (hp : p.length ≤ 65536)
    (hf : ∀ c ∈ p, c.Fit) (htx : ∀ c ∈ p, c.text.length ≤ 4294967296) (hs : SlN h 5 vp p.length (flatS p)) :
    HCalls Tryd.prog 7 #[v, vp, .int .i64 L] h fun r h' => Ext h h' ∧ r = .tuple #[.int .i64 (checkP p L l).1, .int .i64 (checkP p L l).2] := by
  obtain ⟨_, _, hr2, _⟩ := id hl
  obtain ⟨_, a, c, rfl, _⟩ := hr2
  obtain ⟨_, a2, c2, rfl, _⟩ := id hs
  refine C.ref2_Check_calls (args := [.slice a l.length c, .slice a2 p.length c2, .int .i64 L]) rfl ?_
  simp (disch := first | omega | assumption) only [C.ref2_Check_gos, T.tv, ↓reduceIte, Nat.reduceEqDiff, reduceCtorEq, Nat.reduceLeDiff, Nat.reducePow, Int.reducePow, Int.reduceToNat, Nat.reduceAdd]
  refine loop_intro [1, 2, 10, 11, 12] (fun m ρ hc => ∃ i : Nat, m = l.length - i ∧ i ≤ l.length ∧
    ρ = [(1, .slice a2 p.length c2), (2, .int .i64 L), (10, .slice a l.length c), (11, .int .i64 (l.length : Int)), (12, .int .i64 (i : Int))] ∧ Ext h hc ∧ checkP p L l = checkP p L (l.drop i)) ?_ ?_
  · simp (disch := first | omega | assumption) only [C.ref2_Check_gos, T.tv, ↓reduceIte, Nat.reduceEqDiff, reduceCtorEq, Nat.reduceLeDiff, Nat.reducePow, Int.reducePow, Int.reduceToNat, Nat.reduceAdd]
    exact ⟨_, 0, rfl, Nat.zero_le _, rfl, Ext.refl _, by simp⟩
  rintro m ρ hc ⟨i, rfl, hi, rfl, hx, hck⟩
  by_cases hlt : i < l.length
  case neg =>
    have hlt' : ¬ (i : Int) < (l.length : Int) := by omega
    rw [hck, List.drop_of_length_le (by omega)]
    simp (disch := first | omega | assumption) only [C.ref2_Check_gos, T.tv, ↓reduceIte, Nat.reduceEqDiff, reduceCtorEq, Nat.reduceLeDiff, Nat.reducePow, Int.reducePow, Int.reduceToNat, Nat.reduceAdd, hlt']
    exact ⟨hx, rfl⟩
  have hlt' : (i : Int) < (l.length : Int) := by omega
  have w1 : IntKind.i64.wrap ((i : Int) + 1) = ((i + 1 : Nat) : Int) := by rw [wrap_i64 (by omega) (by omega)]; omega
  rw [drop_getD (d := in0) hlt, checkP] at hck
  have hfit := hlf (l.getD i in0) (getD_mem hlt)
  obtain ⟨b, o, c', vk, vt, heq, hrd0, sk, _, st, _⟩ := hl.at hlt
  cases heq
  generalize l.getD i in0 = x at *
  have hrd : Rd hc b (o + i * 8) (InV x vk vt) := hx.rd hrd0 (hrd0.lt (by simp [InV])) _root_.id
  obtain ⟨_, ak, ck, rfl, _⟩ := sk
  obtain ⟨_, bk, cb, rfl, _⟩ := st
  have hld := ld_agg T.ag_37 hrd rfl
  simp only [InV] at hld
  simp (disch := first | omega | assumption) only [C.ref2_Check_gos, T.tv, ↓reduceIte, Nat.reduceEqDiff, reduceCtorEq, Nat.reduceLeDiff, Nat.reducePow, Int.reducePow, Int.reduceToNat, Nat.reduceAdd, hlt', hld]
  refine eff_alloc_z T.zr_37 ?_
  simp (disch := first | omega | assumption) only [C.ref2_Check_gos, T.tv, ↓reduceIte, Nat.reduceEqDiff, reduceCtorEq, Nat.reduceLeDiff, Nat.reducePow, Int.reducePow, Int.reduceToNat, Nat.reduceAdd]
  refine eff_store_new_z T.zr_37 rfl rfl rfl (by simp [Value.cells, oneCell]) rfl ?_
  intro h3 x3 hlt3 hrd3 b3
  change h3[hc.size]? = some (rowX x ak bk x.keys.length ck x.tgts.length cb) at b3
  have hx3 := hx.trans x3
  clear hld hrd hrd3
  generalize hc.size = q at *
  have ldx : ∀ h4, Ext h3 h4 → _ := fun h4 e4 => ld_agg T.ag_37 (Rd_block (vs := [.int .i64 x.at', .int .u8 (x.op : Int), .bool x.wide, .int .i64 x.A, .int .i64 x.B, .int .i64 x.low, .slice ak x.keys.length ck, .slice bk x.tgts.length cb]) (Fr_blk e4 b3 _root_.id)) rfl
  have ld3 := ldx h3 (Ext.refl _)
  simp (disch := first | omega | assumption) only [C.ref2_Check_gos, T.tv, ↓reduceIte, Nat.reduceEqDiff, reduceCtorEq, Nat.reduceLeDiff, Nat.reducePow, Int.reducePow, Int.reduceToNat, Nat.reduceAdd, ld3]
  refine eff_callF rfl ((rroom_any (ak := ak) (bk := bk) (ck := ck) (cb := cb) (nk := x.keys.length) (nb := x.tgts.length) hfit.op L h3 hL).mono ?_)
  rintro v4 h4 ⟨x4, rfl⟩
  have c4 : cellAt h4 ⟨q, 0, none⟩ = some (.int .i64 x.at') := by rw [cellAt_of (Fr_blk x4 b3 _root_.id)]; rfl
  cases hr : roomP x.op x.A L with
  | false =>
    rw [hr, Bool.false_and, if_neg (by decide)] at hck
    rw [hck]
    simp (disch := first | omega | assumption) only [C.ref2_Check_gos, T.tv, ↓reduceIte, Nat.reduceEqDiff, reduceCtorEq, Nat.reduceLeDiff, Nat.reducePow, Int.reducePow, Int.reduceToNat, Nat.reduceAdd, c4]
    exact hx3.trans x4
  | true =>
    rw [hr, Bool.true_and] at hck
    have ld4 := ldx h4 x4
    simp (disch := first | omega | assumption) only [C.ref2_Check_gos, T.tv, ↓reduceIte, Nat.reduceEqDiff, reduceCtorEq, Nat.reduceLeDiff, Nat.reducePow, Int.reducePow, Int.reduceToNat, Nat.reduceAdd, ld4]
    refine eff_callF rfl ((roperand_any (ak := ak) (bk := bk) (ck := ck) (cb := cb) (nk := x.keys.length) (nb := x.tgts.length) hfit.op hf htx (hs.ext (by decide) (hx3.trans x4))).mono ?_)
    rintro v5 h5 ⟨x5, rfl⟩
    have c5 : cellAt h5 ⟨q, 0, none⟩ = some (.int .i64 x.at') := by rw [cellAt_of (Fr_blk (x4.trans x5) b3 _root_.id)]; rfl
    cases ho : operP x.op x.A x.B p with
    | false =>
      rw [ho, if_neg (by decide)] at hck
      rw [hck]
      simp (disch := first | omega | assumption) only [C.ref2_Check_gos, T.tv, ↓reduceIte, Nat.reduceEqDiff, reduceCtorEq, Nat.reduceLeDiff, Nat.reducePow, Int.reducePow, Int.reduceToNat, Nat.reduceAdd, c5]
      exact (hx3.trans x4).trans x5
    | true =>
      rw [ho, if_pos rfl] at hck
      simp (disch := first | omega | assumption) only [C.ref2_Check_gos, T.tv, ↓reduceIte, Nat.reduceEqDiff, reduceCtorEq, Nat.reduceLeDiff, Nat.reducePow, Int.reducePow, Int.reduceToNat, Nat.reduceAdd, w1]
      exact ⟨l.length - (i + 1), by omega, i + 1, rfl, by omega, rfl, (hx3.trans x4).trans x5, hck⟩

set_option maxHeartbeats 4000000 in
theorem codeChecks_any (l : List In) (v : Value) (h : Heap) (hl : InsC h v l) (hlf : ∀ x ∈ l, x.Fit) (hll : l.length ≤ 1048576) (hLl : ∀ x ∈ l, x.keys.length ≤ 1048576 ∧ x.tgts.length ≤ 1048576) (L : Int) (hL : L < 9223372036854775808)
    {p : List Cst} {vp : Value} (hp : p.length ≤ 1048576) (hf : ∀ c ∈ p, c.Fit) (htx : ∀ c ∈ p, c.text.length ≤ 4294967296) (hs : SlN h 5 vp p.length (flatS p)) :
    HCalls Tryd.prog 3 #[v, vp, .int .i64 L] h fun r h' => Ext h h' ∧ r = .bool true := by
  obtain ⟨_, _, hr2, _⟩ := id hl
  obtain ⟨_, a, c, rfl, _⟩ := hr2
  obtain ⟨_, a2, c2, rfl, _⟩ := id hs
  refine C.law2_CodeChecks_calls (args := [.slice a l.length c, .slice a2 p.length c2, .int .i64 L]) rfl ?_
  simp (disch := first | omega | assumption) only [C.law2_CodeChecks_gos, T.tv, ↓reduceIte, Nat.reduceEqDiff, reduceCtorEq, Nat.reduceLeDiff, Nat.reducePow, Int.reducePow, Int.reduceToNat, Nat.reduceAdd]
  refine eff_callF rfl ((weight_any l _ h hl hll hLl).mono ?_)
  rintro v1 h1 ⟨x1, n, rfl, hn⟩
  have w0 : IntKind.i64.wrap ((n : Int) + (p.length : Int)) = (n : Int) + (p.length : Int) := wrap_i64 (by omega) (by omega)
  by_cases hbig : (32768 : Int) < (n : Int) + (p.length : Int)
  · simp (disch := first | omega | assumption) only [C.law2_CodeChecks_gos, T.tv, ↓reduceIte, Nat.reduceEqDiff, reduceCtorEq, Nat.reduceLeDiff, Nat.reducePow, Int.reducePow, Int.reduceToNat, Nat.reduceAdd, w0, hbig]
    exact x1
  have hp6 : p.length ≤ 65536 := by omega
  simp (disch := first | omega | assumption) only [C.law2_CodeChecks_gos, T.tv, ↓reduceIte, Nat.reduceEqDiff, reduceCtorEq, Nat.reduceLeDiff, Nat.reducePow, Int.reducePow, Int.reduceToNat, Nat.reduceAdd, w0, hbig]
  refine eff_callF rfl ((twin_any l _ h1 (hl.ext x1) hll hLl).mono ?_)
  rintro v2 h2 ⟨x2, tw2⟩
  obtain ⟨_, _, hr2, _⟩ := id tw2
  obtain ⟨_, at2, ct2, rfl, _⟩ := hr2
  have y2 := x1.trans x2
  simp (disch := first | omega | assumption) only [C.law2_CodeChecks_gos, T.tv, ↓reduceIte, Nat.reduceEqDiff, reduceCtorEq, Nat.reduceLeDiff, Nat.reducePow, Int.reducePow, Int.reduceToNat, Nat.reduceAdd]
  refine eff_append_slN (base := h.size) T.slT_23 rfl rfl Own.nil (hs.ext (by decide) y2) (flatS_onek p) (by omega) (by omega) y2.size ?_
  intro v3 h3 own3 fr3
  have x3 : Ext h2 h3 := ⟨fr3.size, fun k hk _ => fr3.same k hk (by simp [Value.ownBlock])⟩
  simp only [Nat.zero_add, List.nil_append] at own3
  have y3 := y2.trans x3
  have hq3 := own3.slN
  obtain ⟨_, a3, c3, rfl, _⟩ := id hq3
  try simp only [Nat.zero_add]
  simp (disch := first | omega | assumption) only [C.law2_CodeChecks_gos, T.tv, ↓reduceIte, Nat.reduceEqDiff, reduceCtorEq, Nat.reduceLeDiff, Nat.reducePow, Int.reducePow, Int.reduceToNat, Nat.reduceAdd]
  refine eff_callF rfl ((check_any l _ h3 (hl.ext y3) hlf hll L hL hp6 hf htx (hs.ext (by decide) y3)).mono ?_)
  rintro v4 h4 ⟨x4, rfl⟩
  have y4 := y3.trans x4
  simp (disch := first | omega | assumption) only [C.law2_CodeChecks_gos, T.tv, ↓reduceIte, Nat.reduceEqDiff, reduceCtorEq, Nat.reduceLeDiff, Nat.reducePow, Int.reducePow, Int.reduceToNat, Nat.reduceAdd]
  refine eff_callF rfl ((rcheck_any l _ h4 (tw2.ext (x3.trans x4)) hlf hll L hL hp6 hf htx (hq3.ext (by decide) x4)).mono ?_)
  rintro v5 h5 ⟨x5, rfl⟩
  have y5 := y4.trans x5
  have ps := hs.ext (by decide) y5
  have qs := hq3.ext (by decide) (x4.trans x5)
  generalize (checkP p L l).1 = r1 at *
  generalize (checkP p L l).2 = r2 at *
  simp (disch := first | omega | assumption) only [C.law2_CodeChecks_gos, T.tv, ↓reduceIte, Nat.reduceEqDiff, reduceCtorEq, Nat.reduceLeDiff, Nat.reducePow, Int.reducePow, Int.reduceToNat, Nat.reduceAdd]
  refine loop_intro [0, 1, 7, 8, 9, 10, 11, 12, 39, 40] (fun m ρ hc => ∃ i : Nat, m = p.length - i ∧ i ≤ p.length ∧
    ρ = [(0, .slice a l.length c), (1, .slice a2 p.length c2), (7, .slice at2 l.length ct2), (8, .slice a3 p.length c3), (9, .int .i64 r1), (10, .int .i64 r2), (11, .int .i64 r1), (12, .int .i64 r2), (39, .int .i64 (p.length : Int)), (40, .int .i64 (i : Int))] ∧ hc = h5) ?_ ?_
  · simp (disch := first | omega | assumption) only [C.law2_CodeChecks_gos, T.tv, ↓reduceIte, Nat.reduceEqDiff, reduceCtorEq, Nat.reduceLeDiff, Nat.reducePow, Int.reducePow, Int.reduceToNat, Nat.reduceAdd]
    exact ⟨_, 0, rfl, Nat.zero_le _, rfl⟩
  rintro m ρ hc ⟨i, rfl, hi, rfl, rfl⟩
  by_cases hlt : i < p.length
  · have hlt' : (i : Int) < (p.length : Int) := by omega
    have w1 : IntKind.i64.wrap ((i : Int) + 1) = ((i + 1 : Nat) : Int) := by rw [wrap_i64 (by omega) (by omega)]; omega
    obtain ⟨b, o, c', heq, hrd, _⟩ := ps.at hlt
    obtain ⟨b2, o2, c2', heq2, hrd2, _⟩ := qs.at hlt
    cases heq
    cases heq2
    rw [flatS_at hlt] at hrd hrd2
    generalize p.getD i Cst.zero = k at *
    have hld := ld_agg T.ag_32 hrd rfl
    have hld2 := ld_agg T.ag_32 hrd2 rfl
    have hq := fun x y => bin_agg_neq (x := x) (y := y) (h := hc) (cst_eqk k)
    simp (disch := first | omega | assumption) only [C.law2_CodeChecks_gos, T.tv, ↓reduceIte, Nat.reduceEqDiff, reduceCtorEq, Nat.reduceLeDiff, Nat.reducePow, Int.reducePow, Int.reduceToNat, Nat.reduceAdd, hlt', hld, hld2, hq, w1, decide_true, decide_false]
    exact ⟨p.length - (i + 1), by omega, i + 1, rfl, by omega, rfl⟩
  · have hlt' : ¬ (i : Int) < (p.length : Int) := by omega
    simp (disch := first | omega | assumption) only [C.law2_CodeChecks_gos, T.tv, ↓reduceIte, Nat.reduceEqDiff, reduceCtorEq, Nat.reduceLeDiff, Nat.reducePow, Int.reducePow, Int.reduceToNat, Nat.reduceAdd, hlt', decide_true]
    refine eff_callF rfl ((same_any l _ _ hc (hl.ext y5) (tw2.ext ((x3.trans x4).trans x5)) hll hLl).mono ?_)
    rintro v6 h6 ⟨x6, rfl⟩
    simp (disch := first | omega | assumption) only [C.law2_CodeChecks_gos, T.tv, ↓reduceIte, Nat.reduceEqDiff, reduceCtorEq, Nat.reduceLeDiff, Nat.reducePow, Int.reducePow, Int.reduceToNat, Nat.reduceAdd]
    exact y5.trans x6
end Go.Proofs.YtgdmoimclelfhaaDoor
