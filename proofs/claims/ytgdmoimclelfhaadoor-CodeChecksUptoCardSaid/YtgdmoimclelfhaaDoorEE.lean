/- Operands of instructions, by the program. No condition. -/
import Derived.Test.YtgdmoimclelfhaaDoorED
namespace Go.Proofs.YtgdmoimclelfhaaDoor
open Go.Vc
set_option maxRecDepth 100000
set_option linter.unusedSimpArgs false
set_option linter.unusedVariables false
section
variable {x : In} {ak bk : Option Addr} {nk ck nb cb : Nat} {p : List Cst} {vp : Value}
theorem isI_k {p : List Cst} (hp : p.length ≤ 65536) {A : Int} {t : Nat} (h : isI p A t = true) : u16n A = A.toNat ∧ 0 < A.toNat ∧ A.toNat < p.length := by
  have h' := h
  rw [isI_eq hp, Bool.and_eq_true, decide_eq_true_eq] at h'
  have := isS_lt h'.2
  omega
set_option maxHeartbeats 16000000 in
theorem operand_any {h : Heap} (hop : x.op < 256) (hp : p.length ≤ 65536) (hf : ∀ c ∈ p, c.Fit) (htx : ∀ c ∈ p, c.text.length ≤ 4294967296) (hs : SlN h 5 vp p.length (flatS p)) :
    HCalls Tryd.prog 10 #[aggX x ak bk nk ck nb cb, vp] h fun v h' => Ext h h' ∧ v = .bool (operP x.op x.A x.B p) := by
  have hs' := hs
  obtain ⟨_, a, c, rfl, _⟩ := hs'
  refine C.code_operand_calls (args := [aggX x ak bk nk ck nb cb, .slice a p.length c]) rfl ?_
  simp (disch := first | omega | assumption) only [C.code_operand_gos, T.tv, ↓reduceIte, Nat.reduceEqDiff, reduceCtorEq, Nat.reduceLeDiff, Nat.reducePow, Int.reducePow, Int.reduceToNat, Nat.reduceAdd]
  refine eff_box ?_
  have q0 : (h.push (rowX x ak bk nk ck nb cb))[h.size]? = some (rowX x ak bk nk ck nb cb) := by simp
  have E1 := Ext.push h (rowX x ak bk nk ck nb cb)
  simp (disch := first | omega | assumption) only [C.code_operand_gos, T.tv, ↓reduceIte, Nat.reduceEqDiff, reduceCtorEq, Nat.reduceLeDiff, Nat.reducePow, Int.reducePow, Int.reduceToNat, Nat.reduceAdd, Nat.zero_add]
  generalize h.push (rowX x ak bk nk ck nb cb) = h1 at *
  generalize h.size = gx at *
  refine eff_box ?_
  have q2 : (h1.push (.cells #[.slice a p.length c] 23))[h1.size]? = some (.cells #[.slice a p.length c] 23 (0, 0)) := by simp
  have E2 := Ext.push h1 (.cells #[.slice a p.length c] 23)
  have q1 := Fr_blk E2 q0 _root_.id
  simp (disch := first | omega | assumption) only [C.code_operand_gos, T.tv, ↓reduceIte, Nat.reduceEqDiff, reduceCtorEq, Nat.reduceLeDiff, Nat.reducePow, Int.reducePow, Int.reduceToNat, Nat.reduceAdd, Nat.zero_add]
  generalize h1.push (.cells #[.slice a p.length c] 23) = h2 at *
  generalize h1.size = gp at *
  have x3 : cellAt h2 ⟨gx, 3, none⟩ = some (.int .i64 x.A) := by rw [cellAt_of q1]; rfl
  simp (disch := first | omega | assumption) only [C.code_operand_gos, T.tv, ↓reduceIte, Nat.reduceEqDiff, reduceCtorEq, Nat.reduceLeDiff, Nat.reducePow, Int.reducePow, Int.reduceToNat, Nat.reduceAdd, x3, u16n_wrap]
  refine eff_alloc_z T.zr_30 ?_
  simp (disch := first | omega | assumption) only [C.code_operand_gos, T.tv, ↓reduceIte, Nat.reduceEqDiff, reduceCtorEq, Nat.reduceLeDiff, Nat.reducePow, Int.reducePow, Int.reduceToNat, Nat.reduceAdd]
  refine eff_store_new_z T.zr_30 rfl rfl rfl (by simp [Value.cells, oneCell]) rfl ?_
  intro h3 e3 _ _ b3
  have hx3 := (E1.trans E2).trans e3
  have qx := Fr_blk e3 q1 _root_.id
  have qp := Fr_blk e3 q2 _root_.id
  have qk : h3[h2.size]? = some (.cells #[.int .u16 ((u16n x.A : Nat) : Int)] 30 (0, 0)) := b3
  clear q0 q1 q2 b3 x3 e3 E1 E2
  generalize h2.size = gk at *
  have x1 : cellAt h3 ⟨gx, 1, none⟩ = some (.int .u8 (x.op : Int)) := by rw [cellAt_of qx]; rfl
  simp (disch := first | omega | assumption) only [C.code_operand_gos, T.tv, ↓reduceIte, Nat.reduceEqDiff, reduceCtorEq, Nat.reduceLeDiff, Nat.reducePow, Int.reducePow, Int.reduceToNat, Nat.reduceAdd, x1]
  have key : ∀ h4, Ext h3 h4 → cellAt h4 ⟨gk, 0, none⟩ = some (.int .u16 ((u16n x.A : Nat) : Int)) ∧ cellAt h4 ⟨gx, 3, none⟩ = some (.int .i64 x.A) ∧ cellAt h4 ⟨gx, 4, none⟩ = some (.int .i64 x.B) ∧ cellAt h4 ⟨gp, 0, none⟩ = some (.slice a p.length c) ∧ SlN h4 5 (.slice a p.length c) p.length (flatS p) ∧ h4[gx]? = some (rowX x ak bk nk ck nb cb) := by
    intro h4 e
    have q1 := Fr_blk e qx _root_.id
    have q2 := Fr_blk e qp _root_.id
    have q3 := Fr_blk e qk _root_.id
    refine ⟨?_, ?_, ?_, ?_, hs.ext (by decide) (hx3.trans e), q1⟩
    · rw [cellAt_of q3]; rfl
    · rw [cellAt_of q1]; rfl
    · rw [cellAt_of q1]; rfl
    · rw [cellAt_of q2]; rfl
  clear qx qp qk
  by_cases e18 : (x.op : Int) = 18
  case pos =>
    rw [show operP x.op x.A x.B p = ([3, 4, 8].any (isI p x.A)) by unfold operP; rw [if_pos (by omega)]]
    simp (disch := first | omega | assumption) only [C.code_operand_gos, T.tv, ↓reduceIte, Nat.reduceEqDiff, reduceCtorEq, Nat.reduceLeDiff, Nat.reducePow, Int.reducePow, Int.reduceToNat, Nat.reduceAdd, x1, eq_true e18, decide_true, decide_false]
    refine eff_lits T.slT_44 rfl rfl (by decide) ?_
    simp (disch := first | omega | assumption) only [C.code_operand_gos, T.tv, ↓reduceIte, Nat.reduceEqDiff, reduceCtorEq, Nat.reduceLeDiff, Nat.reducePow, Int.reducePow, Int.reduceToNat, Nat.reduceAdd]
    have e4 := Ext.push h3 (.cells #[.int .u8 3, .int .u8 4, .int .u8 8] 5)
    have hts : Sl (h3.push (.cells #[.int .u8 3, .int .u8 4, .int .u8 8] 5)) (.slice (some ⟨h3.size, 0, none⟩) 3 3) (([3, 4, 8] : List Nat).map fun t : Nat => .int .u8 (t : Int)) := ⟨_, _, rfl, .inr ⟨_, _, rfl, Rd_new (vs := [.int .u8 3, .int .u8 4, .int .u8 8])⟩⟩
    generalize h3.push (.cells #[.int .u8 3, .int .u8 4, .int .u8 8] 5) = h4 at *
    generalize h3.size = gt at *
    obtain ⟨c1, c2, c5, c3, hs4, qx⟩ := key h4 e4
    refine eff_call_of  ?_
    simp (disch := first | omega | assumption) only [C.code_operand_gos, T.tv, ↓reduceIte, Nat.reduceEqDiff, reduceCtorEq, Nat.reduceLeDiff, Nat.reducePow, Int.reducePow, Int.reduceToNat, Nat.reduceAdd]
    refine (cis_any [3, 4, 8] (by decide) hts c1 c2 c3 hp hs4).mono ?_
    rintro v5 h5 ⟨rfl, rfl⟩
    simp (disch := first | omega | assumption) only [C.code_operand_gos, T.tv, ↓reduceIte, Nat.reduceEqDiff, reduceCtorEq, Nat.reduceLeDiff, Nat.reducePow, Int.reducePow, Int.reduceToNat, Nat.reduceAdd]
    first | exact hx3.trans e4 | exact ⟨hx3.trans e4, rfl⟩
  by_cases e19 : (x.op : Int) = 19
  case pos =>
    rw [show operP x.op x.A x.B p = ([3, 4, 8].any (isI p x.A)) by unfold operP; rw [if_pos (by omega)]]
    simp (disch := first | omega | assumption) only [C.code_operand_gos, T.tv, ↓reduceIte, Nat.reduceEqDiff, reduceCtorEq, Nat.reduceLeDiff, Nat.reducePow, Int.reducePow, Int.reduceToNat, Nat.reduceAdd, x1, eq_false e18, eq_true e19, decide_true, decide_false]
    refine eff_lits T.slT_44 rfl rfl (by decide) ?_
    simp (disch := first | omega | assumption) only [C.code_operand_gos, T.tv, ↓reduceIte, Nat.reduceEqDiff, reduceCtorEq, Nat.reduceLeDiff, Nat.reducePow, Int.reducePow, Int.reduceToNat, Nat.reduceAdd]
    have e4 := Ext.push h3 (.cells #[.int .u8 3, .int .u8 4, .int .u8 8] 5)
    have hts : Sl (h3.push (.cells #[.int .u8 3, .int .u8 4, .int .u8 8] 5)) (.slice (some ⟨h3.size, 0, none⟩) 3 3) (([3, 4, 8] : List Nat).map fun t : Nat => .int .u8 (t : Int)) := ⟨_, _, rfl, .inr ⟨_, _, rfl, Rd_new (vs := [.int .u8 3, .int .u8 4, .int .u8 8])⟩⟩
    generalize h3.push (.cells #[.int .u8 3, .int .u8 4, .int .u8 8] 5) = h4 at *
    generalize h3.size = gt at *
    obtain ⟨c1, c2, c5, c3, hs4, qx⟩ := key h4 e4
    refine eff_call_of  ?_
    simp (disch := first | omega | assumption) only [C.code_operand_gos, T.tv, ↓reduceIte, Nat.reduceEqDiff, reduceCtorEq, Nat.reduceLeDiff, Nat.reducePow, Int.reducePow, Int.reduceToNat, Nat.reduceAdd]
    refine (cis_any [3, 4, 8] (by decide) hts c1 c2 c3 hp hs4).mono ?_
    rintro v5 h5 ⟨rfl, rfl⟩
    simp (disch := first | omega | assumption) only [C.code_operand_gos, T.tv, ↓reduceIte, Nat.reduceEqDiff, reduceCtorEq, Nat.reduceLeDiff, Nat.reducePow, Int.reducePow, Int.reduceToNat, Nat.reduceAdd]
    first | exact hx3.trans e4 | exact ⟨hx3.trans e4, rfl⟩
  by_cases e20 : (x.op : Int) = 20
  case pos =>
    rw [show operP x.op x.A x.B p = ([5, 6].any (isI p x.A)) by unfold operP; rw [if_neg (by omega), if_pos (by omega)]]
    simp (disch := first | omega | assumption) only [C.code_operand_gos, T.tv, ↓reduceIte, Nat.reduceEqDiff, reduceCtorEq, Nat.reduceLeDiff, Nat.reducePow, Int.reducePow, Int.reduceToNat, Nat.reduceAdd, x1, eq_false e18, eq_false e19, eq_true e20, decide_true, decide_false]
    refine eff_lits T.slT_44 rfl rfl (by decide) ?_
    simp (disch := first | omega | assumption) only [C.code_operand_gos, T.tv, ↓reduceIte, Nat.reduceEqDiff, reduceCtorEq, Nat.reduceLeDiff, Nat.reducePow, Int.reducePow, Int.reduceToNat, Nat.reduceAdd]
    have e4 := Ext.push h3 (.cells #[.int .u8 5, .int .u8 6] 5)
    have hts : Sl (h3.push (.cells #[.int .u8 5, .int .u8 6] 5)) (.slice (some ⟨h3.size, 0, none⟩) 2 2) (([5, 6] : List Nat).map fun t : Nat => .int .u8 (t : Int)) := ⟨_, _, rfl, .inr ⟨_, _, rfl, Rd_new (vs := [.int .u8 5, .int .u8 6])⟩⟩
    generalize h3.push (.cells #[.int .u8 5, .int .u8 6] 5) = h4 at *
    generalize h3.size = gt at *
    obtain ⟨c1, c2, c5, c3, hs4, qx⟩ := key h4 e4
    refine eff_call_of  ?_
    simp (disch := first | omega | assumption) only [C.code_operand_gos, T.tv, ↓reduceIte, Nat.reduceEqDiff, reduceCtorEq, Nat.reduceLeDiff, Nat.reducePow, Int.reducePow, Int.reduceToNat, Nat.reduceAdd]
    refine (cis_any [5, 6] (by decide) hts c1 c2 c3 hp hs4).mono ?_
    rintro v5 h5 ⟨rfl, rfl⟩
    simp (disch := first | omega | assumption) only [C.code_operand_gos, T.tv, ↓reduceIte, Nat.reduceEqDiff, reduceCtorEq, Nat.reduceLeDiff, Nat.reducePow, Int.reducePow, Int.reduceToNat, Nat.reduceAdd]
    first | exact hx3.trans e4 | exact ⟨hx3.trans e4, rfl⟩
  by_cases e178 : (x.op : Int) = 178
  case pos =>
    rw [show operP x.op x.A x.B p = ([9].any (isI p x.A)) by unfold operP; rw [if_neg (by omega), if_neg (by omega), if_pos (by omega)]]
    simp (disch := first | omega | assumption) only [C.code_operand_gos, T.tv, ↓reduceIte, Nat.reduceEqDiff, reduceCtorEq, Nat.reduceLeDiff, Nat.reducePow, Int.reducePow, Int.reduceToNat, Nat.reduceAdd, x1, eq_false e18, eq_false e19, eq_false e20, eq_true e178, decide_true, decide_false]
    refine eff_lits T.slT_44 rfl rfl (by decide) ?_
    simp (disch := first | omega | assumption) only [C.code_operand_gos, T.tv, ↓reduceIte, Nat.reduceEqDiff, reduceCtorEq, Nat.reduceLeDiff, Nat.reducePow, Int.reducePow, Int.reduceToNat, Nat.reduceAdd]
    have e4 := Ext.push h3 (.cells #[.int .u8 9] 5)
    have hts : Sl (h3.push (.cells #[.int .u8 9] 5)) (.slice (some ⟨h3.size, 0, none⟩) 1 1) (([9] : List Nat).map fun t : Nat => .int .u8 (t : Int)) := ⟨_, _, rfl, .inr ⟨_, _, rfl, Rd_new (vs := [.int .u8 9])⟩⟩
    generalize h3.push (.cells #[.int .u8 9] 5) = h4 at *
    generalize h3.size = gt at *
    obtain ⟨c1, c2, c5, c3, hs4, qx⟩ := key h4 e4
    refine eff_call_of  ?_
    simp (disch := first | omega | assumption) only [C.code_operand_gos, T.tv, ↓reduceIte, Nat.reduceEqDiff, reduceCtorEq, Nat.reduceLeDiff, Nat.reducePow, Int.reducePow, Int.reduceToNat, Nat.reduceAdd]
    refine (cis_any [9] (by decide) hts c1 c2 c3 hp hs4).mono ?_
    rintro v5 h5 ⟨rfl, rfl⟩
    simp (disch := first | omega | assumption) only [C.code_operand_gos, T.tv, ↓reduceIte, Nat.reduceEqDiff, reduceCtorEq, Nat.reduceLeDiff, Nat.reducePow, Int.reducePow, Int.reduceToNat, Nat.reduceAdd]
    first | exact hx3.trans e4 | exact ⟨hx3.trans e4, rfl⟩
  by_cases e179 : (x.op : Int) = 179
  case pos =>
    rw [show operP x.op x.A x.B p = ([9].any (isI p x.A)) by unfold operP; rw [if_neg (by omega), if_neg (by omega), if_pos (by omega)]]
    simp (disch := first | omega | assumption) only [C.code_operand_gos, T.tv, ↓reduceIte, Nat.reduceEqDiff, reduceCtorEq, Nat.reduceLeDiff, Nat.reducePow, Int.reducePow, Int.reduceToNat, Nat.reduceAdd, x1, eq_false e18, eq_false e19, eq_false e20, eq_false e178, eq_true e179, decide_true, decide_false]
    refine eff_lits T.slT_44 rfl rfl (by decide) ?_
    simp (disch := first | omega | assumption) only [C.code_operand_gos, T.tv, ↓reduceIte, Nat.reduceEqDiff, reduceCtorEq, Nat.reduceLeDiff, Nat.reducePow, Int.reducePow, Int.reduceToNat, Nat.reduceAdd]
    have e4 := Ext.push h3 (.cells #[.int .u8 9] 5)
    have hts : Sl (h3.push (.cells #[.int .u8 9] 5)) (.slice (some ⟨h3.size, 0, none⟩) 1 1) (([9] : List Nat).map fun t : Nat => .int .u8 (t : Int)) := ⟨_, _, rfl, .inr ⟨_, _, rfl, Rd_new (vs := [.int .u8 9])⟩⟩
    generalize h3.push (.cells #[.int .u8 9] 5) = h4 at *
    generalize h3.size = gt at *
    obtain ⟨c1, c2, c5, c3, hs4, qx⟩ := key h4 e4
    refine eff_call_of  ?_
    simp (disch := first | omega | assumption) only [C.code_operand_gos, T.tv, ↓reduceIte, Nat.reduceEqDiff, reduceCtorEq, Nat.reduceLeDiff, Nat.reducePow, Int.reducePow, Int.reduceToNat, Nat.reduceAdd]
    refine (cis_any [9] (by decide) hts c1 c2 c3 hp hs4).mono ?_
    rintro v5 h5 ⟨rfl, rfl⟩
    simp (disch := first | omega | assumption) only [C.code_operand_gos, T.tv, ↓reduceIte, Nat.reduceEqDiff, reduceCtorEq, Nat.reduceLeDiff, Nat.reducePow, Int.reducePow, Int.reduceToNat, Nat.reduceAdd]
    first | exact hx3.trans e4 | exact ⟨hx3.trans e4, rfl⟩
  by_cases e180 : (x.op : Int) = 180
  case pos =>
    rw [show operP x.op x.A x.B p = ([9].any (isI p x.A)) by unfold operP; rw [if_neg (by omega), if_neg (by omega), if_pos (by omega)]]
    simp (disch := first | omega | assumption) only [C.code_operand_gos, T.tv, ↓reduceIte, Nat.reduceEqDiff, reduceCtorEq, Nat.reduceLeDiff, Nat.reducePow, Int.reducePow, Int.reduceToNat, Nat.reduceAdd, x1, eq_false e18, eq_false e19, eq_false e20, eq_false e178, eq_false e179, eq_true e180, decide_true, decide_false]
    refine eff_lits T.slT_44 rfl rfl (by decide) ?_
    simp (disch := first | omega | assumption) only [C.code_operand_gos, T.tv, ↓reduceIte, Nat.reduceEqDiff, reduceCtorEq, Nat.reduceLeDiff, Nat.reducePow, Int.reducePow, Int.reduceToNat, Nat.reduceAdd]
    have e4 := Ext.push h3 (.cells #[.int .u8 9] 5)
    have hts : Sl (h3.push (.cells #[.int .u8 9] 5)) (.slice (some ⟨h3.size, 0, none⟩) 1 1) (([9] : List Nat).map fun t : Nat => .int .u8 (t : Int)) := ⟨_, _, rfl, .inr ⟨_, _, rfl, Rd_new (vs := [.int .u8 9])⟩⟩
    generalize h3.push (.cells #[.int .u8 9] 5) = h4 at *
    generalize h3.size = gt at *
    obtain ⟨c1, c2, c5, c3, hs4, qx⟩ := key h4 e4
    refine eff_call_of  ?_
    simp (disch := first | omega | assumption) only [C.code_operand_gos, T.tv, ↓reduceIte, Nat.reduceEqDiff, reduceCtorEq, Nat.reduceLeDiff, Nat.reducePow, Int.reducePow, Int.reduceToNat, Nat.reduceAdd]
    refine (cis_any [9] (by decide) hts c1 c2 c3 hp hs4).mono ?_
    rintro v5 h5 ⟨rfl, rfl⟩
    simp (disch := first | omega | assumption) only [C.code_operand_gos, T.tv, ↓reduceIte, Nat.reduceEqDiff, reduceCtorEq, Nat.reduceLeDiff, Nat.reducePow, Int.reducePow, Int.reduceToNat, Nat.reduceAdd]
    first | exact hx3.trans e4 | exact ⟨hx3.trans e4, rfl⟩
  by_cases e181 : (x.op : Int) = 181
  case pos =>
    rw [show operP x.op x.A x.B p = ([9].any (isI p x.A)) by unfold operP; rw [if_neg (by omega), if_neg (by omega), if_pos (by omega)]]
    simp (disch := first | omega | assumption) only [C.code_operand_gos, T.tv, ↓reduceIte, Nat.reduceEqDiff, reduceCtorEq, Nat.reduceLeDiff, Nat.reducePow, Int.reducePow, Int.reduceToNat, Nat.reduceAdd, x1, eq_false e18, eq_false e19, eq_false e20, eq_false e178, eq_false e179, eq_false e180, eq_true e181, decide_true, decide_false]
    refine eff_lits T.slT_44 rfl rfl (by decide) ?_
    simp (disch := first | omega | assumption) only [C.code_operand_gos, T.tv, ↓reduceIte, Nat.reduceEqDiff, reduceCtorEq, Nat.reduceLeDiff, Nat.reducePow, Int.reducePow, Int.reduceToNat, Nat.reduceAdd]
    have e4 := Ext.push h3 (.cells #[.int .u8 9] 5)
    have hts : Sl (h3.push (.cells #[.int .u8 9] 5)) (.slice (some ⟨h3.size, 0, none⟩) 1 1) (([9] : List Nat).map fun t : Nat => .int .u8 (t : Int)) := ⟨_, _, rfl, .inr ⟨_, _, rfl, Rd_new (vs := [.int .u8 9])⟩⟩
    generalize h3.push (.cells #[.int .u8 9] 5) = h4 at *
    generalize h3.size = gt at *
    obtain ⟨c1, c2, c5, c3, hs4, qx⟩ := key h4 e4
    refine eff_call_of  ?_
    simp (disch := first | omega | assumption) only [C.code_operand_gos, T.tv, ↓reduceIte, Nat.reduceEqDiff, reduceCtorEq, Nat.reduceLeDiff, Nat.reducePow, Int.reducePow, Int.reduceToNat, Nat.reduceAdd]
    refine (cis_any [9] (by decide) hts c1 c2 c3 hp hs4).mono ?_
    rintro v5 h5 ⟨rfl, rfl⟩
    simp (disch := first | omega | assumption) only [C.code_operand_gos, T.tv, ↓reduceIte, Nat.reduceEqDiff, reduceCtorEq, Nat.reduceLeDiff, Nat.reducePow, Int.reducePow, Int.reduceToNat, Nat.reduceAdd]
    first | exact hx3.trans e4 | exact ⟨hx3.trans e4, rfl⟩
  by_cases e182 : (x.op : Int) = 182
  case pos =>
    rw [show operP x.op x.A x.B p = ([10].any (isI p x.A) && calledP x.op x.B p (p.getD x.A.toNat Cst.zero).b) by unfold operP; rw [if_neg (by omega), if_neg (by omega), if_neg (by omega), if_pos (by omega)]]
    simp (disch := first | omega | assumption) only [C.code_operand_gos, T.tv, ↓reduceIte, Nat.reduceEqDiff, reduceCtorEq, Nat.reduceLeDiff, Nat.reducePow, Int.reducePow, Int.reduceToNat, Nat.reduceAdd, x1, eq_false e18, eq_false e19, eq_false e20, eq_false e178, eq_false e179, eq_false e180, eq_false e181, eq_true e182, decide_true, decide_false]
    refine eff_lits T.slT_44 rfl rfl (by decide) ?_
    simp (disch := first | omega | assumption) only [C.code_operand_gos, T.tv, ↓reduceIte, Nat.reduceEqDiff, reduceCtorEq, Nat.reduceLeDiff, Nat.reducePow, Int.reducePow, Int.reduceToNat, Nat.reduceAdd]
    have e4 := Ext.push h3 (.cells #[.int .u8 10] 5)
    have hts : Sl (h3.push (.cells #[.int .u8 10] 5)) (.slice (some ⟨h3.size, 0, none⟩) 1 1) (([10] : List Nat).map fun t : Nat => .int .u8 (t : Int)) := ⟨_, _, rfl, .inr ⟨_, _, rfl, Rd_new (vs := [.int .u8 10])⟩⟩
    generalize h3.push (.cells #[.int .u8 10] 5) = h4 at *
    generalize h3.size = gt at *
    obtain ⟨c1, c2, c5, c3, hs4, qx⟩ := key h4 e4
    refine eff_call_of  ?_
    simp (disch := first | omega | assumption) only [C.code_operand_gos, T.tv, ↓reduceIte, Nat.reduceEqDiff, reduceCtorEq, Nat.reduceLeDiff, Nat.reducePow, Int.reducePow, Int.reduceToNat, Nat.reduceAdd]
    refine (cis_any [10] (by decide) hts c1 c2 c3 hp hs4).mono ?_
    rintro v5 h5 ⟨rfl, rfl⟩
    cases hb : ([10] : List Nat).any (isI p x.A) with
    | false =>
      simp (disch := first | omega | assumption) only [C.code_operand_gos, T.tv, ↓reduceIte, Nat.reduceEqDiff, reduceCtorEq, Nat.reduceLeDiff, Nat.reducePow, Int.reducePow, Int.reduceToNat, Nat.reduceAdd]
      first | exact hx3.trans e4 | exact ⟨hx3.trans e4, rfl⟩
    | true =>
      obtain ⟨kk, k0, kl⟩ := isI_k hp (t := 10) (by simpa using hb)
      rw [kk] at c1
      have kl' : ((x.A.toNat : Nat) : Int) < (p.length : Int) := by omega
      obtain ⟨b, o, c', heq, hrd, _⟩ := hs4.at kl
      cases heq
      rw [flatS_at kl] at hrd
      have hy := hf (p.getD x.A.toNat Cst.zero) (by simp [kl])
      generalize p.getD x.A.toNat Cst.zero = y at *
      have hld := ld_agg T.ag_32 hrd rfl
      simp only [Cst.cells] at hld
      have hldx := ld_agg T.ag_37 (Rd_block (vs := [.int .i64 x.at', .int .u8 (x.op : Int), .bool x.wide, .int .i64 x.A, .int .i64 x.B, .int .i64 x.low, .slice ak nk ck, .slice bk nb cb]) qx) rfl
      simp (disch := first | omega | assumption) only [C.code_operand_gos, T.tv, ↓reduceIte, Nat.reduceEqDiff, reduceCtorEq, Nat.reduceLeDiff, Nat.reducePow, Int.reducePow, Int.reduceToNat, Nat.reduceAdd, c1, c3, kl', hld, hldx]
      refine eff_callF rfl ((called_any (ak := ak) (bk := bk) (nk := nk) (ck := ck) (nb := nb) (cb := cb) (x := x) y hy.b hf htx hs4).mono ?_)
      rintro v6 h6 ⟨hx6, rfl⟩
      simp (disch := first | omega | assumption) only [C.code_operand_gos, T.tv, ↓reduceIte, Nat.reduceEqDiff, reduceCtorEq, Nat.reduceLeDiff, Nat.reducePow, Int.reducePow, Int.reduceToNat, Nat.reduceAdd]
      first | exact (hx3.trans e4).trans hx6 | exact ⟨(hx3.trans e4).trans hx6, rfl⟩
  by_cases e183 : (x.op : Int) = 183
  case pos =>
    rw [show operP x.op x.A x.B p = ([10].any (isI p x.A) && calledP x.op x.B p (p.getD x.A.toNat Cst.zero).b) by unfold operP; rw [if_neg (by omega), if_neg (by omega), if_neg (by omega), if_pos (by omega)]]
    simp (disch := first | omega | assumption) only [C.code_operand_gos, T.tv, ↓reduceIte, Nat.reduceEqDiff, reduceCtorEq, Nat.reduceLeDiff, Nat.reducePow, Int.reducePow, Int.reduceToNat, Nat.reduceAdd, x1, eq_false e18, eq_false e19, eq_false e20, eq_false e178, eq_false e179, eq_false e180, eq_false e181, eq_false e182, eq_true e183, decide_true, decide_false]
    refine eff_lits T.slT_44 rfl rfl (by decide) ?_
    simp (disch := first | omega | assumption) only [C.code_operand_gos, T.tv, ↓reduceIte, Nat.reduceEqDiff, reduceCtorEq, Nat.reduceLeDiff, Nat.reducePow, Int.reducePow, Int.reduceToNat, Nat.reduceAdd]
    have e4 := Ext.push h3 (.cells #[.int .u8 10] 5)
    have hts : Sl (h3.push (.cells #[.int .u8 10] 5)) (.slice (some ⟨h3.size, 0, none⟩) 1 1) (([10] : List Nat).map fun t : Nat => .int .u8 (t : Int)) := ⟨_, _, rfl, .inr ⟨_, _, rfl, Rd_new (vs := [.int .u8 10])⟩⟩
    generalize h3.push (.cells #[.int .u8 10] 5) = h4 at *
    generalize h3.size = gt at *
    obtain ⟨c1, c2, c5, c3, hs4, qx⟩ := key h4 e4
    refine eff_call_of  ?_
    simp (disch := first | omega | assumption) only [C.code_operand_gos, T.tv, ↓reduceIte, Nat.reduceEqDiff, reduceCtorEq, Nat.reduceLeDiff, Nat.reducePow, Int.reducePow, Int.reduceToNat, Nat.reduceAdd]
    refine (cis_any [10] (by decide) hts c1 c2 c3 hp hs4).mono ?_
    rintro v5 h5 ⟨rfl, rfl⟩
    cases hb : ([10] : List Nat).any (isI p x.A) with
    | false =>
      simp (disch := first | omega | assumption) only [C.code_operand_gos, T.tv, ↓reduceIte, Nat.reduceEqDiff, reduceCtorEq, Nat.reduceLeDiff, Nat.reducePow, Int.reducePow, Int.reduceToNat, Nat.reduceAdd]
      first | exact hx3.trans e4 | exact ⟨hx3.trans e4, rfl⟩
    | true =>
      obtain ⟨kk, k0, kl⟩ := isI_k hp (t := 10) (by simpa using hb)
      rw [kk] at c1
      have kl' : ((x.A.toNat : Nat) : Int) < (p.length : Int) := by omega
      obtain ⟨b, o, c', heq, hrd, _⟩ := hs4.at kl
      cases heq
      rw [flatS_at kl] at hrd
      have hy := hf (p.getD x.A.toNat Cst.zero) (by simp [kl])
      generalize p.getD x.A.toNat Cst.zero = y at *
      have hld := ld_agg T.ag_32 hrd rfl
      simp only [Cst.cells] at hld
      have hldx := ld_agg T.ag_37 (Rd_block (vs := [.int .i64 x.at', .int .u8 (x.op : Int), .bool x.wide, .int .i64 x.A, .int .i64 x.B, .int .i64 x.low, .slice ak nk ck, .slice bk nb cb]) qx) rfl
      simp (disch := first | omega | assumption) only [C.code_operand_gos, T.tv, ↓reduceIte, Nat.reduceEqDiff, reduceCtorEq, Nat.reduceLeDiff, Nat.reducePow, Int.reducePow, Int.reduceToNat, Nat.reduceAdd, c1, c3, kl', hld, hldx]
      refine eff_callF rfl ((called_any (ak := ak) (bk := bk) (nk := nk) (ck := ck) (nb := nb) (cb := cb) (x := x) y hy.b hf htx hs4).mono ?_)
      rintro v6 h6 ⟨hx6, rfl⟩
      simp (disch := first | omega | assumption) only [C.code_operand_gos, T.tv, ↓reduceIte, Nat.reduceEqDiff, reduceCtorEq, Nat.reduceLeDiff, Nat.reducePow, Int.reducePow, Int.reduceToNat, Nat.reduceAdd]
      first | exact (hx3.trans e4).trans hx6 | exact ⟨(hx3.trans e4).trans hx6, rfl⟩
  by_cases e184 : (x.op : Int) = 184
  case pos =>
    rw [show operP x.op x.A x.B p = ([10].any (isI p x.A) && calledP x.op x.B p (p.getD x.A.toNat Cst.zero).b) by unfold operP; rw [if_neg (by omega), if_neg (by omega), if_neg (by omega), if_pos (by omega)]]
    simp (disch := first | omega | assumption) only [C.code_operand_gos, T.tv, ↓reduceIte, Nat.reduceEqDiff, reduceCtorEq, Nat.reduceLeDiff, Nat.reducePow, Int.reducePow, Int.reduceToNat, Nat.reduceAdd, x1, eq_false e18, eq_false e19, eq_false e20, eq_false e178, eq_false e179, eq_false e180, eq_false e181, eq_false e182, eq_false e183, eq_true e184, decide_true, decide_false]
    refine eff_lits T.slT_44 rfl rfl (by decide) ?_
    simp (disch := first | omega | assumption) only [C.code_operand_gos, T.tv, ↓reduceIte, Nat.reduceEqDiff, reduceCtorEq, Nat.reduceLeDiff, Nat.reducePow, Int.reducePow, Int.reduceToNat, Nat.reduceAdd]
    have e4 := Ext.push h3 (.cells #[.int .u8 10] 5)
    have hts : Sl (h3.push (.cells #[.int .u8 10] 5)) (.slice (some ⟨h3.size, 0, none⟩) 1 1) (([10] : List Nat).map fun t : Nat => .int .u8 (t : Int)) := ⟨_, _, rfl, .inr ⟨_, _, rfl, Rd_new (vs := [.int .u8 10])⟩⟩
    generalize h3.push (.cells #[.int .u8 10] 5) = h4 at *
    generalize h3.size = gt at *
    obtain ⟨c1, c2, c5, c3, hs4, qx⟩ := key h4 e4
    refine eff_call_of  ?_
    simp (disch := first | omega | assumption) only [C.code_operand_gos, T.tv, ↓reduceIte, Nat.reduceEqDiff, reduceCtorEq, Nat.reduceLeDiff, Nat.reducePow, Int.reducePow, Int.reduceToNat, Nat.reduceAdd]
    refine (cis_any [10] (by decide) hts c1 c2 c3 hp hs4).mono ?_
    rintro v5 h5 ⟨rfl, rfl⟩
    cases hb : ([10] : List Nat).any (isI p x.A) with
    | false =>
      simp (disch := first | omega | assumption) only [C.code_operand_gos, T.tv, ↓reduceIte, Nat.reduceEqDiff, reduceCtorEq, Nat.reduceLeDiff, Nat.reducePow, Int.reducePow, Int.reduceToNat, Nat.reduceAdd]
      first | exact hx3.trans e4 | exact ⟨hx3.trans e4, rfl⟩
    | true =>
      obtain ⟨kk, k0, kl⟩ := isI_k hp (t := 10) (by simpa using hb)
      rw [kk] at c1
      have kl' : ((x.A.toNat : Nat) : Int) < (p.length : Int) := by omega
      obtain ⟨b, o, c', heq, hrd, _⟩ := hs4.at kl
      cases heq
      rw [flatS_at kl] at hrd
      have hy := hf (p.getD x.A.toNat Cst.zero) (by simp [kl])
      generalize p.getD x.A.toNat Cst.zero = y at *
      have hld := ld_agg T.ag_32 hrd rfl
      simp only [Cst.cells] at hld
      have hldx := ld_agg T.ag_37 (Rd_block (vs := [.int .i64 x.at', .int .u8 (x.op : Int), .bool x.wide, .int .i64 x.A, .int .i64 x.B, .int .i64 x.low, .slice ak nk ck, .slice bk nb cb]) qx) rfl
      simp (disch := first | omega | assumption) only [C.code_operand_gos, T.tv, ↓reduceIte, Nat.reduceEqDiff, reduceCtorEq, Nat.reduceLeDiff, Nat.reducePow, Int.reducePow, Int.reduceToNat, Nat.reduceAdd, c1, c3, kl', hld, hldx]
      refine eff_callF rfl ((called_any (ak := ak) (bk := bk) (nk := nk) (ck := ck) (nb := nb) (cb := cb) (x := x) y hy.b hf htx hs4).mono ?_)
      rintro v6 h6 ⟨hx6, rfl⟩
      simp (disch := first | omega | assumption) only [C.code_operand_gos, T.tv, ↓reduceIte, Nat.reduceEqDiff, reduceCtorEq, Nat.reduceLeDiff, Nat.reducePow, Int.reducePow, Int.reduceToNat, Nat.reduceAdd]
      first | exact (hx3.trans e4).trans hx6 | exact ⟨(hx3.trans e4).trans hx6, rfl⟩
  by_cases e185 : (x.op : Int) = 185
  case pos =>
    rw [show operP x.op x.A x.B p = ([11].any (isI p x.A) && calledP x.op x.B p (p.getD x.A.toNat Cst.zero).b) by unfold operP; rw [if_neg (by omega), if_neg (by omega), if_neg (by omega), if_neg (by omega), if_pos (by omega)]]
    simp (disch := first | omega | assumption) only [C.code_operand_gos, T.tv, ↓reduceIte, Nat.reduceEqDiff, reduceCtorEq, Nat.reduceLeDiff, Nat.reducePow, Int.reducePow, Int.reduceToNat, Nat.reduceAdd, x1, eq_false e18, eq_false e19, eq_false e20, eq_false e178, eq_false e179, eq_false e180, eq_false e181, eq_false e182, eq_false e183, eq_false e184, eq_true e185, decide_true, decide_false]
    refine eff_lits T.slT_44 rfl rfl (by decide) ?_
    simp (disch := first | omega | assumption) only [C.code_operand_gos, T.tv, ↓reduceIte, Nat.reduceEqDiff, reduceCtorEq, Nat.reduceLeDiff, Nat.reducePow, Int.reducePow, Int.reduceToNat, Nat.reduceAdd]
    have e4 := Ext.push h3 (.cells #[.int .u8 11] 5)
    have hts : Sl (h3.push (.cells #[.int .u8 11] 5)) (.slice (some ⟨h3.size, 0, none⟩) 1 1) (([11] : List Nat).map fun t : Nat => .int .u8 (t : Int)) := ⟨_, _, rfl, .inr ⟨_, _, rfl, Rd_new (vs := [.int .u8 11])⟩⟩
    generalize h3.push (.cells #[.int .u8 11] 5) = h4 at *
    generalize h3.size = gt at *
    obtain ⟨c1, c2, c5, c3, hs4, qx⟩ := key h4 e4
    refine eff_call_of  ?_
    simp (disch := first | omega | assumption) only [C.code_operand_gos, T.tv, ↓reduceIte, Nat.reduceEqDiff, reduceCtorEq, Nat.reduceLeDiff, Nat.reducePow, Int.reducePow, Int.reduceToNat, Nat.reduceAdd]
    refine (cis_any [11] (by decide) hts c1 c2 c3 hp hs4).mono ?_
    rintro v5 h5 ⟨rfl, rfl⟩
    cases hb : ([11] : List Nat).any (isI p x.A) with
    | false =>
      simp (disch := first | omega | assumption) only [C.code_operand_gos, T.tv, ↓reduceIte, Nat.reduceEqDiff, reduceCtorEq, Nat.reduceLeDiff, Nat.reducePow, Int.reducePow, Int.reduceToNat, Nat.reduceAdd]
      first | exact hx3.trans e4 | exact ⟨hx3.trans e4, rfl⟩
    | true =>
      obtain ⟨kk, k0, kl⟩ := isI_k hp (t := 11) (by simpa using hb)
      rw [kk] at c1
      have kl' : ((x.A.toNat : Nat) : Int) < (p.length : Int) := by omega
      obtain ⟨b, o, c', heq, hrd, _⟩ := hs4.at kl
      cases heq
      rw [flatS_at kl] at hrd
      have hy := hf (p.getD x.A.toNat Cst.zero) (by simp [kl])
      generalize p.getD x.A.toNat Cst.zero = y at *
      have hld := ld_agg T.ag_32 hrd rfl
      simp only [Cst.cells] at hld
      have hldx := ld_agg T.ag_37 (Rd_block (vs := [.int .i64 x.at', .int .u8 (x.op : Int), .bool x.wide, .int .i64 x.A, .int .i64 x.B, .int .i64 x.low, .slice ak nk ck, .slice bk nb cb]) qx) rfl
      simp (disch := first | omega | assumption) only [C.code_operand_gos, T.tv, ↓reduceIte, Nat.reduceEqDiff, reduceCtorEq, Nat.reduceLeDiff, Nat.reducePow, Int.reducePow, Int.reduceToNat, Nat.reduceAdd, c1, c3, kl', hld, hldx]
      refine eff_callF rfl ((called_any (ak := ak) (bk := bk) (nk := nk) (ck := ck) (nb := nb) (cb := cb) (x := x) y hy.b hf htx hs4).mono ?_)
      rintro v6 h6 ⟨hx6, rfl⟩
      simp (disch := first | omega | assumption) only [C.code_operand_gos, T.tv, ↓reduceIte, Nat.reduceEqDiff, reduceCtorEq, Nat.reduceLeDiff, Nat.reducePow, Int.reducePow, Int.reduceToNat, Nat.reduceAdd]
      first | exact (hx3.trans e4).trans hx6 | exact ⟨(hx3.trans e4).trans hx6, rfl⟩
  by_cases e187 : (x.op : Int) = 187
  case pos =>
    rw [show operP x.op x.A x.B p = ([7].any (isI p x.A) && decide (nbr (nameI p x.A) = 0)) by unfold operP; rw [if_neg (by omega), if_neg (by omega), if_neg (by omega), if_neg (by omega), if_neg (by omega), if_pos (by omega)]]
    simp (disch := first | omega | assumption) only [C.code_operand_gos, T.tv, ↓reduceIte, Nat.reduceEqDiff, reduceCtorEq, Nat.reduceLeDiff, Nat.reducePow, Int.reducePow, Int.reduceToNat, Nat.reduceAdd, x1, eq_false e18, eq_false e19, eq_false e20, eq_false e178, eq_false e179, eq_false e180, eq_false e181, eq_false e182, eq_false e183, eq_false e184, eq_false e185, eq_true e187, decide_true, decide_false]
    refine eff_lits T.slT_44 rfl rfl (by decide) ?_
    simp (disch := first | omega | assumption) only [C.code_operand_gos, T.tv, ↓reduceIte, Nat.reduceEqDiff, reduceCtorEq, Nat.reduceLeDiff, Nat.reducePow, Int.reducePow, Int.reduceToNat, Nat.reduceAdd]
    have e4 := Ext.push h3 (.cells #[.int .u8 7] 5)
    have hts : Sl (h3.push (.cells #[.int .u8 7] 5)) (.slice (some ⟨h3.size, 0, none⟩) 1 1) (([7] : List Nat).map fun t : Nat => .int .u8 (t : Int)) := ⟨_, _, rfl, .inr ⟨_, _, rfl, Rd_new (vs := [.int .u8 7])⟩⟩
    generalize h3.push (.cells #[.int .u8 7] 5) = h4 at *
    generalize h3.size = gt at *
    obtain ⟨c1, c2, c5, c3, hs4, qx⟩ := key h4 e4
    refine eff_call_of  ?_
    simp (disch := first | omega | assumption) only [C.code_operand_gos, T.tv, ↓reduceIte, Nat.reduceEqDiff, reduceCtorEq, Nat.reduceLeDiff, Nat.reducePow, Int.reducePow, Int.reduceToNat, Nat.reduceAdd]
    refine (cis_any [7] (by decide) hts c1 c2 c3 hp hs4).mono ?_
    rintro v5 h5 ⟨rfl, rfl⟩
    cases hb : ([7] : List Nat).any (isI p x.A) with
    | false =>
      simp (disch := first | omega | assumption) only [C.code_operand_gos, T.tv, ↓reduceIte, Nat.reduceEqDiff, reduceCtorEq, Nat.reduceLeDiff, Nat.reducePow, Int.reducePow, Int.reduceToNat, Nat.reduceAdd]
      first | exact hx3.trans e4 | exact ⟨hx3.trans e4, rfl⟩
    | true =>
      obtain ⟨kk, k0, kl⟩ := isI_k hp (t := 7) (by simpa using hb)
      rw [kk] at c1
      simp (disch := first | omega | assumption) only [C.code_operand_gos, T.tv, ↓reduceIte, Nat.reduceEqDiff, reduceCtorEq, Nat.reduceLeDiff, Nat.reducePow, Int.reducePow, Int.reduceToNat, Nat.reduceAdd, c5]
      refine eff_call_of  ?_
      simp (disch := first | omega | assumption) only [C.code_operand_gos, T.tv, ↓reduceIte, Nat.reduceEqDiff, reduceCtorEq, Nat.reduceLeDiff, Nat.reducePow, Int.reducePow, Int.reduceToNat, Nat.reduceAdd]
      refine (cclass_any kl (by omega) hf c1 c3 hs4).mono ?_
      rintro v6 h6 ⟨rfl, rfl⟩
      have hln := strS_len htx (p.getD x.A.toNat Cst.zero).a
      simp (disch := first | omega | assumption) only [C.code_operand_gos, T.tv, ↓reduceIte, Nat.reduceEqDiff, reduceCtorEq, Nat.reduceLeDiff, Nat.reducePow, Int.reducePow, Int.reduceToNat, Nat.reduceAdd, c5]
      refine eff_callF rfl ((dims_any (strS p (p.getD x.A.toNat Cst.zero).a) hln).mono ?_)
      rintro v7 h7 ⟨rfl, rfl⟩
      have hd : decide (((nbr (strS p (p.getD x.A.toNat Cst.zero).a) : Nat) : Int) = 0) = decide (nbr (nameI p x.A) = 0) := decide_eq_decide.2 (by unfold nameI; omega)
      rw [Bool.true_and, ← hd]
      simp (disch := first | omega | assumption) only [C.code_operand_gos, T.tv, ↓reduceIte, Nat.reduceEqDiff, reduceCtorEq, Nat.reduceLeDiff, Nat.reducePow, Int.reducePow, Int.reduceToNat, Nat.reduceAdd, c5]
      first | exact hx3.trans e4 | exact ⟨hx3.trans e4, rfl⟩
  by_cases e189 : (x.op : Int) = 189
  case pos =>
    rw [show operP x.op x.A x.B p = ([7].any (isI p x.A) && decide (nbr (nameI p x.A) < 255)) by unfold operP; rw [if_neg (by omega), if_neg (by omega), if_neg (by omega), if_neg (by omega), if_neg (by omega), if_neg (by omega), if_pos (by omega)]]
    simp (disch := first | omega | assumption) only [C.code_operand_gos, T.tv, ↓reduceIte, Nat.reduceEqDiff, reduceCtorEq, Nat.reduceLeDiff, Nat.reducePow, Int.reducePow, Int.reduceToNat, Nat.reduceAdd, x1, eq_false e18, eq_false e19, eq_false e20, eq_false e178, eq_false e179, eq_false e180, eq_false e181, eq_false e182, eq_false e183, eq_false e184, eq_false e185, eq_false e187, eq_true e189, decide_true, decide_false]
    refine eff_lits T.slT_44 rfl rfl (by decide) ?_
    simp (disch := first | omega | assumption) only [C.code_operand_gos, T.tv, ↓reduceIte, Nat.reduceEqDiff, reduceCtorEq, Nat.reduceLeDiff, Nat.reducePow, Int.reducePow, Int.reduceToNat, Nat.reduceAdd]
    have e4 := Ext.push h3 (.cells #[.int .u8 7] 5)
    have hts : Sl (h3.push (.cells #[.int .u8 7] 5)) (.slice (some ⟨h3.size, 0, none⟩) 1 1) (([7] : List Nat).map fun t : Nat => .int .u8 (t : Int)) := ⟨_, _, rfl, .inr ⟨_, _, rfl, Rd_new (vs := [.int .u8 7])⟩⟩
    generalize h3.push (.cells #[.int .u8 7] 5) = h4 at *
    generalize h3.size = gt at *
    obtain ⟨c1, c2, c5, c3, hs4, qx⟩ := key h4 e4
    refine eff_call_of  ?_
    simp (disch := first | omega | assumption) only [C.code_operand_gos, T.tv, ↓reduceIte, Nat.reduceEqDiff, reduceCtorEq, Nat.reduceLeDiff, Nat.reducePow, Int.reducePow, Int.reduceToNat, Nat.reduceAdd]
    refine (cis_any [7] (by decide) hts c1 c2 c3 hp hs4).mono ?_
    rintro v5 h5 ⟨rfl, rfl⟩
    cases hb : ([7] : List Nat).any (isI p x.A) with
    | false =>
      simp (disch := first | omega | assumption) only [C.code_operand_gos, T.tv, ↓reduceIte, Nat.reduceEqDiff, reduceCtorEq, Nat.reduceLeDiff, Nat.reducePow, Int.reducePow, Int.reduceToNat, Nat.reduceAdd]
      first | exact hx3.trans e4 | exact ⟨hx3.trans e4, rfl⟩
    | true =>
      obtain ⟨kk, k0, kl⟩ := isI_k hp (t := 7) (by simpa using hb)
      rw [kk] at c1
      simp (disch := first | omega | assumption) only [C.code_operand_gos, T.tv, ↓reduceIte, Nat.reduceEqDiff, reduceCtorEq, Nat.reduceLeDiff, Nat.reducePow, Int.reducePow, Int.reduceToNat, Nat.reduceAdd, c5]
      refine eff_call_of  ?_
      simp (disch := first | omega | assumption) only [C.code_operand_gos, T.tv, ↓reduceIte, Nat.reduceEqDiff, reduceCtorEq, Nat.reduceLeDiff, Nat.reducePow, Int.reducePow, Int.reduceToNat, Nat.reduceAdd]
      refine (cclass_any kl (by omega) hf c1 c3 hs4).mono ?_
      rintro v6 h6 ⟨rfl, rfl⟩
      have hln := strS_len htx (p.getD x.A.toNat Cst.zero).a
      simp (disch := first | omega | assumption) only [C.code_operand_gos, T.tv, ↓reduceIte, Nat.reduceEqDiff, reduceCtorEq, Nat.reduceLeDiff, Nat.reducePow, Int.reducePow, Int.reduceToNat, Nat.reduceAdd, c5]
      refine eff_callF rfl ((dims_any (strS p (p.getD x.A.toNat Cst.zero).a) hln).mono ?_)
      rintro v7 h7 ⟨rfl, rfl⟩
      have hd : decide (((nbr (strS p (p.getD x.A.toNat Cst.zero).a) : Nat) : Int) < 255) = decide (nbr (nameI p x.A) < 255) := decide_eq_decide.2 (by unfold nameI; omega)
      rw [Bool.true_and, ← hd]
      simp (disch := first | omega | assumption) only [C.code_operand_gos, T.tv, ↓reduceIte, Nat.reduceEqDiff, reduceCtorEq, Nat.reduceLeDiff, Nat.reducePow, Int.reducePow, Int.reduceToNat, Nat.reduceAdd, c5]
      first | exact hx3.trans e4 | exact ⟨hx3.trans e4, rfl⟩
  by_cases e192 : (x.op : Int) = 192
  case pos =>
    rw [show operP x.op x.A x.B p = ([7].any (isI p x.A)) by unfold operP; rw [if_neg (by omega), if_neg (by omega), if_neg (by omega), if_neg (by omega), if_neg (by omega), if_neg (by omega), if_neg (by omega), if_pos (by omega)]]
    simp (disch := first | omega | assumption) only [C.code_operand_gos, T.tv, ↓reduceIte, Nat.reduceEqDiff, reduceCtorEq, Nat.reduceLeDiff, Nat.reducePow, Int.reducePow, Int.reduceToNat, Nat.reduceAdd, x1, eq_false e18, eq_false e19, eq_false e20, eq_false e178, eq_false e179, eq_false e180, eq_false e181, eq_false e182, eq_false e183, eq_false e184, eq_false e185, eq_false e187, eq_false e189, eq_true e192, decide_true, decide_false]
    refine eff_lits T.slT_44 rfl rfl (by decide) ?_
    simp (disch := first | omega | assumption) only [C.code_operand_gos, T.tv, ↓reduceIte, Nat.reduceEqDiff, reduceCtorEq, Nat.reduceLeDiff, Nat.reducePow, Int.reducePow, Int.reduceToNat, Nat.reduceAdd]
    have e4 := Ext.push h3 (.cells #[.int .u8 7] 5)
    have hts : Sl (h3.push (.cells #[.int .u8 7] 5)) (.slice (some ⟨h3.size, 0, none⟩) 1 1) (([7] : List Nat).map fun t : Nat => .int .u8 (t : Int)) := ⟨_, _, rfl, .inr ⟨_, _, rfl, Rd_new (vs := [.int .u8 7])⟩⟩
    generalize h3.push (.cells #[.int .u8 7] 5) = h4 at *
    generalize h3.size = gt at *
    obtain ⟨c1, c2, c5, c3, hs4, qx⟩ := key h4 e4
    refine eff_call_of  ?_
    simp (disch := first | omega | assumption) only [C.code_operand_gos, T.tv, ↓reduceIte, Nat.reduceEqDiff, reduceCtorEq, Nat.reduceLeDiff, Nat.reducePow, Int.reducePow, Int.reduceToNat, Nat.reduceAdd]
    refine (cis_any [7] (by decide) hts c1 c2 c3 hp hs4).mono ?_
    rintro v5 h5 ⟨rfl, rfl⟩
    simp (disch := first | omega | assumption) only [C.code_operand_gos, T.tv, ↓reduceIte, Nat.reduceEqDiff, reduceCtorEq, Nat.reduceLeDiff, Nat.reducePow, Int.reducePow, Int.reduceToNat, Nat.reduceAdd]
    first | exact hx3.trans e4 | exact ⟨hx3.trans e4, rfl⟩
  by_cases e193 : (x.op : Int) = 193
  case pos =>
    rw [show operP x.op x.A x.B p = ([7].any (isI p x.A)) by unfold operP; rw [if_neg (by omega), if_neg (by omega), if_neg (by omega), if_neg (by omega), if_neg (by omega), if_neg (by omega), if_neg (by omega), if_pos (by omega)]]
    simp (disch := first | omega | assumption) only [C.code_operand_gos, T.tv, ↓reduceIte, Nat.reduceEqDiff, reduceCtorEq, Nat.reduceLeDiff, Nat.reducePow, Int.reducePow, Int.reduceToNat, Nat.reduceAdd, x1, eq_false e18, eq_false e19, eq_false e20, eq_false e178, eq_false e179, eq_false e180, eq_false e181, eq_false e182, eq_false e183, eq_false e184, eq_false e185, eq_false e187, eq_false e189, eq_false e192, eq_true e193, decide_true, decide_false]
    refine eff_lits T.slT_44 rfl rfl (by decide) ?_
    simp (disch := first | omega | assumption) only [C.code_operand_gos, T.tv, ↓reduceIte, Nat.reduceEqDiff, reduceCtorEq, Nat.reduceLeDiff, Nat.reducePow, Int.reducePow, Int.reduceToNat, Nat.reduceAdd]
    have e4 := Ext.push h3 (.cells #[.int .u8 7] 5)
    have hts : Sl (h3.push (.cells #[.int .u8 7] 5)) (.slice (some ⟨h3.size, 0, none⟩) 1 1) (([7] : List Nat).map fun t : Nat => .int .u8 (t : Int)) := ⟨_, _, rfl, .inr ⟨_, _, rfl, Rd_new (vs := [.int .u8 7])⟩⟩
    generalize h3.push (.cells #[.int .u8 7] 5) = h4 at *
    generalize h3.size = gt at *
    obtain ⟨c1, c2, c5, c3, hs4, qx⟩ := key h4 e4
    refine eff_call_of  ?_
    simp (disch := first | omega | assumption) only [C.code_operand_gos, T.tv, ↓reduceIte, Nat.reduceEqDiff, reduceCtorEq, Nat.reduceLeDiff, Nat.reducePow, Int.reducePow, Int.reduceToNat, Nat.reduceAdd]
    refine (cis_any [7] (by decide) hts c1 c2 c3 hp hs4).mono ?_
    rintro v5 h5 ⟨rfl, rfl⟩
    simp (disch := first | omega | assumption) only [C.code_operand_gos, T.tv, ↓reduceIte, Nat.reduceEqDiff, reduceCtorEq, Nat.reduceLeDiff, Nat.reducePow, Int.reducePow, Int.reduceToNat, Nat.reduceAdd]
    first | exact hx3.trans e4 | exact ⟨hx3.trans e4, rfl⟩
  by_cases e197 : (x.op : Int) = 197
  case pos =>
    rw [show operP x.op x.A x.B p = ([7].any (isI p x.A) && decide (x.B ≤ (nbr (nameI p x.A) : Int))) by unfold operP; rw [if_neg (by omega), if_neg (by omega), if_neg (by omega), if_neg (by omega), if_neg (by omega), if_neg (by omega), if_neg (by omega), if_neg (by omega), if_pos (by omega)]]
    simp (disch := first | omega | assumption) only [C.code_operand_gos, T.tv, ↓reduceIte, Nat.reduceEqDiff, reduceCtorEq, Nat.reduceLeDiff, Nat.reducePow, Int.reducePow, Int.reduceToNat, Nat.reduceAdd, x1, eq_false e18, eq_false e19, eq_false e20, eq_false e178, eq_false e179, eq_false e180, eq_false e181, eq_false e182, eq_false e183, eq_false e184, eq_false e185, eq_false e187, eq_false e189, eq_false e192, eq_false e193, eq_true e197, decide_true, decide_false]
    refine eff_lits T.slT_44 rfl rfl (by decide) ?_
    simp (disch := first | omega | assumption) only [C.code_operand_gos, T.tv, ↓reduceIte, Nat.reduceEqDiff, reduceCtorEq, Nat.reduceLeDiff, Nat.reducePow, Int.reducePow, Int.reduceToNat, Nat.reduceAdd]
    have e4 := Ext.push h3 (.cells #[.int .u8 7] 5)
    have hts : Sl (h3.push (.cells #[.int .u8 7] 5)) (.slice (some ⟨h3.size, 0, none⟩) 1 1) (([7] : List Nat).map fun t : Nat => .int .u8 (t : Int)) := ⟨_, _, rfl, .inr ⟨_, _, rfl, Rd_new (vs := [.int .u8 7])⟩⟩
    generalize h3.push (.cells #[.int .u8 7] 5) = h4 at *
    generalize h3.size = gt at *
    obtain ⟨c1, c2, c5, c3, hs4, qx⟩ := key h4 e4
    refine eff_call_of  ?_
    simp (disch := first | omega | assumption) only [C.code_operand_gos, T.tv, ↓reduceIte, Nat.reduceEqDiff, reduceCtorEq, Nat.reduceLeDiff, Nat.reducePow, Int.reducePow, Int.reduceToNat, Nat.reduceAdd]
    refine (cis_any [7] (by decide) hts c1 c2 c3 hp hs4).mono ?_
    rintro v5 h5 ⟨rfl, rfl⟩
    cases hb : ([7] : List Nat).any (isI p x.A) with
    | false =>
      simp (disch := first | omega | assumption) only [C.code_operand_gos, T.tv, ↓reduceIte, Nat.reduceEqDiff, reduceCtorEq, Nat.reduceLeDiff, Nat.reducePow, Int.reducePow, Int.reduceToNat, Nat.reduceAdd]
      first | exact hx3.trans e4 | exact ⟨hx3.trans e4, rfl⟩
    | true =>
      obtain ⟨kk, k0, kl⟩ := isI_k hp (t := 7) (by simpa using hb)
      rw [kk] at c1
      simp (disch := first | omega | assumption) only [C.code_operand_gos, T.tv, ↓reduceIte, Nat.reduceEqDiff, reduceCtorEq, Nat.reduceLeDiff, Nat.reducePow, Int.reducePow, Int.reduceToNat, Nat.reduceAdd, c5]
      refine eff_call_of  ?_
      simp (disch := first | omega | assumption) only [C.code_operand_gos, T.tv, ↓reduceIte, Nat.reduceEqDiff, reduceCtorEq, Nat.reduceLeDiff, Nat.reducePow, Int.reducePow, Int.reduceToNat, Nat.reduceAdd]
      refine (cclass_any kl (by omega) hf c1 c3 hs4).mono ?_
      rintro v6 h6 ⟨rfl, rfl⟩
      have hln := strS_len htx (p.getD x.A.toNat Cst.zero).a
      simp (disch := first | omega | assumption) only [C.code_operand_gos, T.tv, ↓reduceIte, Nat.reduceEqDiff, reduceCtorEq, Nat.reduceLeDiff, Nat.reducePow, Int.reducePow, Int.reduceToNat, Nat.reduceAdd, c5]
      refine eff_callF rfl ((dims_any (strS p (p.getD x.A.toNat Cst.zero).a) hln).mono ?_)
      rintro v7 h7 ⟨rfl, rfl⟩
      have hd : decide (x.B ≤ ((nbr (strS p (p.getD x.A.toNat Cst.zero).a) : Nat) : Int)) = decide (x.B ≤ (nbr (nameI p x.A) : Int)) := decide_eq_decide.2 (by unfold nameI; omega)
      rw [Bool.true_and, ← hd]
      simp (disch := first | omega | assumption) only [C.code_operand_gos, T.tv, ↓reduceIte, Nat.reduceEqDiff, reduceCtorEq, Nat.reduceLeDiff, Nat.reducePow, Int.reducePow, Int.reduceToNat, Nat.reduceAdd, c5]
      first | exact hx3.trans e4 | exact ⟨hx3.trans e4, rfl⟩
  rw [show operP x.op x.A x.B p = true by unfold operP; rw [if_neg (by omega), if_neg (by omega), if_neg (by omega), if_neg (by omega), if_neg (by omega), if_neg (by omega), if_neg (by omega), if_neg (by omega), if_neg (by omega)]]
  simp (disch := first | omega | assumption) only [C.code_operand_gos, T.tv, ↓reduceIte, Nat.reduceEqDiff, reduceCtorEq, Nat.reduceLeDiff, Nat.reducePow, Int.reducePow, Int.reduceToNat, Nat.reduceAdd, x1, eq_false e18, eq_false e19, eq_false e20, eq_false e178, eq_false e179, eq_false e180, eq_false e181, eq_false e182, eq_false e183, eq_false e184, eq_false e185, eq_false e187, eq_false e189, eq_false e192, eq_false e193, eq_false e197, decide_true, decide_false]
  exact hx3
end
end Go.Proofs.YtgdmoimclelfhaaDoor
