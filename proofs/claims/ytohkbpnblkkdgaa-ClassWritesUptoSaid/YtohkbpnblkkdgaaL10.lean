/- The law ClassWrites on heaps. -/
import Derived.Test.YtohkbpnblkkdgaaL9
import Derived.Test.YtohkbpnblkkdgaaL4
namespace Go.Proofs.Ytohkbpnblkkdgaa
open Go.Vc
set_option maxRecDepth 100000
set_option linter.unusedSimpArgs false
set_option linter.unusedVariables false
theorem textW_snoc (l : List Cst) (x : Cst) : textW (l ++ [x]) = textW l + x.text.length := by
  induction l with
  | nil => simp [textW]
  | cons y r ih => simp only [List.cons_append, textW, ih]; omega
theorem sumW_snoc (l : List Mth) (x : Mth) : sumW (l ++ [x]) = sumW l + mW x := by
  induction l with
  | nil => simp [sumW]
  | cons y r ih => simp only [List.cons_append, sumW, ih]; omega
theorem textW_take (l : List Cst) : ∀ i, textW (l.take i) ≤ textW l := by
  induction l with
  | nil => intro i; simp [textW]
  | cons m r ih =>
    intro i
    cases i with
    | zero => simp [textW]
    | succ i => have := ih i; simp only [List.take_succ_cons, textW]; omega
def sizeW (c : Cls) : Nat := c.pool.length + c.ifs.length + c.fields.length + c.methods.length + textW c.pool + sumW c.methods
set_option maxHeartbeats 4000000 in
theorem size_any (c : Cls) (vp vi vf vm : Value) (h : Heap) (hC : ClsC h c vp vi vf vm) (hz : sizeW c ≤ 1099511627776) :
    HCalls Try.prog 14 #[.agg (ClsV c vp vi vf vm).toArray] h fun r h' => Ext h h' ∧ r = .int .i64 (sizeW c : Int) := by
  refine C.law3_size_calls (args := [.agg (ClsV c vp vi vf vm).toArray]) rfl ?_
  obtain ⟨_, ap, cp, rfl, _⟩ := id hC.p
  obtain ⟨_, ai, ci, rfl, _⟩ := id hC.i
  obtain ⟨_, af, cf, rfl, _⟩ := id hC.f
  obtain ⟨am, cm, rfl⟩ : ∃ am cm, vm = .slice am c.methods.length cm := by
    obtain ⟨rows, _, ⟨_, a, cc, e, _⟩, _⟩ := hC.m
    exact ⟨a, cc, e⟩
  unfold sizeW at hz ⊢
  simp only [ClsV]
  simp (disch := first | omega | assumption) only [C.law3_size_gos, vs, Go.Vc.vk, T.ts, ↓reduceIte, Nat.reduceEqDiff, reduceCtorEq, Nat.reduceLeDiff, Nat.reducePow, Int.reducePow, Int.reduceToNat, Nat.reduceAdd]
  refine eff_box ?_
  have e1 : Ext h (h.push (.cells ([.int .u16 (c.minor : Int), .int .u16 (c.major : Int), .int .u16 (c.flags : Int), .int .u16 (c.this : Int), .int .u16 (c.super : Int), .slice ap c.pool.length cp, .slice ai c.ifs.length ci, .slice af c.fields.length cf, .slice am c.methods.length cm] : List Value).toArray 43)) := Ext.push _ _
  have g1 : (h.push (.cells ([.int .u16 (c.minor : Int), .int .u16 (c.major : Int), .int .u16 (c.flags : Int), .int .u16 (c.this : Int), .int .u16 (c.super : Int), .slice ap c.pool.length cp, .slice ai c.ifs.length ci, .slice af c.fields.length cf, .slice am c.methods.length cm] : List Value).toArray 43))[h.size]? = some (.cells ([.int .u16 (c.minor : Int), .int .u16 (c.major : Int), .int .u16 (c.flags : Int), .int .u16 (c.this : Int), .int .u16 (c.super : Int), .slice ap c.pool.length cp, .slice ai c.ifs.length ci, .slice af c.fields.length cf, .slice am c.methods.length cm] : List Value).toArray 43 (0, 0)) := by simp
  simp (disch := first | omega | assumption) only [C.law3_size_gos, vs, Go.Vc.vk, T.ts, ↓reduceIte, Nat.reduceEqDiff, reduceCtorEq, Nat.reduceLeDiff, Nat.reducePow, Int.reducePow, Int.reduceToNat, Nat.reduceAdd]
  generalize h.push (.cells ([.int .u16 (c.minor : Int), .int .u16 (c.major : Int), .int .u16 (c.flags : Int), .int .u16 (c.this : Int), .int .u16 (c.super : Int), .slice ap c.pool.length cp, .slice ai c.ifs.length ci, .slice af c.fields.length cf, .slice am c.methods.length cm] : List Value).toArray 43) = h1 at *
  obtain ⟨cb, hcb⟩ : ∃ x, x = h.size := ⟨_, rfl⟩
  rw [← hcb] at g1 ⊢
  have ka5 : cellAt h1 ⟨cb, 5, none⟩ = some (.slice ap c.pool.length cp) := by rw [cellAt_of g1]; rfl
  have ka6 : cellAt h1 ⟨cb, 6, none⟩ = some (.slice ai c.ifs.length ci) := by rw [cellAt_of g1]; rfl
  have ka7 : cellAt h1 ⟨cb, 7, none⟩ = some (.slice af c.fields.length cf) := by rw [cellAt_of g1]; rfl
  have ka8 : cellAt h1 ⟨cb, 8, none⟩ = some (.slice am c.methods.length cm) := by rw [cellAt_of g1]; rfl
  have w1 : IntKind.i64.wrap ((c.pool.length : Int) + (c.ifs.length : Int)) = (c.pool.length : Int) + (c.ifs.length : Int) := wrap_i64 (by omega) (by omega)
  have w2 : IntKind.i64.wrap ((c.pool.length : Int) + (c.ifs.length : Int) + (c.fields.length : Int)) = (c.pool.length : Int) + (c.ifs.length : Int) + (c.fields.length : Int) := wrap_i64 (by omega) (by omega)
  have w3 : IntKind.i64.wrap ((c.pool.length : Int) + (c.ifs.length : Int) + (c.fields.length : Int) + (c.methods.length : Int)) = (c.pool.length : Int) + (c.ifs.length : Int) + (c.fields.length : Int) + (c.methods.length : Int) := wrap_i64 (by omega) (by omega)
  simp (disch := first | omega | assumption) only [C.law3_size_gos, vs, Go.Vc.vk, T.ts, ↓reduceIte, Nat.reduceEqDiff, reduceCtorEq, Nat.reduceLeDiff, Nat.reducePow, Int.reducePow, Int.reduceToNat, Nat.reduceAdd, ka5, ka6, ka7, ka8, w1, w2, w3]
  refine loop_intro [1, 3, 24, 25, 26] (fun m ρ hc => ∃ i : Nat, m = c.pool.length - i ∧ i ≤ c.pool.length ∧ ρ = [(1, .pointer (some ⟨cb, 0, none⟩)), (3, .int .i64 ((c.pool.length + c.ifs.length + c.fields.length + c.methods.length + textW (c.pool.take i) : Nat) : Int)), (24, .slice ap c.pool.length cp), (25, .int .i64 c.pool.length), (26, .int .i64 i)] ∧ Ext h hc ∧ hc[cb]? = some (.cells ([.int .u16 (c.minor : Int), .int .u16 (c.major : Int), .int .u16 (c.flags : Int), .int .u16 (c.this : Int), .int .u16 (c.super : Int), .slice ap c.pool.length cp, .slice ai c.ifs.length ci, .slice af c.fields.length cf, .slice am c.methods.length cm] : List Value).toArray 43 (0, 0))) ?_ ?_
  · simp (disch := first | omega | assumption) only [C.law3_size_gos, vs, Go.Vc.vk, T.ts, ↓reduceIte, Nat.reduceEqDiff, reduceCtorEq, Nat.reduceLeDiff, Nat.reducePow, Int.reducePow, Int.reduceToNat, Nat.reduceAdd]
    exact ⟨_, 0, rfl, Nat.zero_le _, by simp [textW], e1, g1⟩
  clear ka5 ka6 ka7 ka8 w1 w2 w3 e1 g1
  rintro m ρ hc ⟨i, rfl, hi, rfl, X, g⟩
  have htl := textW_take c.pool i
  rcases Nat.lt_or_ge i c.pool.length with hlt | hge
  case inl =>
    have hlt' : (i : Int) < c.pool.length := by omega
    obtain ⟨b, o, c', heq, hrd, _⟩ := (hC.p.ext (by decide) X).at hlt
    cases heq
    rw [flatS_at hlt] at hrd
    have hld := ld_agg T.ag_76 hrd rfl
    have hst := textW_snoc (c.pool.take i) (c.pool.getD i Cst.zero)
    rw [← take_snocD Cst.zero hlt] at hst
    have htl2 := textW_take c.pool (i + 1)
    generalize c.pool.getD i Cst.zero = k at *
    simp only [Cst.cells] at hld
    simp (disch := first | omega | assumption) only [C.law3_size_gos, vs, Go.Vc.vk, T.ts, ↓reduceIte, Nat.reduceEqDiff, reduceCtorEq, Nat.reduceLeDiff, Nat.reducePow, Int.reducePow, Int.reduceToNat, Nat.reduceAdd, hlt', hld]
    refine eff_alloc_z T.zr_76 ?_
    simp (disch := first | omega | assumption) only [C.law3_size_gos, vs, Go.Vc.vk, T.ts, ↓reduceIte, Nat.reduceEqDiff, reduceCtorEq, Nat.reduceLeDiff, Nat.reducePow, Int.reducePow, Int.reduceToNat, Nat.reduceAdd]
    refine eff_store_new_z T.zr_76 rfl rfl rfl (by simp [Value.cells, oneCell, str]) rfl ?_
    intro h3 x3 hlt3 hrd3 b3
    have k1 : cellAt h3 ⟨hc.size, 1, none⟩ = some (str k.text) := hrd3 1 _ rfl
    have w1 : IntKind.i64.wrap (((c.pool.length + c.ifs.length + c.fields.length + c.methods.length + textW (c.pool.take i) : Nat) : Int) + (k.text.length : Int)) = ((c.pool.length + c.ifs.length + c.fields.length + c.methods.length + textW (c.pool.take (i + 1)) : Nat) : Int) := by
      rw [wrap_i64 (by omega) (by omega)]; omega
    simp (disch := first | omega | assumption) only [C.law3_size_gos, vs, Go.Vc.vk, T.ts, ↓reduceIte, Nat.reduceEqDiff, reduceCtorEq, Nat.reduceLeDiff, Nat.reducePow, Int.reducePow, Int.reduceToNat, Nat.reduceAdd, k1, w1]
    exact ⟨_, by omega, i + 1, rfl, by omega, by simp, X.trans x3, Fr_blk x3 g id⟩
  have hlt' : ¬ (i : Int) < c.pool.length := by omega
  rw [List.take_of_length_le hge]
  have ka8 : cellAt hc ⟨cb, 8, none⟩ = some (.slice am c.methods.length cm) := by rw [cellAt_of g]; rfl
  simp (disch := first | omega | assumption) only [C.law3_size_gos, vs, Go.Vc.vk, T.ts, ↓reduceIte, Nat.reduceEqDiff, reduceCtorEq, Nat.reduceLeDiff, Nat.reducePow, Int.reducePow, Int.reduceToNat, Nat.reduceAdd, hlt', ka8]
  refine loop_intro [1, 3, 37, 38, 39] (fun m ρ hc => ∃ i : Nat, m = c.methods.length - i ∧ i ≤ c.methods.length ∧ ρ = [(1, .pointer (some ⟨cb, 0, none⟩)), (3, .int .i64 ((c.pool.length + c.ifs.length + c.fields.length + c.methods.length + textW c.pool + sumW (c.methods.take i) : Nat) : Int)), (37, .slice am c.methods.length cm), (38, .int .i64 c.methods.length), (39, .int .i64 i)] ∧ Ext h hc) ?_ ?_
  · simp (disch := first | omega | assumption) only [C.law3_size_gos, vs, Go.Vc.vk, T.ts, ↓reduceIte, Nat.reduceEqDiff, reduceCtorEq, Nat.reduceLeDiff, Nat.reducePow, Int.reducePow, Int.reduceToNat, Nat.reduceAdd]
    exact ⟨_, 0, rfl, Nat.zero_le _, by simp [sumW], X⟩
  clear hge hi hlt' htl i ka8 g X
  rintro m ρ hc ⟨i, rfl, hi, rfl, X⟩
  have htl := sumW_take c.methods i
  rcases Nat.lt_or_ge i c.methods.length with hlt | hge
  case inl =>
    have hlt' : (i : Int) < c.methods.length := by omega
    obtain ⟨b, o, c', vH, heq, hrd, hH, _⟩ := hC.m.at hlt
    cases heq
    have hrd := fun j v hv => cell_ext X (hrd j v hv)
    change Rd hc _ _ _ at hrd
    have hst := sumW_snoc (c.methods.take i) (c.methods.getD i Mth.zero)
    rw [← take_snocD Mth.zero hlt] at hst
    have htl2 := sumW_take c.methods (i + 1)
    generalize c.methods.getD i Mth.zero = k at *
    obtain ⟨f1, f2, f3, fh, fc⟩ := k
    simp only at hH
    simp only [mW] at hst
    obtain ⟨_, aH, cH, rfl, _⟩ := id hH
    have hld := ld_agg T.ag_81 hrd rfl
    simp only [MthV, CdeV, List.cons_append, List.nil_append] at hld
    simp (disch := first | omega | assumption) only [C.law3_size_gos, vs, Go.Vc.vk, T.ts, ↓reduceIte, Nat.reduceEqDiff, reduceCtorEq, Nat.reduceLeDiff, Nat.reducePow, Int.reducePow, Int.reduceToNat, Nat.reduceAdd, hlt', hld]
    refine eff_alloc_z T.zr_81 ?_
    simp (disch := first | omega | assumption) only [C.law3_size_gos, vs, Go.Vc.vk, T.ts, ↓reduceIte, Nat.reduceEqDiff, reduceCtorEq, Nat.reduceLeDiff, Nat.reducePow, Int.reducePow, Int.reduceToNat, Nat.reduceAdd]
    refine eff_store_new_z T.zr_81 rfl rfl rfl (by simp [Value.cells, oneCell, str]) rfl ?_
    intro h3 x3 hlt3 hrd3 b3
    have k6 : cellAt h3 ⟨hc.size, 6, none⟩ = some (str fc.bytes) := hrd3 6 _ rfl
    have k7 : cellAt h3 ⟨hc.size, 7, none⟩ = some (.slice aH fc.hs.length cH) := hrd3 7 _ rfl
    have k8 : cellAt h3 ⟨hc.size, 8, none⟩ = some (str fc.map) := hrd3 8 _ rfl
    have w1 : IntKind.i64.wrap ((fc.bytes.length : Int) + (fc.map.length : Int)) = (fc.bytes.length : Int) + (fc.map.length : Int) := wrap_i64 (by omega) (by omega)
    have w2 : IntKind.i64.wrap ((fc.bytes.length : Int) + (fc.map.length : Int) + (fc.hs.length : Int)) = (fc.bytes.length : Int) + (fc.map.length : Int) + (fc.hs.length : Int) := wrap_i64 (by omega) (by omega)
    have w3 : IntKind.i64.wrap (((c.pool.length + c.ifs.length + c.fields.length + c.methods.length + textW c.pool + sumW (c.methods.take i) : Nat) : Int) + ((fc.bytes.length : Int) + (fc.map.length : Int) + (fc.hs.length : Int))) = ((c.pool.length + c.ifs.length + c.fields.length + c.methods.length + textW c.pool + sumW (c.methods.take (i + 1)) : Nat) : Int) := by
      rw [wrap_i64 (by omega) (by omega)]; omega
    simp (disch := first | omega | assumption) only [C.law3_size_gos, vs, Go.Vc.vk, T.ts, ↓reduceIte, Nat.reduceEqDiff, reduceCtorEq, Nat.reduceLeDiff, Nat.reducePow, Int.reducePow, Int.reduceToNat, Nat.reduceAdd, k6, k7, k8, w1, w2, w3]
    exact ⟨_, by omega, i + 1, rfl, by omega, by simp, X.trans x3⟩
  have hlt' : ¬ (i : Int) < c.methods.length := by omega
  rw [List.take_of_length_le hge]
  simp (disch := first | omega | assumption) only [C.law3_size_gos, vs, Go.Vc.vk, T.ts, ↓reduceIte, Nat.reduceEqDiff, reduceCtorEq, Nat.reduceLeDiff, Nat.reducePow, Int.reducePow, Int.reduceToNat, Nat.reduceAdd, hlt']
  first | exact X | exact ⟨X, rfl⟩
theorem sumW_each {l : List Mth} : ∀ m ∈ l, mW m ≤ sumW l := by
  induction l with
  | nil => intro m hm; cases hm
  | cons x r ih =>
    intro m hm
    rcases List.mem_cons.1 hm with rfl | hm
    · simp only [sumW]; omega
    · have := ih m hm; simp only [sumW]; omega
theorem textW_each {l : List Cst} : ∀ m ∈ l, m.text.length ≤ textW l := by
  induction l with
  | nil => intro m hm; cases hm
  | cons x r ih =>
    intro m hm
    rcases List.mem_cons.1 hm with rfl | hm
    · simp only [textW]; omega
    · have := ih m hm; simp only [textW]; omega
set_option maxHeartbeats 4000000 in
theorem classWrites_any (c : Cls) (vp vi vf vm : Value) (h : Heap) (hC : ClsC h c vp vi vf vm) (hF : c.Fit) (hz : sizeW c ≤ 1099511627776) :
    HCalls Try.prog 5 #[.agg (ClsV c vp vi vf vm).toArray] h fun r h' => Ext h h' ∧ r = .bool true := by
  refine C.law3_ClassWrites_calls (args := [.agg (ClsV c vp vi vf vm).toArray]) rfl ?_
  have hszA := fun h' (x : Ext h h') => size_any c vp vi vf vm h' (hC.ext x) hz
  have hanA := fun h' (x : Ext h h') => another_any c vp vi vf vm h' (hC.ext x)
  have hclA := fun h' (x : Ext h h') => classWrite_any c vp vi vf vm h' (hC.ext x) hF
  have hsmA := fun h' up ui uf um (x : Ext h h') (hD : ClsC h' c up ui uf um) => sameClass_any c vp vi vf vm up ui uf um h' (hC.ext x) hD
  obtain ⟨_, ap, cp, rfl, _⟩ := id hC.p
  obtain ⟨_, ai, ci, rfl, _⟩ := id hC.i
  obtain ⟨_, af, cf, rfl, _⟩ := id hC.f
  obtain ⟨am, cm, rfl⟩ : ∃ am cm, vm = .slice am c.methods.length cm := by
    obtain ⟨rows, _, ⟨_, a, cc, e, _⟩, _⟩ := hC.m
    exact ⟨a, cc, e⟩
  simp only [ClsV] at *
  simp (disch := first | omega | assumption) only [C.law3_ClassWrites_gos, vs, Go.Vc.vk, T.ts, ↓reduceIte, Nat.reduceEqDiff, reduceCtorEq, Nat.reduceLeDiff, Nat.reducePow, Int.reducePow, Int.reduceToNat, Nat.reduceAdd]
  refine eff_box ?_
  have e1 : Ext h (h.push (.cells ([.int .u16 (c.minor : Int), .int .u16 (c.major : Int), .int .u16 (c.flags : Int), .int .u16 (c.this : Int), .int .u16 (c.super : Int), .slice ap c.pool.length cp, .slice ai c.ifs.length ci, .slice af c.fields.length cf, .slice am c.methods.length cm] : List Value).toArray 43)) := Ext.push _ _
  have g1 : (h.push (.cells ([.int .u16 (c.minor : Int), .int .u16 (c.major : Int), .int .u16 (c.flags : Int), .int .u16 (c.this : Int), .int .u16 (c.super : Int), .slice ap c.pool.length cp, .slice ai c.ifs.length ci, .slice af c.fields.length cf, .slice am c.methods.length cm] : List Value).toArray 43))[h.size]? = some (.cells ([.int .u16 (c.minor : Int), .int .u16 (c.major : Int), .int .u16 (c.flags : Int), .int .u16 (c.this : Int), .int .u16 (c.super : Int), .slice ap c.pool.length cp, .slice ai c.ifs.length ci, .slice af c.fields.length cf, .slice am c.methods.length cm] : List Value).toArray 43 (0, 0)) := by simp
  simp (disch := first | omega | assumption) only [C.law3_ClassWrites_gos, vs, Go.Vc.vk, T.ts, ↓reduceIte, Nat.reduceEqDiff, reduceCtorEq, Nat.reduceLeDiff, Nat.reducePow, Int.reducePow, Int.reduceToNat, Nat.reduceAdd]
  generalize h.push (.cells ([.int .u16 (c.minor : Int), .int .u16 (c.major : Int), .int .u16 (c.flags : Int), .int .u16 (c.this : Int), .int .u16 (c.super : Int), .slice ap c.pool.length cp, .slice ai c.ifs.length ci, .slice af c.fields.length cf, .slice am c.methods.length cm] : List Value).toArray 43) = h1 at *
  obtain ⟨cb, hcb⟩ : ∃ x, x = h.size := ⟨_, rfl⟩
  rw [← hcb] at g1 ⊢
  have hld := ld_agg T.ag_43 (Rd_block (vs := [.int .u16 (c.minor : Int), .int .u16 (c.major : Int), .int .u16 (c.flags : Int), .int .u16 (c.this : Int), .int .u16 (c.super : Int), .slice ap c.pool.length cp, .slice ai c.ifs.length ci, .slice af c.fields.length cf, .slice am c.methods.length cm]) g1) rfl
  simp (disch := first | omega | assumption) only [C.law3_ClassWrites_gos, vs, Go.Vc.vk, T.ts, ↓reduceIte, Nat.reduceEqDiff, reduceCtorEq, Nat.reduceLeDiff, Nat.reducePow, Int.reducePow, Int.reduceToNat, Nat.reduceAdd, hld]
  refine eff_call_of ?_
  simp (disch := first | omega | assumption) only [C.law3_ClassWrites_gos, vs, Go.Vc.vk, T.ts, ↓reduceIte, Nat.reduceEqDiff, reduceCtorEq, Nat.reduceLeDiff, Nat.reducePow, Int.reducePow, Int.reduceToNat, Nat.reduceAdd]
  refine (hszA h1 e1).mono ?_
  rintro _ h2 ⟨x2, rfl⟩
  have g2 := Fr_blk x2 g1 id
  have X2 := e1.trans x2
  clear hld g1 e1 x2
  by_cases hbig : 32768 < sizeW c
  · have hbig' : (32768 : Int) < (sizeW c : Int) := by omega
    simp (disch := first | omega | assumption) only [C.law3_ClassWrites_gos, vs, Go.Vc.vk, T.ts, ↓reduceIte, Nat.reduceEqDiff, reduceCtorEq, Nat.reduceLeDiff, Nat.reducePow, Int.reducePow, Int.reduceToNat, Nat.reduceAdd, eq_true hbig']
    first | exact X2 | exact ⟨X2, rfl⟩
  have hbig' : ¬ (32768 : Int) < (sizeW c : Int) := by omega
  have hz2 : sizeW c ≤ 32768 := by omega
  unfold sizeW at hz2
  have hpt : ∀ x ∈ c.pool, x.text.length ≤ 1073741824 := fun x hx => by have := textW_each x hx; omega
  have hmh : ∀ m ∈ c.methods, m.code.hs.length ≤ 1073741824 := fun x hx => by have := sumW_each x hx; simp only [mW] at this; omega
  have hld := ld_agg T.ag_43 (Rd_block (vs := [.int .u16 (c.minor : Int), .int .u16 (c.major : Int), .int .u16 (c.flags : Int), .int .u16 (c.this : Int), .int .u16 (c.super : Int), .slice ap c.pool.length cp, .slice ai c.ifs.length ci, .slice af c.fields.length cf, .slice am c.methods.length cm]) g2) rfl
  simp (disch := first | omega | assumption) only [C.law3_ClassWrites_gos, vs, Go.Vc.vk, T.ts, ↓reduceIte, Nat.reduceEqDiff, reduceCtorEq, Nat.reduceLeDiff, Nat.reducePow, Int.reducePow, Int.reduceToNat, Nat.reduceAdd, eq_false hbig', hld]
  refine eff_call_of ?_
  simp (disch := first | omega | assumption) only [C.law3_ClassWrites_gos, vs, Go.Vc.vk, T.ts, ↓reduceIte, Nat.reduceEqDiff, reduceCtorEq, Nat.reduceLeDiff, Nat.reducePow, Int.reducePow, Int.reduceToNat, Nat.reduceAdd]
  refine (hanA h2 X2 (by omega) (by omega) (by omega) (by omega) (by omega)).mono ?_
  rintro _ h3 ⟨x3, up, ui, uf, um, rfl, hD⟩
  have g3 := Fr_blk x3 g2 id
  have X3 := X2.trans x3
  clear hld g2 X2 x3
  simp (disch := first | omega | assumption) only [C.law3_ClassWrites_gos, vs, Go.Vc.vk, T.ts, ↓reduceIte, Nat.reduceEqDiff, reduceCtorEq, Nat.reduceLeDiff, Nat.reducePow, Int.reducePow, Int.reduceToNat, Nat.reduceAdd]
  refine eff_alloc_z T.zr_43 ?_
  simp (disch := first | omega | assumption) only [C.law3_ClassWrites_gos, vs, Go.Vc.vk, T.ts, ↓reduceIte, Nat.reduceEqDiff, reduceCtorEq, Nat.reduceLeDiff, Nat.reducePow, Int.reducePow, Int.reduceToNat, Nat.reduceAdd]
  have hrefA := fun h' (x : Ext h3 h') => refClass_any c up ui uf um h' (hD.ext x) hF
  obtain ⟨_, bp, dp, rfl, _⟩ := id hD.p
  obtain ⟨_, bi, di, rfl, _⟩ := id hD.i
  obtain ⟨_, bf, df, rfl, _⟩ := id hD.f
  obtain ⟨bm, dm, rfl⟩ : ∃ am cm, um = .slice am c.methods.length cm := by
    obtain ⟨rows, _, ⟨_, a, cc, e, _⟩, _⟩ := hD.m
    exact ⟨a, cc, e⟩
  simp only [ClsV] at *
  refine eff_store_new_z T.zr_43 rfl rfl rfl (by simp [Value.cells, oneCell]) rfl ?_
  intro h4 x4 hlt4 hrd4 b4
  have g4 := Fr_blk x4 g3 id
  have X4 := X3.trans x4
  have hD4 := hD.ext x4
  have hrefB := fun h' (x : Ext h4 h') => hrefA h' (x4.trans x)
  clear g3 X3 hrefA hlt4 hD b4
  generalize h3.size = q at *
  have hld := ld_agg T.ag_43 (Rd_block (vs := [.int .u16 (c.minor : Int), .int .u16 (c.major : Int), .int .u16 (c.flags : Int), .int .u16 (c.this : Int), .int .u16 (c.super : Int), .slice ap c.pool.length cp, .slice ai c.ifs.length ci, .slice af c.fields.length cf, .slice am c.methods.length cm]) g4) rfl
  simp (disch := first | omega | assumption) only [C.law3_ClassWrites_gos, vs, Go.Vc.vk, T.ts, ↓reduceIte, Nat.reduceEqDiff, reduceCtorEq, Nat.reduceLeDiff, Nat.reducePow, Int.reducePow, Int.reduceToNat, Nat.reduceAdd, hld]
  refine eff_call_of ?_
  simp (disch := first | omega | assumption) only [C.law3_ClassWrites_gos, vs, Go.Vc.vk, T.ts, ↓reduceIte, Nat.reduceEqDiff, reduceCtorEq, Nat.reduceLeDiff, Nat.reducePow, Int.reducePow, Int.reduceToNat, Nat.reduceAdd]
  refine (hclA h4 X4 (by omega) hpt (by omega) (by omega) (by omega) (by omega) (by omega)).mono ?_
  rintro _ h5 ⟨x5, rfl⟩
  have g5 := Fr_blk x5 g4 id
  have X5 := X4.trans x5
  have hrd5 : Rd h5 q 0 _ := fun j v hv => cell_ext x5 (hrd4 j v hv)
  have hld5 := ld_agg T.ag_43 hrd5 rfl
  simp (disch := first | omega | assumption) only [C.law3_ClassWrites_gos, vs, Go.Vc.vk, T.ts, ↓reduceIte, Nat.reduceEqDiff, reduceCtorEq, Nat.reduceLeDiff, Nat.reducePow, Int.reducePow, Int.reduceToNat, Nat.reduceAdd, hld5]
  refine eff_call_of ?_
  simp (disch := first | omega | assumption) only [C.law3_ClassWrites_gos, vs, Go.Vc.vk, T.ts, ↓reduceIte, Nat.reduceEqDiff, reduceCtorEq, Nat.reduceLeDiff, Nat.reducePow, Int.reducePow, Int.reduceToNat, Nat.reduceAdd]
  refine (hrefB h5 x5 (by omega) hpt (by omega) (by omega) (by omega) (by omega) (by omega)).mono ?_
  rintro _ h6 ⟨x6, rfl⟩
  rw [outP_KR]
  have g6 := Fr_blk x6 g5 id
  have X6 := X5.trans x6
  have hrd6 : Rd h6 q 0 _ := fun j v hv => cell_ext x6 (hrd5 j v hv)
  have hld6 := ld_agg T.ag_43 hrd6 rfl
  have hld6c := ld_agg T.ag_43 (Rd_block (vs := [.int .u16 (c.minor : Int), .int .u16 (c.major : Int), .int .u16 (c.flags : Int), .int .u16 (c.this : Int), .int .u16 (c.super : Int), .slice ap c.pool.length cp, .slice ai c.ifs.length ci, .slice af c.fields.length cf, .slice am c.methods.length cm]) g6) rfl
  simp (disch := first | omega | assumption) only [C.law3_ClassWrites_gos, vs, Go.Vc.vk, T.ts, ↓reduceIte, Nat.reduceEqDiff, reduceCtorEq, Nat.reduceLeDiff, Nat.reducePow, Int.reducePow, Int.reduceToNat, Nat.reduceAdd, hld6, hld6c]
  refine eff_call_of ?_
  simp (disch := first | omega | assumption) only [C.law3_ClassWrites_gos, vs, Go.Vc.vk, T.ts, ↓reduceIte, Nat.reduceEqDiff, reduceCtorEq, Nat.reduceLeDiff, Nat.reducePow, Int.reducePow, Int.reduceToNat, Nat.reduceAdd]
  refine (hsmA h6 _ _ _ _ X6 (hD4.ext (x5.trans x6)) (by omega) (by omega) (by omega) (by omega) hmh).mono ?_
  rintro _ h7 ⟨x7, rfl⟩
  simp (disch := first | omega | assumption) only [C.law3_ClassWrites_gos, vs, Go.Vc.vk, T.ts, ↓reduceIte, Nat.reduceEqDiff, reduceCtorEq, Nat.reduceLeDiff, Nat.reducePow, Int.reducePow, Int.reduceToNat, Nat.reduceAdd]
  first | exact X6.trans x7 | exact ⟨X6.trans x7, rfl⟩
end Go.Proofs.Ytohkbpnblkkdgaa
