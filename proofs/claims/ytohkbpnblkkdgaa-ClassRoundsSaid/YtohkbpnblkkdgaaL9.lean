/- The law's own comparisons. -/
import Derived.Test.YtohkbpnblkkdgaaLO
import Derived.Test.YtohkbpnblkkdgaaCs
namespace Go.Proofs.Ytohkbpnblkkdgaa
open Go.Vc
set_option maxRecDepth 100000
set_option linter.unusedSimpArgs false
set_option linter.unusedVariables false
theorem cst_eqa (c : Cst) : eqaC Try.prog 76 c.cells = true := by
  unfold eqaC
  rw [Try.underlying76]
  kernel_rfl
set_option maxHeartbeats 1000000 in
theorem samePool_any (cs : List Cst) (v u : Value) (h : Heap) (hs : SlN h 5 v cs.length (flatS cs)) (ht : SlN h 5 u cs.length (flatS cs)) (hlen : cs.length ≤ 9223372036854775807) :
    HCalls Try.prog 50 #[v, u] h fun r h' => h' = h ∧ r = .bool true := by
  refine C.law3_samePool_calls (args := [v, u]) rfl ?_
  have hs' := hs
  have ht' := ht
  obtain ⟨_, a, c, rfl, _⟩ := hs'
  obtain ⟨_, a2, c2, rfl, _⟩ := ht'
  simp (disch := first | omega | assumption) only [C.law3_samePool_gos, T.tv, ↓reduceIte, Nat.reduceEqDiff, reduceCtorEq, Nat.reduceLeDiff, Nat.reducePow, Int.reducePow, Int.reduceToNat, Nat.reduceAdd]
  refine loop_intro [0, 1, 12, 13] (fun m ρ hc => ∃ i : Nat, m = cs.length - i ∧ i ≤ cs.length ∧ ρ = [(0, .slice a cs.length c), (1, .slice a2 cs.length c2), (12, .int .i64 cs.length), (13, .int .i64 i)] ∧ hc = h) ?_ ?_
  · simp (disch := first | omega | assumption) only [C.law3_samePool_gos, T.tv, ↓reduceIte, Nat.reduceEqDiff, reduceCtorEq, Nat.reduceLeDiff, Nat.reducePow, Int.reducePow, Int.reduceToNat, Nat.reduceAdd]
    exact ⟨_, 0, rfl, Nat.zero_le _, rfl⟩
  · rintro m ρ hc ⟨i, rfl, hi, rfl, rfl⟩
    rcases Nat.lt_or_ge i cs.length with hlt | hge
    · have hlt' : (i : Int) < cs.length := by omega
      obtain ⟨b, o, c', heq, hrd, _⟩ := hs.at hlt
      obtain ⟨b2, o2, c2', heq2, hrd2, _⟩ := ht.at hlt
      cases heq
      cases heq2
      rw [flatS_at hlt] at hrd hrd2
      generalize cs.getD i Cst.zero = k at *
      have hld := ld_agg T.ag_76 hrd rfl
      have hld2 := ld_agg T.ag_76 hrd2 rfl
      have hq := fun x y => bin_agg_neq (x := x) (y := y) (h := hc) (cst_eqa k)
      simp (disch := first | omega | assumption) only [C.law3_samePool_gos, T.tv, ↓reduceIte, Nat.reduceEqDiff, reduceCtorEq, Nat.reduceLeDiff, Nat.reducePow, Int.reducePow, Int.reduceToNat, Nat.reduceAdd, hlt', hld, hld2, hq]
      exact ⟨cs.length - (i + 1), by omega, i + 1, rfl, by omega, by simp⟩
    · have hlt' : ¬ (i : Int) < cs.length := by omega
      simp (disch := first | omega | assumption) only [C.law3_samePool_gos, T.tv, ↓reduceIte, Nat.reduceEqDiff, reduceCtorEq, Nat.reduceLeDiff, Nat.reducePow, Int.reducePow, Int.reduceToNat, Nat.reduceAdd, hlt']
theorem fld_eqa (x : Fld) : eqaC Try.prog 89 x.cells = true := by
  unfold eqaC
  rw [Try.underlying89]
  kernel_rfl
theorem hnd_eqa (x : Hnd) : eqaC Try.prog 132 x.cells = true := by
  unfold eqaC
  rw [Try.underlying132]
  kernel_rfl
set_option maxHeartbeats 4000000 in
theorem sameCode_any (c : Cde) (v1 v2 : Value) (h : Heap) (hs : SlN h 4 v1 c.hs.length (flatH c.hs)) (ht : SlN h 4 v2 c.hs.length (flatH c.hs)) (hlen : c.hs.length ≤ 9223372036854775806) :
    HCalls Try.prog 51 #[.agg (CdeV c v1).toArray, .agg (CdeV c v2).toArray] h fun r h' => Ext h h' ∧ r = .bool true := by
  refine C.law3_sameCode_calls (args := [.agg (CdeV c v1).toArray, .agg (CdeV c v2).toArray]) rfl ?_
  obtain ⟨_, a1, c1, rfl, _⟩ := id hs
  obtain ⟨_, a2, c2, rfl, _⟩ := id ht
  simp only [CdeV]
  simp (disch := first | omega | assumption) only [C.law3_sameCode_gos, T.tv, ↓reduceIte, Nat.reduceEqDiff, reduceCtorEq, Nat.reduceLeDiff, Nat.reducePow, Int.reducePow, Int.reduceToNat, Nat.reduceAdd]
  refine eff_box ?_
  have e1 : Ext h (h.push (.cells ([.int .i64 c.maxS, .int .i64 c.maxL, str c.bytes, .slice a1 c.hs.length c1, str c.map] : List Value).toArray 79)) := Ext.push _ _
  have g1 : (h.push (.cells ([.int .i64 c.maxS, .int .i64 c.maxL, str c.bytes, .slice a1 c.hs.length c1, str c.map] : List Value).toArray 79))[h.size]? = some (.cells ([.int .i64 c.maxS, .int .i64 c.maxL, str c.bytes, .slice a1 c.hs.length c1, str c.map] : List Value).toArray 79 (0, 0)) := by simp
  simp (disch := first | omega | assumption) only [C.law3_sameCode_gos, T.tv, ↓reduceIte, Nat.reduceEqDiff, reduceCtorEq, Nat.reduceLeDiff, Nat.reducePow, Int.reducePow, Int.reduceToNat, Nat.reduceAdd]
  generalize h.push (.cells ([.int .i64 c.maxS, .int .i64 c.maxL, str c.bytes, .slice a1 c.hs.length c1, str c.map] : List Value).toArray 79) = h1 at *
  obtain ⟨x1, hx1⟩ : ∃ x, x = h.size := ⟨_, rfl⟩
  rw [← hx1] at g1 ⊢
  refine eff_box ?_
  have e2 : Ext h1 (h1.push (.cells ([.int .i64 c.maxS, .int .i64 c.maxL, str c.bytes, .slice a2 c.hs.length c2, str c.map] : List Value).toArray 79)) := Ext.push _ _
  have g2 : (h1.push (.cells ([.int .i64 c.maxS, .int .i64 c.maxL, str c.bytes, .slice a2 c.hs.length c2, str c.map] : List Value).toArray 79))[h1.size]? = some (.cells ([.int .i64 c.maxS, .int .i64 c.maxL, str c.bytes, .slice a2 c.hs.length c2, str c.map] : List Value).toArray 79 (0, 0)) := by simp
  have g1' := Fr_blk e2 g1 id
  have X := e1.trans e2
  simp (disch := first | omega | assumption) only [C.law3_sameCode_gos, T.tv, ↓reduceIte, Nat.reduceEqDiff, reduceCtorEq, Nat.reduceLeDiff, Nat.reducePow, Int.reducePow, Int.reduceToNat, Nat.reduceAdd]
  generalize h1.push (.cells ([.int .i64 c.maxS, .int .i64 c.maxL, str c.bytes, .slice a2 c.hs.length c2, str c.map] : List Value).toArray 79) = h2 at *
  generalize h1.size = x2 at *
  have hs2 := hs.ext (by decide) X
  have ht2 := ht.ext (by decide) X
  have ka0 : cellAt h2 ⟨x1, 0, none⟩ = some (.int .i64 c.maxS) := by rw [cellAt_of g1']; rfl
  have ka1 : cellAt h2 ⟨x1, 1, none⟩ = some (.int .i64 c.maxL) := by rw [cellAt_of g1']; rfl
  have ka2 : cellAt h2 ⟨x1, 2, none⟩ = some (str c.bytes) := by rw [cellAt_of g1']; rfl
  have ka3 : cellAt h2 ⟨x1, 3, none⟩ = some (.slice a1 c.hs.length c1) := by rw [cellAt_of g1']; rfl
  have ka4 : cellAt h2 ⟨x1, 4, none⟩ = some (str c.map) := by rw [cellAt_of g1']; rfl
  have kb0 : cellAt h2 ⟨x2, 0, none⟩ = some (.int .i64 c.maxS) := by rw [cellAt_of g2]; rfl
  have kb1 : cellAt h2 ⟨x2, 1, none⟩ = some (.int .i64 c.maxL) := by rw [cellAt_of g2]; rfl
  have kb2 : cellAt h2 ⟨x2, 2, none⟩ = some (str c.bytes) := by rw [cellAt_of g2]; rfl
  have kb3 : cellAt h2 ⟨x2, 3, none⟩ = some (.slice a2 c.hs.length c2) := by rw [cellAt_of g2]; rfl
  have kb4 : cellAt h2 ⟨x2, 4, none⟩ = some (str c.map) := by rw [cellAt_of g2]; rfl
  simp (disch := first | omega | assumption) only [C.law3_sameCode_gos, T.tv, ↓reduceIte, Nat.reduceEqDiff, reduceCtorEq, Nat.reduceLeDiff, Nat.reducePow, Int.reducePow, Int.reduceToNat, Nat.reduceAdd, ka0, kb0, ka1, kb1, ka2, kb2, ka3, kb3, ka4, kb4]
  refine loop_intro [2, 3, 43, 44] (fun m ρ hc => ∃ i : Nat, m = c.hs.length - i ∧ i ≤ c.hs.length ∧ ρ = [(2, .pointer (some ⟨x1, 0, none⟩)), (3, .pointer (some ⟨x2, 0, none⟩)), (43, .int .i64 c.hs.length), (44, .int .i64 i)] ∧ hc = h2) ?_ ?_
  · simp (disch := first | omega | assumption) only [C.law3_sameCode_gos, T.tv, ↓reduceIte, Nat.reduceEqDiff, reduceCtorEq, Nat.reduceLeDiff, Nat.reducePow, Int.reducePow, Int.reduceToNat, Nat.reduceAdd]
    exact ⟨_, 0, rfl, Nat.zero_le _, rfl⟩
  rintro m ρ hc ⟨i, rfl, hi, rfl, rfl⟩
  rcases Nat.lt_or_ge i c.hs.length with hlt | hge
  case inr =>
    have hlt' : ¬ (i : Int) < c.hs.length := by omega
    simp (disch := first | omega | assumption) only [C.law3_sameCode_gos, T.tv, ↓reduceIte, Nat.reduceEqDiff, reduceCtorEq, Nat.reduceLeDiff, Nat.reducePow, Int.reducePow, Int.reduceToNat, Nat.reduceAdd, hlt']
    first | exact X | exact ⟨X, rfl⟩
  have hlt' : (i : Int) < c.hs.length := by omega
  obtain ⟨b, o, c', heq, hrd, _⟩ := hs2.at hlt
  obtain ⟨b2, o2, c2', heq2, hrd2, _⟩ := ht2.at hlt
  rw [flatH_at hlt] at hrd hrd2
  rw [heq] at ka3
  rw [heq2] at kb3
  generalize c.hs.getD i Hnd.zero = k at *
  have hld := ld_agg T.ag_132 hrd rfl
  have hld2 := ld_agg T.ag_132 hrd2 rfl
  have hq := fun x y => bin_agg_neq (x := x) (y := y) (h := hc) (hnd_eqa k)
  simp (disch := first | omega | assumption) only [C.law3_sameCode_gos, T.tv, ↓reduceIte, Nat.reduceEqDiff, reduceCtorEq, Nat.reduceLeDiff, Nat.reducePow, Int.reducePow, Int.reduceToNat, Nat.reduceAdd, hlt', ka3, kb3, hld, hld2, hq]
  exact ⟨_, by omega, i + 1, rfl, by omega, by simp⟩
structure SC (h hc : Heap) (x1 : Nat) (cs : List Value) (x2 : Nat) (ds : List Value) : Prop where
  x : Ext h hc
  c1 : hc[x1]? = some (.cells cs.toArray 43 (0, 0))
  c2 : hc[x2]? = some (.cells ds.toArray 43 (0, 0))
theorem SC.ext {h hc h' : Heap} {x1 x2 : Nat} {cs ds : List Value} (D : SC h hc x1 cs x2 ds) (x : Ext hc h') : SC h h' x1 cs x2 ds := ⟨D.x.trans x, Fr_blk x D.c1 id, Fr_blk x D.c2 id⟩
set_option maxHeartbeats 8000000 in
theorem sameClass_any (c : Cls) (vp vi vf vm up ui uf um : Value) (h : Heap) (hC : ClsC h c vp vi vf vm) (hD : ClsC h c up ui uf um) (hpl : c.pool.length ≤ 1073741824) (hil : c.ifs.length ≤ 1073741824) (hfl : c.fields.length ≤ 1073741824) (hmll : c.methods.length ≤ 1073741824)
    (hml : ∀ m ∈ c.methods, m.code.hs.length ≤ 1073741824) :
    HCalls Try.prog 18 #[.agg (ClsV c vp vi vf vm).toArray, .agg (ClsV c up ui uf um).toArray] h fun r h' => Ext h h' ∧ r = .bool true := by
  refine C.law3_sameClass_calls (args := [.agg (ClsV c vp vi vf vm).toArray, .agg (ClsV c up ui uf um).toArray]) rfl ?_
  obtain ⟨_, ap, cp, rfl, _⟩ := id hC.p
  obtain ⟨_, ai, ci, rfl, _⟩ := id hC.i
  obtain ⟨_, af, cf, rfl, _⟩ := id hC.f
  obtain ⟨am, cm, rfl⟩ : ∃ am cm, vm = .slice am c.methods.length cm := by
    obtain ⟨rows, _, ⟨_, a, cc, e, _⟩, _⟩ := hC.m
    exact ⟨a, cc, e⟩
  obtain ⟨_, bp, dp, rfl, _⟩ := id hD.p
  obtain ⟨_, bi, di, rfl, _⟩ := id hD.i
  obtain ⟨_, bf, df, rfl, _⟩ := id hD.f
  obtain ⟨bm, dm, rfl⟩ : ∃ am cm, um = .slice am c.methods.length cm := by
    obtain ⟨rows, _, ⟨_, a, cc, e, _⟩, _⟩ := hD.m
    exact ⟨a, cc, e⟩
  simp only [ClsV]
  simp (disch := first | omega | assumption) only [C.law3_sameClass_gos, T.tv, ↓reduceIte, Nat.reduceEqDiff, reduceCtorEq, Nat.reduceLeDiff, Nat.reducePow, Int.reducePow, Int.reduceToNat, Nat.reduceAdd]
  refine eff_box ?_
  have e1 : Ext h (h.push (.cells ([.int .u16 (c.minor : Int), .int .u16 (c.major : Int), .int .u16 (c.flags : Int), .int .u16 (c.this : Int), .int .u16 (c.super : Int), .slice ap c.pool.length cp, .slice ai c.ifs.length ci, .slice af c.fields.length cf, .slice am c.methods.length cm] : List Value).toArray 43)) := Ext.push _ _
  have g1 : (h.push (.cells ([.int .u16 (c.minor : Int), .int .u16 (c.major : Int), .int .u16 (c.flags : Int), .int .u16 (c.this : Int), .int .u16 (c.super : Int), .slice ap c.pool.length cp, .slice ai c.ifs.length ci, .slice af c.fields.length cf, .slice am c.methods.length cm] : List Value).toArray 43))[h.size]? = some (.cells ([.int .u16 (c.minor : Int), .int .u16 (c.major : Int), .int .u16 (c.flags : Int), .int .u16 (c.this : Int), .int .u16 (c.super : Int), .slice ap c.pool.length cp, .slice ai c.ifs.length ci, .slice af c.fields.length cf, .slice am c.methods.length cm] : List Value).toArray 43 (0, 0)) := by simp
  simp (disch := first | omega | assumption) only [C.law3_sameClass_gos, T.tv, ↓reduceIte, Nat.reduceEqDiff, reduceCtorEq, Nat.reduceLeDiff, Nat.reducePow, Int.reducePow, Int.reduceToNat, Nat.reduceAdd]
  generalize h.push (.cells ([.int .u16 (c.minor : Int), .int .u16 (c.major : Int), .int .u16 (c.flags : Int), .int .u16 (c.this : Int), .int .u16 (c.super : Int), .slice ap c.pool.length cp, .slice ai c.ifs.length ci, .slice af c.fields.length cf, .slice am c.methods.length cm] : List Value).toArray 43) = h1 at *
  obtain ⟨x1, hx1⟩ : ∃ x, x = h.size := ⟨_, rfl⟩
  rw [← hx1] at g1 ⊢
  refine eff_box ?_
  have e2 : Ext h1 (h1.push (.cells ([.int .u16 (c.minor : Int), .int .u16 (c.major : Int), .int .u16 (c.flags : Int), .int .u16 (c.this : Int), .int .u16 (c.super : Int), .slice bp c.pool.length dp, .slice bi c.ifs.length di, .slice bf c.fields.length df, .slice bm c.methods.length dm] : List Value).toArray 43)) := Ext.push _ _
  have g2 : (h1.push (.cells ([.int .u16 (c.minor : Int), .int .u16 (c.major : Int), .int .u16 (c.flags : Int), .int .u16 (c.this : Int), .int .u16 (c.super : Int), .slice bp c.pool.length dp, .slice bi c.ifs.length di, .slice bf c.fields.length df, .slice bm c.methods.length dm] : List Value).toArray 43))[h1.size]? = some (.cells ([.int .u16 (c.minor : Int), .int .u16 (c.major : Int), .int .u16 (c.flags : Int), .int .u16 (c.this : Int), .int .u16 (c.super : Int), .slice bp c.pool.length dp, .slice bi c.ifs.length di, .slice bf c.fields.length df, .slice bm c.methods.length dm] : List Value).toArray 43 (0, 0)) := by simp
  have D : SC h (h1.push (.cells ([.int .u16 (c.minor : Int), .int .u16 (c.major : Int), .int .u16 (c.flags : Int), .int .u16 (c.this : Int), .int .u16 (c.super : Int), .slice bp c.pool.length dp, .slice bi c.ifs.length di, .slice bf c.fields.length df, .slice bm c.methods.length dm] : List Value).toArray 43)) x1 [.int .u16 (c.minor : Int), .int .u16 (c.major : Int), .int .u16 (c.flags : Int), .int .u16 (c.this : Int), .int .u16 (c.super : Int), .slice ap c.pool.length cp, .slice ai c.ifs.length ci, .slice af c.fields.length cf, .slice am c.methods.length cm] h1.size [.int .u16 (c.minor : Int), .int .u16 (c.major : Int), .int .u16 (c.flags : Int), .int .u16 (c.this : Int), .int .u16 (c.super : Int), .slice bp c.pool.length dp, .slice bi c.ifs.length di, .slice bf c.fields.length df, .slice bm c.methods.length dm] := ⟨e1.trans e2, Fr_blk e2 g1 id, g2⟩
  simp (disch := first | omega | assumption) only [C.law3_sameClass_gos, T.tv, ↓reduceIte, Nat.reduceEqDiff, reduceCtorEq, Nat.reduceLeDiff, Nat.reducePow, Int.reducePow, Int.reduceToNat, Nat.reduceAdd]
  generalize h1.push (.cells ([.int .u16 (c.minor : Int), .int .u16 (c.major : Int), .int .u16 (c.flags : Int), .int .u16 (c.this : Int), .int .u16 (c.super : Int), .slice bp c.pool.length dp, .slice bi c.ifs.length di, .slice bf c.fields.length df, .slice bm c.methods.length dm] : List Value).toArray 43) = h2 at *
  generalize h1.size = x2 at *
  clear e1 e2 g1 g2
  have ka0 : cellAt h2 ⟨x1, 0, none⟩ = some (.int .u16 (c.minor : Int)) := by rw [cellAt_of D.c1]; rfl
  have kb0 : cellAt h2 ⟨x2, 0, none⟩ = some (.int .u16 (c.minor : Int)) := by rw [cellAt_of D.c2]; rfl
  have ka1 : cellAt h2 ⟨x1, 1, none⟩ = some (.int .u16 (c.major : Int)) := by rw [cellAt_of D.c1]; rfl
  have kb1 : cellAt h2 ⟨x2, 1, none⟩ = some (.int .u16 (c.major : Int)) := by rw [cellAt_of D.c2]; rfl
  have ka2 : cellAt h2 ⟨x1, 2, none⟩ = some (.int .u16 (c.flags : Int)) := by rw [cellAt_of D.c1]; rfl
  have kb2 : cellAt h2 ⟨x2, 2, none⟩ = some (.int .u16 (c.flags : Int)) := by rw [cellAt_of D.c2]; rfl
  have ka3 : cellAt h2 ⟨x1, 3, none⟩ = some (.int .u16 (c.this : Int)) := by rw [cellAt_of D.c1]; rfl
  have kb3 : cellAt h2 ⟨x2, 3, none⟩ = some (.int .u16 (c.this : Int)) := by rw [cellAt_of D.c2]; rfl
  have ka4 : cellAt h2 ⟨x1, 4, none⟩ = some (.int .u16 (c.super : Int)) := by rw [cellAt_of D.c1]; rfl
  have kb4 : cellAt h2 ⟨x2, 4, none⟩ = some (.int .u16 (c.super : Int)) := by rw [cellAt_of D.c2]; rfl
  have ka5 : cellAt h2 ⟨x1, 5, none⟩ = some (.slice ap c.pool.length cp) := by rw [cellAt_of D.c1]; rfl
  have kb5 : cellAt h2 ⟨x2, 5, none⟩ = some (.slice bp c.pool.length dp) := by rw [cellAt_of D.c2]; rfl
  have ka6 : cellAt h2 ⟨x1, 6, none⟩ = some (.slice ai c.ifs.length ci) := by rw [cellAt_of D.c1]; rfl
  have kb6 : cellAt h2 ⟨x2, 6, none⟩ = some (.slice bi c.ifs.length di) := by rw [cellAt_of D.c2]; rfl
  have ka7 : cellAt h2 ⟨x1, 7, none⟩ = some (.slice af c.fields.length cf) := by rw [cellAt_of D.c1]; rfl
  have kb7 : cellAt h2 ⟨x2, 7, none⟩ = some (.slice bf c.fields.length df) := by rw [cellAt_of D.c2]; rfl
  have ka8 : cellAt h2 ⟨x1, 8, none⟩ = some (.slice am c.methods.length cm) := by rw [cellAt_of D.c1]; rfl
  have kb8 : cellAt h2 ⟨x2, 8, none⟩ = some (.slice bm c.methods.length dm) := by rw [cellAt_of D.c2]; rfl
  simp (disch := first | omega | assumption) only [C.law3_sameClass_gos, T.tv, ↓reduceIte, Nat.reduceEqDiff, reduceCtorEq, Nat.reduceLeDiff, Nat.reducePow, Int.reducePow, Int.reduceToNat, Nat.reduceAdd, ka0, kb0, ka1, kb1, ka2, kb2, ka3, kb3, ka4, kb4, ka5, kb5, ka6, kb6, ka7, kb7, ka8, kb8]
  refine eff_callF rfl ((samePool_any c.pool _ _ h2 (hC.p.ext (by decide) D.x) (hD.p.ext (by decide) D.x) (by omega)).mono ?_)
  rintro _ h3 ⟨rfl, rfl⟩
  simp (disch := first | omega | assumption) only [C.law3_sameClass_gos, T.tv, ↓reduceIte, Nat.reduceEqDiff, reduceCtorEq, Nat.reduceLeDiff, Nat.reducePow, Int.reducePow, Int.reduceToNat, Nat.reduceAdd, ka6]
  clear ka0 kb0 ka1 kb1 ka2 kb2 ka3 kb3 ka4 kb4 ka5 kb5 ka6 kb6 ka7 kb7 ka8 kb8
  refine loop_intro [2, 3, 87, 88] (fun m ρ hc => ∃ i : Nat, m = c.ifs.length - i ∧ i ≤ c.ifs.length ∧ ρ = [(2, .pointer (some ⟨x1, 0, none⟩)), (3, .pointer (some ⟨x2, 0, none⟩)), (87, .int .i64 c.ifs.length), (88, .int .i64 i)] ∧ SC h hc x1 [.int .u16 (c.minor : Int), .int .u16 (c.major : Int), .int .u16 (c.flags : Int), .int .u16 (c.this : Int), .int .u16 (c.super : Int), .slice ap c.pool.length cp, .slice ai c.ifs.length ci, .slice af c.fields.length cf, .slice am c.methods.length cm] x2 [.int .u16 (c.minor : Int), .int .u16 (c.major : Int), .int .u16 (c.flags : Int), .int .u16 (c.this : Int), .int .u16 (c.super : Int), .slice bp c.pool.length dp, .slice bi c.ifs.length di, .slice bf c.fields.length df, .slice bm c.methods.length dm]) ?_ ?_
  · simp (disch := first | omega | assumption) only [C.law3_sameClass_gos, T.tv, ↓reduceIte, Nat.reduceEqDiff, reduceCtorEq, Nat.reduceLeDiff, Nat.reducePow, Int.reducePow, Int.reduceToNat, Nat.reduceAdd]
    exact ⟨_, 0, rfl, Nat.zero_le _, rfl, D⟩
  rintro m ρ hc ⟨i, rfl, hi, rfl, D⟩
  have hkeep := D
  rcases Nat.lt_or_ge i c.ifs.length with hlt | hge
  case' inr =>
    have hlt' : ¬ (i : Int) < c.ifs.length := by omega
  case inl =>
    have hlt' : (i : Int) < c.ifs.length := by omega
    have ka6 : cellAt hc ⟨x1, 6, none⟩ = some (.slice ai c.ifs.length ci) := by rw [cellAt_of D.c1]; rfl
    have kb6 : cellAt hc ⟨x2, 6, none⟩ = some (.slice bi c.ifs.length di) := by rw [cellAt_of D.c2]; rfl
    obtain ⟨b, o, c', heq, hrd, _⟩ := (hC.i.ext (by decide) D.x).at hlt
    obtain ⟨b2, o2, c2', heq2, hrd2, _⟩ := (hD.i.ext (by decide) D.x).at hlt
    rw [natV_at hlt] at hrd hrd2
    rw [heq] at ka6
    rw [heq2] at kb6
    generalize c.ifs.getD i 0 = k at *
    have q1 : cellAt hc ⟨b, o + i, none⟩ = some (.int .u16 (k : Int)) := by simpa using hrd 0 _ rfl
    have q2 : cellAt hc ⟨b2, o2 + i, none⟩ = some (.int .u16 (k : Int)) := by simpa using hrd2 0 _ rfl
    simp (disch := first | omega | assumption) only [C.law3_sameClass_gos, T.tv, ↓reduceIte, Nat.reduceEqDiff, reduceCtorEq, Nat.reduceLeDiff, Nat.reducePow, Int.reducePow, Int.reduceToNat, Nat.reduceAdd, hlt', ka6, kb6, q1, q2]
    exact ⟨_, by omega, i + 1, rfl, by omega, by simp, hkeep⟩
  have ka7 : cellAt hc ⟨x1, 7, none⟩ = some (.slice af c.fields.length cf) := by rw [cellAt_of D.c1]; rfl
  have kb7 : cellAt hc ⟨x2, 7, none⟩ = some (.slice bf c.fields.length df) := by rw [cellAt_of D.c2]; rfl
  simp (disch := first | omega | assumption) only [C.law3_sameClass_gos, T.tv, ↓reduceIte, Nat.reduceEqDiff, reduceCtorEq, Nat.reduceLeDiff, Nat.reducePow, Int.reducePow, Int.reduceToNat, Nat.reduceAdd, hlt', ka7]
  clear hlt' ka7 kb7
  refine loop_intro [2, 3, 105, 106] (fun m ρ hc => ∃ i : Nat, m = c.fields.length - i ∧ i ≤ c.fields.length ∧ ρ = [(2, .pointer (some ⟨x1, 0, none⟩)), (3, .pointer (some ⟨x2, 0, none⟩)), (105, .int .i64 c.fields.length), (106, .int .i64 i)] ∧ SC h hc x1 [.int .u16 (c.minor : Int), .int .u16 (c.major : Int), .int .u16 (c.flags : Int), .int .u16 (c.this : Int), .int .u16 (c.super : Int), .slice ap c.pool.length cp, .slice ai c.ifs.length ci, .slice af c.fields.length cf, .slice am c.methods.length cm] x2 [.int .u16 (c.minor : Int), .int .u16 (c.major : Int), .int .u16 (c.flags : Int), .int .u16 (c.this : Int), .int .u16 (c.super : Int), .slice bp c.pool.length dp, .slice bi c.ifs.length di, .slice bf c.fields.length df, .slice bm c.methods.length dm]) ?_ ?_
  · simp (disch := first | omega | assumption) only [C.law3_sameClass_gos, T.tv, ↓reduceIte, Nat.reduceEqDiff, reduceCtorEq, Nat.reduceLeDiff, Nat.reducePow, Int.reducePow, Int.reduceToNat, Nat.reduceAdd]
    exact ⟨_, 0, rfl, Nat.zero_le _, rfl, D⟩
  rintro m ρ hc ⟨i, rfl, hi, rfl, D⟩
  have hkeep := D
  rcases Nat.lt_or_ge i c.fields.length with hlt | hge
  case' inr =>
    have hlt' : ¬ (i : Int) < c.fields.length := by omega
  case inl =>
    have hlt' : (i : Int) < c.fields.length := by omega
    have ka7 : cellAt hc ⟨x1, 7, none⟩ = some (.slice af c.fields.length cf) := by rw [cellAt_of D.c1]; rfl
    have kb7 : cellAt hc ⟨x2, 7, none⟩ = some (.slice bf c.fields.length df) := by rw [cellAt_of D.c2]; rfl
    obtain ⟨b, o, c', heq, hrd, _⟩ := (hC.f.ext (by decide) D.x).at hlt
    obtain ⟨b2, o2, c2', heq2, hrd2, _⟩ := (hD.f.ext (by decide) D.x).at hlt
    rw [flatF_at hlt] at hrd hrd2
    rw [heq] at ka7
    rw [heq2] at kb7
    generalize c.fields.getD i Fld.zero = k at *
    have hld := ld_agg T.ag_89 hrd rfl
    have hld2 := ld_agg T.ag_89 hrd2 rfl
    have hq := fun x y => bin_agg_neq (x := x) (y := y) (h := hc) (fld_eqa k)
    simp (disch := first | omega | assumption) only [C.law3_sameClass_gos, T.tv, ↓reduceIte, Nat.reduceEqDiff, reduceCtorEq, Nat.reduceLeDiff, Nat.reducePow, Int.reducePow, Int.reduceToNat, Nat.reduceAdd, hlt', ka7, kb7, hld, hld2, hq]
    exact ⟨_, by omega, i + 1, rfl, by omega, by simp, hkeep⟩
  have ka8 : cellAt hc ⟨x1, 8, none⟩ = some (.slice am c.methods.length cm) := by rw [cellAt_of D.c1]; rfl
  have kb8 : cellAt hc ⟨x2, 8, none⟩ = some (.slice bm c.methods.length dm) := by rw [cellAt_of D.c2]; rfl
  simp (disch := first | omega | assumption) only [C.law3_sameClass_gos, T.tv, ↓reduceIte, Nat.reduceEqDiff, reduceCtorEq, Nat.reduceLeDiff, Nat.reducePow, Int.reducePow, Int.reduceToNat, Nat.reduceAdd, hlt', ka8]
  clear hlt' ka8 kb8
  refine loop_intro [2, 3, 123, 124] (fun m ρ hc => ∃ i : Nat, m = c.methods.length - i ∧ i ≤ c.methods.length ∧ ρ = [(2, .pointer (some ⟨x1, 0, none⟩)), (3, .pointer (some ⟨x2, 0, none⟩)), (123, .int .i64 c.methods.length), (124, .int .i64 i)] ∧ SC h hc x1 [.int .u16 (c.minor : Int), .int .u16 (c.major : Int), .int .u16 (c.flags : Int), .int .u16 (c.this : Int), .int .u16 (c.super : Int), .slice ap c.pool.length cp, .slice ai c.ifs.length ci, .slice af c.fields.length cf, .slice am c.methods.length cm] x2 [.int .u16 (c.minor : Int), .int .u16 (c.major : Int), .int .u16 (c.flags : Int), .int .u16 (c.this : Int), .int .u16 (c.super : Int), .slice bp c.pool.length dp, .slice bi c.ifs.length di, .slice bf c.fields.length df, .slice bm c.methods.length dm]) ?_ ?_
  · simp (disch := first | omega | assumption) only [C.law3_sameClass_gos, T.tv, ↓reduceIte, Nat.reduceEqDiff, reduceCtorEq, Nat.reduceLeDiff, Nat.reducePow, Int.reducePow, Int.reduceToNat, Nat.reduceAdd]
    exact ⟨_, 0, rfl, Nat.zero_le _, rfl, D⟩
  rintro m ρ hc ⟨i, rfl, hi, rfl, D⟩
  have hkeep := D
  rcases Nat.lt_or_ge i c.methods.length with hlt | hge
  case' inr =>
    have hlt' : ¬ (i : Int) < c.methods.length := by omega
  case inl =>
    have hlt' : (i : Int) < c.methods.length := by omega
    have ka8 : cellAt hc ⟨x1, 8, none⟩ = some (.slice am c.methods.length cm) := by rw [cellAt_of D.c1]; rfl
    have kb8 : cellAt hc ⟨x2, 8, none⟩ = some (.slice bm c.methods.length dm) := by rw [cellAt_of D.c2]; rfl
    obtain ⟨b, o, c', vH, heq, hrd, hH, _⟩ := hC.m.at hlt
    obtain ⟨b2, o2, c2', vH2, heq2, hrd2, hH2, _⟩ := hD.m.at hlt
    have hmw := hml _ (show c.methods.getD i Mth.zero ∈ c.methods by simp [hlt])
    have hrd := fun j v hv => cell_ext D.x (hrd j v hv)
    change Rd hc _ _ _ at hrd
    have hrd2 := fun j v hv => cell_ext D.x (hrd2 j v hv)
    change Rd hc _ _ _ at hrd2
    rw [heq] at ka8
    rw [heq2] at kb8
    generalize c.methods.getD i Mth.zero = k at *
    obtain ⟨f1, f2, f3, fh, fc⟩ := k
    simp only at hH hH2 hmw
    obtain ⟨_, aH, cH, rfl, _⟩ := id hH
    obtain ⟨_, aH2, cH2, rfl, _⟩ := id hH2
    have hld := ld_agg T.ag_81 hrd rfl
    have hld2 := ld_agg T.ag_81 hrd2 rfl
    simp only [MthV, CdeV, List.cons_append, List.nil_append] at hld hld2
    simp (disch := first | omega | assumption) only [C.law3_sameClass_gos, T.tv, ↓reduceIte, Nat.reduceEqDiff, reduceCtorEq, Nat.reduceLeDiff, Nat.reducePow, Int.reducePow, Int.reduceToNat, Nat.reduceAdd, hlt', ka8, hld]
    refine eff_alloc_z T.zr_81 ?_
    simp (disch := first | omega | assumption) only [C.law3_sameClass_gos, T.tv, ↓reduceIte, Nat.reduceEqDiff, reduceCtorEq, Nat.reduceLeDiff, Nat.reducePow, Int.reducePow, Int.reduceToNat, Nat.reduceAdd]
    refine eff_store_new_z T.zr_81 rfl rfl rfl (by simp [Value.cells, oneCell, str]) rfl ?_
    intro h3 y3 hlt3 hrd3 b3
    change h3[hc.size]? = some (.cells (MthV ⟨f1, f2, f3, fh, fc⟩ (.slice aH fc.hs.length cH)).toArray 81 (0, 0)) at b3
    have D3 := D.ext y3
    have kb8' : cellAt h3 ⟨x2, 8, none⟩ = some (.slice (some ⟨b2, o2, none⟩) c.methods.length c2') := cell_ext y3 kb8
    have hrd2' : Rd h3 b2 (o2 + i * 9) (MthV ⟨f1, f2, f3, fh, fc⟩ (.slice aH2 fc.hs.length cH2)) := fun j v hv => cell_ext y3 (hrd2 j v hv)
    have hld2' := ld_agg T.ag_81 hrd2' rfl
    simp only [MthV, CdeV, List.cons_append, List.nil_append] at hld2'
    clear hrd hld hrd2 hld2 hrd3 hlt3
    generalize hc.size = q at *
    simp (disch := first | omega | assumption) only [C.law3_sameClass_gos, T.tv, ↓reduceIte, Nat.reduceEqDiff, reduceCtorEq, Nat.reduceLeDiff, Nat.reducePow, Int.reducePow, Int.reduceToNat, Nat.reduceAdd, kb8', hld2']
    refine eff_alloc_z T.zr_81 ?_
    simp (disch := first | omega | assumption) only [C.law3_sameClass_gos, T.tv, ↓reduceIte, Nat.reduceEqDiff, reduceCtorEq, Nat.reduceLeDiff, Nat.reducePow, Int.reducePow, Int.reduceToNat, Nat.reduceAdd]
    refine eff_store_new_z T.zr_81 rfl rfl rfl (by simp [Value.cells, oneCell, str]) rfl ?_
    intro h4 y4 hlt4 hrd4 b4
    change h4[h3.size]? = some (.cells (MthV ⟨f1, f2, f3, fh, fc⟩ (.slice aH2 fc.hs.length cH2)).toArray 81 (0, 0)) at b4
    have D4 := D3.ext y4
    have b3' := Fr_blk y4 b3 id
    clear hrd2' hld2' hrd4 hlt4 kb8' b3
    generalize h3.size = q2 at *
    have na0 : cellAt h4 ⟨q, 0, none⟩ = some (.int .u16 (f1 : Int)) := by rw [cellAt_of b3']; rfl
    have na1 : cellAt h4 ⟨q, 1, none⟩ = some (.int .u16 (f2 : Int)) := by rw [cellAt_of b3']; rfl
    have na2 : cellAt h4 ⟨q, 2, none⟩ = some (.int .u16 (f3 : Int)) := by rw [cellAt_of b3']; rfl
    have na3 : cellAt h4 ⟨q, 3, none⟩ = some (.bool fh) := by rw [cellAt_of b3']; rfl
    have nb0 : cellAt h4 ⟨q2, 0, none⟩ = some (.int .u16 (f1 : Int)) := by rw [cellAt_of b4]; rfl
    have nb1 : cellAt h4 ⟨q2, 1, none⟩ = some (.int .u16 (f2 : Int)) := by rw [cellAt_of b4]; rfl
    have nb2 : cellAt h4 ⟨q2, 2, none⟩ = some (.int .u16 (f3 : Int)) := by rw [cellAt_of b4]; rfl
    have nb3 : cellAt h4 ⟨q2, 3, none⟩ = some (.bool fh) := by rw [cellAt_of b4]; rfl
    have rc1 : Rd h4 q 4 (CdeV fc (.slice aH fc.hs.length cH)) := (Rd_block (vs := MthV ⟨f1, f2, f3, fh, fc⟩ (.slice aH fc.hs.length cH)) b3').sub 4 5
    have rc2 : Rd h4 q2 4 (CdeV fc (.slice aH2 fc.hs.length cH2)) := (Rd_block (vs := MthV ⟨f1, f2, f3, fh, fc⟩ (.slice aH2 fc.hs.length cH2)) b4).sub 4 5
    have lc1 := ld_agg T.ag_79 rc1 rfl
    have lc2 := ld_agg T.ag_79 rc2 rfl
    simp (disch := first | omega | assumption) only [C.law3_sameClass_gos, T.tv, ↓reduceIte, Nat.reduceEqDiff, reduceCtorEq, Nat.reduceLeDiff, Nat.reducePow, Int.reducePow, Int.reduceToNat, Nat.reduceAdd, na0, na1, na2, na3, nb0, nb1, nb2, nb3, lc1, lc2]
    refine eff_callF rfl ((sameCode_any fc _ _ h4 (hH.ext (by decide) D4.x) (hH2.ext (by decide) D4.x) (by omega)).mono ?_)
    rintro _ h5 ⟨x5, rfl⟩
    simp (disch := first | omega | assumption) only [C.law3_sameClass_gos, T.tv, ↓reduceIte, Nat.reduceEqDiff, reduceCtorEq, Nat.reduceLeDiff, Nat.reducePow, Int.reducePow, Int.reduceToNat, Nat.reduceAdd]
    exact ⟨_, by omega, i + 1, rfl, by omega, by simp, D4.ext x5⟩
  simp (disch := first | omega | assumption) only [C.law3_sameClass_gos, T.tv, ↓reduceIte, Nat.reduceEqDiff, reduceCtorEq, Nat.reduceLeDiff, Nat.reducePow, Int.reducePow, Int.reduceToNat, Nat.reduceAdd, hlt']
  first | exact D.x | exact ⟨D.x, rfl⟩
end Go.Proofs.Ytohkbpnblkkdgaa
