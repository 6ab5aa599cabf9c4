/- jvmcoreref3.WriteClass: a class as bytes. -/
import Derived.Test.YtohkbpnblkkdgaaL6
import Derived.Test.YtohkbpnblkkdgaaB3
import Derived.Test.YtohkbpnblkkdgaaL4
namespace Go.Proofs.Ytohkbpnblkkdgaa
open Go.Vc
set_option maxRecDepth 100000
set_option linter.unusedSimpArgs false
set_option linter.unusedVariables false

structure RB (h0 hc : Heap) (g : Nat) (cc : List Value) (cb : Nat) (v : Value) (B : List UInt8) (E : Nat) : Prop where
  w : RW h0 hc g cc E
  cb : hc[cb]? = some (.cells cc.toArray 43 (0, 0))
  own : Own hc h0.size 5 1 v B.length (bytesV B)
section
variable {h0 hc h' : Heap} {g : Nat} {cc : List Value} {cb : Nat} {v : Value} {B : List UInt8} {E : Nat}
theorem RB.step {E' : Nat} (D : RB h0 hc g cc cb v B E) (W : RW h0 h' g cc E') (F : FrG g hc h') : RB h0 h' g cc cb v B E' :=
  ⟨W, Fr_blk F D.cb (D.w.ty D.cb (by decide)), D.own.fr F fun k hk hS => by
    subst hS
    exact Own_ne D.own D.w.2.2.2 (by decide) hk⟩
theorem RB.ext (D : RB h0 hc g cc cb v B E) (x : Ext hc h') : RB h0 h' g cc cb v B E :=
  ⟨D.w.ext x, Fr_blk x D.cb id, D.own.ext x⟩
theorem RB.app {v2 : Value} {l : List UInt8} (D : RB h0 hc g cc cb v B E) (own2 : Own h' h0.size 5 1 v2 (B.length + l.length) (bytesV B ++ bytesV l)) (fr : Fr (fun k => v.ownBlock = some k) hc h') : RB h0 h' g cc cb v2 (B ++ l) E :=
  ⟨⟨D.w.1, Ext.app D.w.2.1 fr (fun k hk => (D.own.lt k hk).1), D.w.2.2.1, Fr_blk fr D.w.2.2.2 (Own_ne D.own D.w.2.2.2 (by decide))⟩, Fr_blk fr D.cb (Own_ne D.own D.cb (by decide)), Own_cast own2 (by simp) (by simp [bytesV])⟩
theorem RB.to {B' : List UInt8} {E' : Nat} (D : RB h0 hc g cc cb v B E) (hB : B = B') (hE : E = E') : RB h0 hc g cc cb v B' E' := hB ▸ hE ▸ D
theorem RB.blk {k : Nat} {cs : Array Value} {t : TypeId} {fz : Nat × Nat} (D : RB h0 hc g cc cb v B E) (fr : Fr (fun k => v.ownBlock = some k) hc h') (hb : hc[k]? = some (.cells cs t fz)) (ht : 5 ≠ t) : h'[k]? = some (.cells cs t fz) :=
  Fr_blk fr hb (Own_ne D.own hb ht)
theorem RB.num (D : RB h0 hc g cc cb v B E) (x : Int) (n : Nat) (hn : n = 2 ∨ n = 4) :
    HCalls Try.prog 47 #[.pointer (some ⟨g, 0, none⟩), .int .i64 x, .int .i64 n] hc fun r h' => r = str (numP x n).1 ∧ RB h0 h' g cc cb v B (thenE E (numP x n).2) ∧ FrG g hc h' :=
  (rwnum_any x n hn D.w).mono fun _ _ hp => ⟨hp.1, D.step hp.2.1 hp.2.2, hp.2.2⟩
theorem RB.idx (D : RB h0 hc g cc cb v B E) (x : Nat) (hx : x < 65536) :
    HCalls Try.prog 47 #[.pointer (some ⟨g, 0, none⟩), .int .i64 (x : Int), .int .i64 2] hc fun r h' => r = str (bigS x 2) ∧ RB h0 h' g cc cb v B E ∧ FrG g hc h' :=
  (D.num (x : Int) 2 (.inl rfl)).mono fun _ _ hp => by
    rw [idxP_num hx] at hp
    simpa only [idxP, thenE_zero] using hp
theorem RB.fail (D : RB h0 hc g cc cb v B E) (q : Nat) :
    HCalls Try.prog 45 #[.pointer (some ⟨g, 0, none⟩), .int .i64 q] hc fun _ h' => RB h0 h' g cc cb v B (thenE E q) :=
  (rwfail_any q D.w).mono fun _ _ hp => D.step hp.1 hp.2
theorem RB.attr (D : RB h0 hc g cc cb v B E) (p : List Cst) (vp : Value) (name body : List UInt8) (hp : SlN h0 5 vp p.length (flatS p)) (hcc : cc[5]? = some vp) (hpl : p.length ≤ 65536) (hb : body.length ≤ 1000000000) :
    HCalls Try.prog 48 #[.pointer (some ⟨g, 0, none⟩), str name, str body] hc fun r h' => r = str (attrP (nameR p) name (body, 0)).1 ∧ RB h0 h' g cc cb v B (thenE E (attrP (nameR p) name (body, 0)).2) ∧ FrG g hc h' :=
  (rwattr_any p vp name body hp hcc hpl hb D.w).mono fun _ _ hp => ⟨hp.1, D.step hp.2.1 hp.2.2, hp.2.2⟩
theorem RB.code (D : RB h0 hc g cc cb v B E) (p : List Cst) (vp : Value) (c : Cde) (vH : Value) (hp : SlN h0 5 vp p.length (flatS p)) (hcc : cc[5]? = some vp) (hpl : p.length ≤ 65536) (hcf : c.Fit) (hH : SlN h0 4 vH c.hs.length (flatH c.hs))
    (hhl : c.hs.length ≤ 1048576) (hbl : c.bytes.length ≤ 1048576) (hml : c.map.length ≤ 1048576) :
    HCalls Try.prog 49 #[.pointer (some ⟨g, 0, none⟩), .agg (CdeV c vH).toArray] hc fun r h' => r = str (attrP (nameR p) cdN (cdeP (nameR p) c)).1 ∧ RB h0 h' g cc cb v B (thenE E (attrP (nameR p) cdN (cdeP (nameR p) c)).2) ∧ FrG g hc h' :=
  (rwcode_any p vp c vH hp hcc hpl hcf hH hhl hbl hml D.w).mono fun _ _ hp => ⟨hp.1, D.step hp.2.1 hp.2.2, hp.2.2⟩
end
set_option maxHeartbeats 8000000 in
theorem refClass_any (c : Cls) (vp vi vf vm : Value) (h : Heap) (hC : ClsC h c vp vi vf vm) (hF : c.Fit) (hpl : c.pool.length ≤ 65536) (hpt : ∀ x ∈ c.pool, x.text.length ≤ 1073741824) (htw : textW c.pool ≤ 100000000) (hil : c.ifs.length ≤ 1048576) (hfl : c.fields.length ≤ 1048576)
    (hml : c.methods.length ≤ 1048576) (hsw : sumW c.methods ≤ 1048576) :
    HCalls Try.prog 17 #[.agg (ClsV c vp vi vf vm).toArray] h fun r h' => Ext h h' ∧ r = .tuple #[str (outP (clsP (nameR c.pool) c)).1, .int .i64 ((outP (clsP (nameR c.pool) c)).2 : Int)] := by
  refine C.ref3_WriteClass_calls (args := [.agg (ClsV c vp vi vf vm).toArray]) rfl ?_
  have hCp := hC.p
  have hCi := hC.i
  have hCf := hC.f
  have hCm := hC.m
  obtain ⟨_, ap, cp, rfl, _⟩ := id hC.p
  obtain ⟨_, ai, ci, rfl, _⟩ := id hC.i
  obtain ⟨_, af, cf, rfl, _⟩ := id hC.f
  obtain ⟨am, cm, rfl⟩ : ∃ am cm, vm = .slice am c.methods.length cm := by
    obtain ⟨rows, _, ⟨_, a, cc, e, _⟩, _⟩ := hC.m
    exact ⟨a, cc, e⟩
  have hwl := writeS_le c.pool
  have q1 := hF.minor
  have q2 := hF.major
  have q3 := hF.flags
  have q4 := hF.this
  have q5 := hF.super
  simp only [ClsV]
  simp (disch := first | omega | assumption) only [C.ref3_WriteClass_gos, T.tv, ↓reduceIte, Nat.reduceEqDiff, reduceCtorEq, Nat.reduceLeDiff, Nat.reducePow, Int.reducePow, Int.reduceToNat, Nat.reduceAdd]
  refine eff_box ?_
  have e1 : Ext h (h.push (.cells ([.int .u16 (c.minor : Int), .int .u16 (c.major : Int), .int .u16 (c.flags : Int), .int .u16 (c.this : Int), .int .u16 (c.super : Int), .slice ap c.pool.length cp, .slice ai c.ifs.length ci, .slice af c.fields.length cf, .slice am c.methods.length cm] : List Value).toArray 43)) := Ext.push _ _
  have cb0 : (h.push (.cells ([.int .u16 (c.minor : Int), .int .u16 (c.major : Int), .int .u16 (c.flags : Int), .int .u16 (c.this : Int), .int .u16 (c.super : Int), .slice ap c.pool.length cp, .slice ai c.ifs.length ci, .slice af c.fields.length cf, .slice am c.methods.length cm] : List Value).toArray 43))[h.size]? = some (.cells ([.int .u16 (c.minor : Int), .int .u16 (c.major : Int), .int .u16 (c.flags : Int), .int .u16 (c.this : Int), .int .u16 (c.super : Int), .slice ap c.pool.length cp, .slice ai c.ifs.length ci, .slice af c.fields.length cf, .slice am c.methods.length cm] : List Value).toArray 43 (0, 0)) := by simp
  simp (disch := first | omega | assumption) only [C.ref3_WriteClass_gos, T.tv, ↓reduceIte, Nat.reduceEqDiff, reduceCtorEq, Nat.reduceLeDiff, Nat.reducePow, Int.reducePow, Int.reduceToNat, Nat.reduceAdd]
  generalize h.push (.cells ([.int .u16 (c.minor : Int), .int .u16 (c.major : Int), .int .u16 (c.flags : Int), .int .u16 (c.this : Int), .int .u16 (c.super : Int), .slice ap c.pool.length cp, .slice ai c.ifs.length ci, .slice af c.fields.length cf, .slice am c.methods.length cm] : List Value).toArray 43) = h1 at *
  obtain ⟨cb, hcb⟩ : ∃ x, x = h.size := ⟨_, rfl⟩
  rw [← hcb] at cb0 ⊢
  have hld := ld_agg T.ag_43 (Rd_block (vs := [.int .u16 (c.minor : Int), .int .u16 (c.major : Int), .int .u16 (c.flags : Int), .int .u16 (c.this : Int), .int .u16 (c.super : Int), .slice ap c.pool.length cp, .slice ai c.ifs.length ci, .slice af c.fields.length cf, .slice am c.methods.length cm]) cb0) rfl
  simp (disch := first | omega | assumption) only [C.ref3_WriteClass_gos, T.tv, ↓reduceIte, Nat.reduceEqDiff, reduceCtorEq, Nat.reduceLeDiff, Nat.reducePow, Int.reducePow, Int.reduceToNat, Nat.reduceAdd, hld]
  refine eff_box ?_
  have e2 : Ext h1 (h1.push (.cells ([.int .u16 (c.minor : Int), .int .u16 (c.major : Int), .int .u16 (c.flags : Int), .int .u16 (c.this : Int), .int .u16 (c.super : Int), .slice ap c.pool.length cp, .slice ai c.ifs.length ci, .slice af c.fields.length cf, .slice am c.methods.length cm, .int .i64 0] : List Value).toArray 94)) := Ext.push _ _
  have g0 : (h1.push (.cells ([.int .u16 (c.minor : Int), .int .u16 (c.major : Int), .int .u16 (c.flags : Int), .int .u16 (c.this : Int), .int .u16 (c.super : Int), .slice ap c.pool.length cp, .slice ai c.ifs.length ci, .slice af c.fields.length cf, .slice am c.methods.length cm, .int .i64 0] : List Value).toArray 94))[h1.size]? = some (.cells ([.int .u16 (c.minor : Int), .int .u16 (c.major : Int), .int .u16 (c.flags : Int), .int .u16 (c.this : Int), .int .u16 (c.super : Int), .slice ap c.pool.length cp, .slice ai c.ifs.length ci, .slice af c.fields.length cf, .slice am c.methods.length cm, .int .i64 0] : List Value).toArray 94 (0, 0)) := by simp
  simp (disch := first | omega | assumption) only [C.ref3_WriteClass_gos, T.tv, ↓reduceIte, Nat.reduceEqDiff, reduceCtorEq, Nat.reduceLeDiff, Nat.reducePow, Int.reducePow, Int.reduceToNat, Nat.reduceAdd]
  have hg1 : h.size ≤ h1.size := e1.size
  have D : RB h (h1.push (.cells ([.int .u16 (c.minor : Int), .int .u16 (c.major : Int), .int .u16 (c.flags : Int), .int .u16 (c.this : Int), .int .u16 (c.super : Int), .slice ap c.pool.length cp, .slice ai c.ifs.length ci, .slice af c.fields.length cf, .slice am c.methods.length cm, .int .i64 0] : List Value).toArray 94)) h1.size [.int .u16 (c.minor : Int), .int .u16 (c.major : Int), .int .u16 (c.flags : Int), .int .u16 (c.this : Int), .int .u16 (c.super : Int), .slice ap c.pool.length cp, .slice ai c.ifs.length ci, .slice af c.fields.length cf, .slice am c.methods.length cm] cb (.slice none 0 0) [] 0 :=
    ⟨⟨hg1, e1.trans e2, rfl, g0⟩, Fr_blk e2 cb0 id, Own.nil⟩
  generalize h1.push (.cells ([.int .u16 (c.minor : Int), .int .u16 (c.major : Int), .int .u16 (c.flags : Int), .int .u16 (c.this : Int), .int .u16 (c.super : Int), .slice ap c.pool.length cp, .slice ai c.ifs.length ci, .slice af c.fields.length cf, .slice am c.methods.length cm, .int .i64 0] : List Value).toArray 94) = h2 at *
  generalize h1.size = g at *
  clear e1 e2 g0 hld cb0
  have D00 := D
  clear D
  have hjoin0 : ∀ (h7 : Heap) (x31 x42 : Value) (E0 : Nat), RB h h7 g [.int .u16 (c.minor : Int), .int .u16 (c.major : Int), .int .u16 (c.flags : Int), .int .u16 (c.this : Int), .int .u16 (c.super : Int), .slice ap c.pool.length cp, .slice ai c.ifs.length ci, .slice af c.fields.length cf, .slice am c.methods.length cm] cb (.slice none 0 0) [] E0 → E0 = thenE (verE c) (writeS c.pool).2.1 →
      Cd.vc Try.prog C.ref3_WriteClass_t0 (retQ Try.prog [(2, none), (3, none)] fun r h' => Ext h h' ∧ r = .tuple #[str (outP (clsP (nameR c.pool) c)).1, .int .i64 ((outP (clsP (nameR c.pool) c)).2 : Int)]) [(0, .agg ([.int .u16 (c.minor : Int), .int .u16 (c.major : Int), .int .u16 (c.flags : Int), .int .u16 (c.this : Int), .int .u16 (c.super : Int), .slice ap c.pool.length cp, .slice ai c.ifs.length ci, .slice af c.fields.length cf, .slice am c.methods.length cm] : List Value).toArray), (1, .pointer (some ⟨cb, 0, none⟩)), (2, str []), (3, .int .i64 0), (4, .pointer (some ⟨g, 0, none⟩)), (5, str (writeS c.pool).1), (6, .int .i64 ((writeS c.pool).2.1 : Int)), (8, undef), (9, undef), (11, undef), (13, undef), (15, undef), (31, x31), (42, x42), (88, undef), (89, undef), (90, undef), (91, undef), (109, undef), (110, undef), (111, undef), (112, undef), (136, undef), (158, undef), (159, undef), (160, undef), (161, undef), (185, undef), (202, undef)] h7 := by
    intro h7 x31 x42 E0 D hE0
    rw [C.ref3_WriteClass_t0_go]
    have w_0 : IntKind.i64.wrap (c.minor : Int) = (c.minor : Int) := wrap_i64 (by omega) (by omega)
    have w_1 : IntKind.i64.wrap (c.major : Int) = (c.major : Int) := wrap_i64 (by omega) (by omega)
    have w_2 : IntKind.i64.wrap (c.flags : Int) = (c.flags : Int) := wrap_i64 (by omega) (by omega)
    have w_3 : IntKind.i64.wrap (c.this : Int) = (c.this : Int) := wrap_i64 (by omega) (by omega)
    have w_4 : IntKind.i64.wrap (c.super : Int) = (c.super : Int) := wrap_i64 (by omega) (by omega)
    have z1 : ([202, 254, 186, 190] : List UInt8).length + (bigS c.minor 2).length ≤ 9223372036854775807 := by rw [bigS_len]; decide
    have z2 : ([202, 254, 186, 190] ++ bigS c.minor 2).length + (bigS c.major 2).length ≤ 9223372036854775807 := by simp only [List.length_append, bigS_len, List.length_cons, List.length_nil]; omega
    have z3 : ([202, 254, 186, 190] ++ bigS c.minor 2 ++ bigS c.major 2).length + (writeS c.pool).1.length ≤ 9223372036854775807 := by simp only [List.length_append, bigS_len, List.length_cons, List.length_nil]; omega
    have z4 : (bigS c.flags 2).length + (bigS c.this 2).length ≤ 9223372036854775807 := by simp only [List.length_append, bigS_len, List.length_cons, List.length_nil]; omega
    have z5 : (bigS c.flags 2 ++ bigS c.this 2).length + (bigS c.super 2).length ≤ 9223372036854775807 := by simp only [List.length_append, bigS_len, List.length_cons, List.length_nil]; omega
    obtain ⟨S0, hS0⟩ : ∃ S0, S0 = [202, 254, 186, 190] ++ bigS c.minor 2 ++ bigS c.major 2 ++ (writeS c.pool).1 := ⟨_, rfl⟩
    have hS0l : S0.length = 8 + (writeS c.pool).1.length := by rw [hS0]; simp only [List.length_append, bigS_len, List.length_cons, List.length_nil]
    have hS0' := hS0.symm
    simp only [List.cons_append, List.nil_append] at z2 z3 hS0'
    have k0 : cellAt h7 ⟨cb, 0, none⟩ = some (.int .u16 (c.minor : Int)) := by rw [cellAt_of D.cb]; rfl
    have k1 : cellAt h7 ⟨cb, 1, none⟩ = some (.int .u16 (c.major : Int)) := by rw [cellAt_of D.cb]; rfl
    simp (disch := first | omega | assumption) only [C.ref3_WriteClass_gos, T.tv, ↓reduceIte, Nat.reduceEqDiff, reduceCtorEq, Nat.reduceLeDiff, Nat.reducePow, Int.reducePow, Int.reduceToNat, Nat.reduceAdd, k0, k1, w_0, w_1]
    refine eff_callF rfl ((D.idx c.minor q1).mono ?_)
    rintro _ ha ⟨rfl, Da, _⟩
    clear k0 k1 D
    have k0 : cellAt ha ⟨cb, 0, none⟩ = some (.int .u16 (c.minor : Int)) := by rw [cellAt_of Da.cb]; rfl
    have k1 : cellAt ha ⟨cb, 1, none⟩ = some (.int .u16 (c.major : Int)) := by rw [cellAt_of Da.cb]; rfl
    simp (disch := first | omega | assumption) only [C.ref3_WriteClass_gos, T.tv, ↓reduceIte, Nat.reduceEqDiff, reduceCtorEq, Nat.reduceLeDiff, Nat.reducePow, Int.reducePow, Int.reduceToNat, Nat.reduceAdd, k0, k1, w_0, w_1, bin_str_add z1, List.cons_append, List.nil_append]
    refine eff_callF rfl ((Da.idx c.major q2).mono ?_)
    rintro _ hb ⟨rfl, Db, _⟩
    clear k0 k1 Da
    have k0 : cellAt hb ⟨cb, 0, none⟩ = some (.int .u16 (c.minor : Int)) := by rw [cellAt_of Db.cb]; rfl
    have k1 : cellAt hb ⟨cb, 1, none⟩ = some (.int .u16 (c.major : Int)) := by rw [cellAt_of Db.cb]; rfl
    have k2 : cellAt hb ⟨cb, 2, none⟩ = some (.int .u16 (c.flags : Int)) := by rw [cellAt_of Db.cb]; rfl
    have k3 : cellAt hb ⟨cb, 3, none⟩ = some (.int .u16 (c.this : Int)) := by rw [cellAt_of Db.cb]; rfl
    have k4 : cellAt hb ⟨cb, 4, none⟩ = some (.int .u16 (c.super : Int)) := by rw [cellAt_of Db.cb]; rfl
    have k6 : cellAt hb ⟨cb, 6, none⟩ = some (.slice ai c.ifs.length ci) := by rw [cellAt_of Db.cb]; rfl
    simp (disch := first | omega | assumption) only [C.ref3_WriteClass_gos, T.tv, ↓reduceIte, Nat.reduceEqDiff, reduceCtorEq, Nat.reduceLeDiff, Nat.reducePow, Int.reducePow, Int.reduceToNat, Nat.reduceAdd, k0, k1, k2, k3, k4, k6, w_0, w_1, w_2, w_3, w_4, bin_str_add z1, List.cons_append, List.nil_append, bin_str_add z2, bin_str_add z3, hS0']
    refine eff_callF rfl ((Db.idx c.flags q3).mono ?_)
    rintro _ hc ⟨rfl, Dc, _⟩
    clear k0 k1 k2 k3 k4 k6 Db z1 z2 z3
    have k2 : cellAt hc ⟨cb, 2, none⟩ = some (.int .u16 (c.flags : Int)) := by rw [cellAt_of Dc.cb]; rfl
    have k3 : cellAt hc ⟨cb, 3, none⟩ = some (.int .u16 (c.this : Int)) := by rw [cellAt_of Dc.cb]; rfl
    have k4 : cellAt hc ⟨cb, 4, none⟩ = some (.int .u16 (c.super : Int)) := by rw [cellAt_of Dc.cb]; rfl
    have k6 : cellAt hc ⟨cb, 6, none⟩ = some (.slice ai c.ifs.length ci) := by rw [cellAt_of Dc.cb]; rfl
    simp (disch := first | omega | assumption) only [C.ref3_WriteClass_gos, T.tv, ↓reduceIte, Nat.reduceEqDiff, reduceCtorEq, Nat.reduceLeDiff, Nat.reducePow, Int.reducePow, Int.reduceToNat, Nat.reduceAdd, k2, k3, k4, k6, w_2, w_3, w_4]
    refine eff_callF rfl ((Dc.idx c.this q4).mono ?_)
    rintro _ hd ⟨rfl, Dd, _⟩
    clear k2 k3 k4 k6 Dc
    have k2 : cellAt hd ⟨cb, 2, none⟩ = some (.int .u16 (c.flags : Int)) := by rw [cellAt_of Dd.cb]; rfl
    have k3 : cellAt hd ⟨cb, 3, none⟩ = some (.int .u16 (c.this : Int)) := by rw [cellAt_of Dd.cb]; rfl
    have k4 : cellAt hd ⟨cb, 4, none⟩ = some (.int .u16 (c.super : Int)) := by rw [cellAt_of Dd.cb]; rfl
    have k6 : cellAt hd ⟨cb, 6, none⟩ = some (.slice ai c.ifs.length ci) := by rw [cellAt_of Dd.cb]; rfl
    simp (disch := first | omega | assumption) only [C.ref3_WriteClass_gos, T.tv, ↓reduceIte, Nat.reduceEqDiff, reduceCtorEq, Nat.reduceLeDiff, Nat.reducePow, Int.reducePow, Int.reduceToNat, Nat.reduceAdd, k2, k3, k4, k6, w_2, w_3, w_4, bin_str_add z4]
    refine eff_callF rfl ((Dd.idx c.super q5).mono ?_)
    rintro _ he ⟨rfl, De, _⟩
    clear k2 k3 k4 k6 Dd
    have k2 : cellAt he ⟨cb, 2, none⟩ = some (.int .u16 (c.flags : Int)) := by rw [cellAt_of De.cb]; rfl
    have k3 : cellAt he ⟨cb, 3, none⟩ = some (.int .u16 (c.this : Int)) := by rw [cellAt_of De.cb]; rfl
    have k4 : cellAt he ⟨cb, 4, none⟩ = some (.int .u16 (c.super : Int)) := by rw [cellAt_of De.cb]; rfl
    have k6 : cellAt he ⟨cb, 6, none⟩ = some (.slice ai c.ifs.length ci) := by rw [cellAt_of De.cb]; rfl
    simp (disch := first | omega | assumption) only [C.ref3_WriteClass_gos, T.tv, ↓reduceIte, Nat.reduceEqDiff, reduceCtorEq, Nat.reduceLeDiff, Nat.reducePow, Int.reducePow, Int.reduceToNat, Nat.reduceAdd, k2, k3, k4, k6, w_2, w_3, w_4, bin_str_add z4, bin_str_add z5]
    refine eff_callF rfl ((De.num (c.ifs.length : Int) 2 (.inl rfl)).mono ?_)
    rintro _ hf ⟨rfl, Df, _⟩
    clear k2 k3 k4 k6 De
    have z6 : (bigS c.flags 2 ++ bigS c.this 2 ++ bigS c.super 2).length + (numP (c.ifs.length : Int) 2).1.length ≤ 9223372036854775807 := by simp only [List.length_append, bigS_len, numP_l]; omega
    have z7 : S0.length + (bigS c.flags 2 ++ bigS c.this 2 ++ bigS c.super 2 ++ (numP (c.ifs.length : Int) 2).1).length ≤ 9223372036854775807 := by simp only [List.length_append, bigS_len, numP_l]; omega
    obtain ⟨S1, hS1⟩ : ∃ S1, S0 ++ (bigS c.flags 2 ++ bigS c.this 2 ++ bigS c.super 2 ++ (numP (c.ifs.length : Int) 2).1) = S1 := ⟨_, rfl⟩
    have hS1l : S1.length = 16 + (writeS c.pool).1.length := by rw [← hS1]; simp only [List.length_append, bigS_len, numP_l, hS0l]; omega
    have k2 : cellAt hf ⟨cb, 2, none⟩ = some (.int .u16 (c.flags : Int)) := by rw [cellAt_of Df.cb]; rfl
    have k3 : cellAt hf ⟨cb, 3, none⟩ = some (.int .u16 (c.this : Int)) := by rw [cellAt_of Df.cb]; rfl
    have k4 : cellAt hf ⟨cb, 4, none⟩ = some (.int .u16 (c.super : Int)) := by rw [cellAt_of Df.cb]; rfl
    have k6 : cellAt hf ⟨cb, 6, none⟩ = some (.slice ai c.ifs.length ci) := by rw [cellAt_of Df.cb]; rfl
    simp (disch := first | omega | assumption) only [C.ref3_WriteClass_gos, T.tv, ↓reduceIte, Nat.reduceEqDiff, reduceCtorEq, Nat.reduceLeDiff, Nat.reducePow, Int.reducePow, Int.reduceToNat, Nat.reduceAdd, k2, k3, k4, k6, w_2, w_3, w_4, bin_str_add z4, bin_str_add z5, bin_str_add z6, bin_str_add z7, hS1]
    clear w_0 w_1 w_2 w_3 w_4 z4 z5 z6 z7 k2 k3 k4 k6
    refine eff_bytes_of (l := S1) (base := h.size) Try.underlying9 Try.underlying69 Try.underlying5 rfl Df.w.2.1.size (by omega) ?_
    intro vo hg own2 x2
    have Dg : RB h hg g [.int .u16 (c.minor : Int), .int .u16 (c.major : Int), .int .u16 (c.flags : Int), .int .u16 (c.this : Int), .int .u16 (c.super : Int), .slice ap c.pool.length cp, .slice ai c.ifs.length ci, .slice af c.fields.length cf, .slice am c.methods.length cm] cb vo S1 (thenE E0 (numP (c.ifs.length : Int) 2).2) := ⟨Df.w.ext x2, Fr_blk x2 Df.cb id, own2⟩
    clear Df own2 x2
    obtain ⟨P0, hP0⟩ : ∃ P : Pce, P = (S1, thenE E0 (numP (c.ifs.length : Int) 2).2) := ⟨_, rfl⟩
    have lP0 : P0.1.length ≤ 150000000 := by rw [hP0]; simp only; omega
    have Dg : RB h hg g [.int .u16 (c.minor : Int), .int .u16 (c.major : Int), .int .u16 (c.flags : Int), .int .u16 (c.this : Int), .int .u16 (c.super : Int), .slice ap c.pool.length cp, .slice ai c.ifs.length ci, .slice af c.fields.length cf, .slice am c.methods.length cm] cb vo P0.1 P0.2 := by rw [hP0]; exact Dg
    have k6 : cellAt hg ⟨cb, 6, none⟩ = some (.slice ai c.ifs.length ci) := by rw [cellAt_of Dg.cb]; rfl
    simp (disch := first | omega | assumption) only [C.ref3_WriteClass_gos, T.tv, ↓reduceIte, Nat.reduceEqDiff, reduceCtorEq, Nat.reduceLeDiff, Nat.reducePow, Int.reducePow, Int.reduceToNat, Nat.reduceAdd, k6]
    refine loop_intro [0, 1, 2, 3, 4, 9, 88, 89, 90] (fun m ρ hx => ∃ (i : Nat) (vo : Value) (P : Pce), m = c.ifs.length - i ∧ i ≤ c.ifs.length ∧ P = seqP P0 (allP idxP (c.ifs.take i)) ∧ ρ = [(0, .agg ([.int .u16 (c.minor : Int), .int .u16 (c.major : Int), .int .u16 (c.flags : Int), .int .u16 (c.this : Int), .int .u16 (c.super : Int), .slice ap c.pool.length cp, .slice ai c.ifs.length ci, .slice af c.fields.length cf, .slice am c.methods.length cm] : List Value).toArray), (1, .pointer (some ⟨cb, 0, none⟩)), (2, str []), (3, .int .i64 0), (4, .pointer (some ⟨g, 0, none⟩)), (9, vo), (88, .slice ai c.ifs.length ci), (89, .int .i64 c.ifs.length), (90, .int .i64 i)] ∧
        RB h hx g [.int .u16 (c.minor : Int), .int .u16 (c.major : Int), .int .u16 (c.flags : Int), .int .u16 (c.this : Int), .int .u16 (c.super : Int), .slice ap c.pool.length cp, .slice ai c.ifs.length ci, .slice af c.fields.length cf, .slice am c.methods.length cm] cb vo P.1 P.2) ?_ ?_
    · simp (disch := first | omega | assumption) only [C.ref3_WriteClass_gos, T.tv, ↓reduceIte, Nat.reduceEqDiff, reduceCtorEq, Nat.reduceLeDiff, Nat.reducePow, Int.reducePow, Int.reduceToNat, Nat.reduceAdd]
      exact ⟨_, 0, _, P0, rfl, Nat.zero_le _, by simp [allP, seqP_nil], rfl, Dg⟩
    clear Dg k6
    rintro m ρ hx ⟨i, vo, P, rfl, hi, hP, rfl, D⟩
    have hPl : P.1.length ≤ 160000000 := by
      have h1 := (allP_idx (c.ifs.take i)).2
      have h2 : (c.ifs.take i).length ≤ c.ifs.length := by simp; omega
      rw [hP]; simp only [seqP, List.length_append]; omega
    rcases Nat.lt_or_ge i c.ifs.length with hlt | hge
    case inl =>
      have hlt' : (i : Int) < c.ifs.length := by omega
      obtain ⟨bb, o, c', heq, hrd, _⟩ := (hCi.ext (by decide) D.w.2.1).at hlt
      cases heq
      rw [natV_at hlt] at hrd
      have hx16 := hF.ifs (c.ifs.getD i 0) (by simp [hlt])
      have hst := take_snocD 0 hlt
      have hnext : seqP P0 (allP idxP (c.ifs.take (i + 1))) = seqP P (idxP (c.ifs.getD i 0)) := by rw [hst, allP_snoc, hP, seqP_assoc]
      have c0 : cellAt hx ⟨bb, o + i, none⟩ = some (.int .u16 ((c.ifs.getD i 0 : Nat) : Int)) := by
        have := hrd 0 _ rfl
        simpa using this
      clear hst hP
      generalize c.ifs.getD i 0 = x at *
      have hwx : IntKind.i64.wrap (x : Int) = (x : Int) := wrap_i64 (by omega) (by omega)
      simp (disch := first | omega | assumption) only [C.ref3_WriteClass_gos, T.tv, ↓reduceIte, Nat.reduceEqDiff, reduceCtorEq, Nat.reduceLeDiff, Nat.reducePow, Int.reducePow, Int.reduceToNat, Nat.reduceAdd, hlt', c0, hwx]
      refine eff_callF rfl ((D.idx x hx16).mono ?_)
      rintro _ hy ⟨rfl, Dy, _⟩
      simp (disch := first | omega | assumption) only [C.ref3_WriteClass_gos, T.tv, ↓reduceIte, Nat.reduceEqDiff, reduceCtorEq, Nat.reduceLeDiff, Nat.reducePow, Int.reducePow, Int.reduceToNat, Nat.reduceAdd]
      refine eff_append_str (l := bigS x 2) T.slT_69 Try.underlying9 rfl rfl Dy.own (by rw [bigS_len]; omega) (by rw [bigS_len]; omega) Dy.w.2.1.size ?_
      intro vo' hz own6 fr6
      have Dz := Dy.app own6 fr6
      simp (disch := first | omega | assumption) only [C.ref3_WriteClass_gos, T.tv, ↓reduceIte, Nat.reduceEqDiff, reduceCtorEq, Nat.reduceLeDiff, Nat.reducePow, Int.reducePow, Int.reduceToNat, Nat.reduceAdd]
      refine ⟨_, by omega, i + 1, vo', seqP P (idxP x), rfl, by omega, hnext.symm, by simp, ?_⟩
      simpa [seqP, idxP, thenE_zero] using Dz
    have hlt' : ¬ (i : Int) < c.ifs.length := by omega
    rw [List.take_of_length_le hge] at hP
    have lP1 := hPl
    clear hi hge hPl
    obtain ⟨P1, hP1'⟩ : ∃ Q, Q = P := ⟨_, rfl⟩
    have hP1 := hP1'.trans hP
    rw [← hP1'] at D lP1
    clear hP1' hP
    have k7 : cellAt hx ⟨cb, 7, none⟩ = some (.slice af c.fields.length cf) := by rw [cellAt_of D.cb]; rfl
    simp (disch := first | omega | assumption) only [C.ref3_WriteClass_gos, T.tv, ↓reduceIte, Nat.reduceEqDiff, reduceCtorEq, Nat.reduceLeDiff, Nat.reducePow, Int.reducePow, Int.reduceToNat, Nat.reduceAdd, hlt', k7]
    refine eff_callF rfl ((D.num (c.fields.length : Int) 2 (.inl rfl)).mono ?_)
    rintro _ hy ⟨rfl, Dy, _⟩
    simp (disch := first | omega | assumption) only [C.ref3_WriteClass_gos, T.tv, ↓reduceIte, Nat.reduceEqDiff, reduceCtorEq, Nat.reduceLeDiff, Nat.reducePow, Int.reducePow, Int.reduceToNat, Nat.reduceAdd]
    refine eff_append_str (l := (numP (c.fields.length : Int) 2).1) T.slT_69 Try.underlying9 rfl rfl Dy.own (by rw [numP_l]; omega) (by rw [numP_l]; omega) Dy.w.2.1.size ?_
    intro vo hf2 own6 fr6
    have Dg := Dy.app own6 fr6
    clear own6 fr6 Dy D k7
    obtain ⟨P2, hP2⟩ : ∃ P : Pce, P = seqP P1 (numP (c.fields.length : Int) 2) := ⟨_, rfl⟩
    have lP2 : P2.1.length ≤ 160000002 := by rw [hP2]; simp only [seqP, List.length_append, numP_l]; omega
    have Dg : RB h hf2 g [.int .u16 (c.minor : Int), .int .u16 (c.major : Int), .int .u16 (c.flags : Int), .int .u16 (c.this : Int), .int .u16 (c.super : Int), .slice ap c.pool.length cp, .slice ai c.ifs.length ci, .slice af c.fields.length cf, .slice am c.methods.length cm] cb vo P2.1 P2.2 := by rw [hP2]; exact Dg
    clear hlt'
    have k7 : cellAt hf2 ⟨cb, 7, none⟩ = some (.slice af c.fields.length cf) := by rw [cellAt_of Dg.cb]; rfl
    simp (disch := first | omega | assumption) only [C.ref3_WriteClass_gos, T.tv, ↓reduceIte, Nat.reduceEqDiff, reduceCtorEq, Nat.reduceLeDiff, Nat.reducePow, Int.reducePow, Int.reduceToNat, Nat.reduceAdd, k7]
    refine loop_intro [0, 1, 2, 3, 4, 9, 109, 110, 111] (fun m ρ hx => ∃ (i : Nat) (vo : Value) (P : Pce), m = c.fields.length - i ∧ i ≤ c.fields.length ∧ P = seqP P2 (allP (fldP (nameR c.pool)) (c.fields.take i)) ∧ ρ = [(0, .agg ([.int .u16 (c.minor : Int), .int .u16 (c.major : Int), .int .u16 (c.flags : Int), .int .u16 (c.this : Int), .int .u16 (c.super : Int), .slice ap c.pool.length cp, .slice ai c.ifs.length ci, .slice af c.fields.length cf, .slice am c.methods.length cm] : List Value).toArray), (1, .pointer (some ⟨cb, 0, none⟩)), (2, str []), (3, .int .i64 0), (4, .pointer (some ⟨g, 0, none⟩)), (9, vo), (109, .slice af c.fields.length cf), (110, .int .i64 c.fields.length), (111, .int .i64 i)] ∧
        RB h hx g [.int .u16 (c.minor : Int), .int .u16 (c.major : Int), .int .u16 (c.flags : Int), .int .u16 (c.this : Int), .int .u16 (c.super : Int), .slice ap c.pool.length cp, .slice ai c.ifs.length ci, .slice af c.fields.length cf, .slice am c.methods.length cm] cb vo P.1 P.2) ?_ ?_
    · simp (disch := first | omega | assumption) only [C.ref3_WriteClass_gos, T.tv, ↓reduceIte, Nat.reduceEqDiff, reduceCtorEq, Nat.reduceLeDiff, Nat.reducePow, Int.reducePow, Int.reduceToNat, Nat.reduceAdd]
      exact ⟨_, 0, _, P2, rfl, Nat.zero_le _, by simp [allP, seqP_nil], rfl, Dg⟩
    clear Dg k7
    rintro m ρ hx ⟨i, vo, P, rfl, hi, hP, rfl, D⟩
    have hPl : P.1.length ≤ 190000000 := by
      have h1 := allF_len (nameR c.pool) (c.fields.take i)
      have h2 : (c.fields.take i).length ≤ c.fields.length := by simp; omega
      rw [hP]; simp only [seqP, List.length_append]; omega
    rcases Nat.lt_or_ge i c.fields.length with hlt | hge
    case inl =>
      have hlt' : (i : Int) < c.fields.length := by omega
      obtain ⟨bb, o, c', heq, hrd, _⟩ := (hCf.ext (by decide) D.w.2.1).at hlt
      cases heq
      rw [flatF_at hlt] at hrd
      have hfit := hF.fields (c.fields.getD i Fld.zero) (by simp [hlt])
      have hst := take_snocD Fld.zero hlt
      have hnext : seqP P2 (allP (fldP (nameR c.pool)) (c.fields.take (i + 1))) = seqP P (fldP (nameR c.pool) (c.fields.getD i Fld.zero)) := by rw [hst, allP_snoc, hP, seqP_assoc]
      clear hst hP
      generalize c.fields.getD i Fld.zero = x at *
      obtain ⟨f1, f2, f3, f4⟩ := x
      obtain ⟨r1, r2, r3, r4⟩ := hfit
      simp only at r1 r2 r3 r4
      simp only [Fld.cells] at hrd
      have hld := ld_agg T.ag_89 hrd rfl
      simp (disch := first | omega | assumption) only [C.ref3_WriteClass_gos, T.tv, ↓reduceIte, Nat.reduceEqDiff, reduceCtorEq, Nat.reduceLeDiff, Nat.reducePow, Int.reducePow, Int.reduceToNat, Nat.reduceAdd, hlt', hld]
      refine eff_alloc_z T.zr_89 ?_
      simp (disch := first | omega | assumption) only [C.ref3_WriteClass_gos, T.tv, ↓reduceIte, Nat.reduceEqDiff, reduceCtorEq, Nat.reduceLeDiff, Nat.reducePow, Int.reducePow, Int.reduceToNat, Nat.reduceAdd]
      refine eff_store_new_z T.zr_89 rfl rfl rfl (by simp [Value.cells, oneCell]) rfl ?_
      intro hz xz hltz hrdz bz
      change hz[hx.size]? = some (.cells (Fld.cells ⟨f1, f2, f3, f4⟩).toArray 89 (0, 0)) at bz
      have Da := D.ext xz
      clear hld hrdz hrd D hltz xz
      generalize hx.size = q at *
      have w_0 : IntKind.i64.wrap (f1 : Int) = (f1 : Int) := wrap_i64 (by omega) (by omega)
      have w_1 : IntKind.i64.wrap (f2 : Int) = (f2 : Int) := wrap_i64 (by omega) (by omega)
      have w_2 : IntKind.i64.wrap (f3 : Int) = (f3 : Int) := wrap_i64 (by omega) (by omega)
      have z4 : (bigS f1 2).length + (bigS f2 2).length ≤ 9223372036854775807 := by rw [bigS_len, bigS_len]; decide
      have z5 : (bigS f1 2 ++ bigS f2 2).length + (bigS f3 2).length ≤ 9223372036854775807 := by rw [List.length_append, bigS_len, bigS_len, bigS_len]; decide
      have k0 : cellAt hz ⟨q, 0, none⟩ = some (.int .u16 (f1 : Int)) := by rw [cellAt_of bz]; rfl
      have k1 : cellAt hz ⟨q, 1, none⟩ = some (.int .u16 (f2 : Int)) := by rw [cellAt_of bz]; rfl
      have k2 : cellAt hz ⟨q, 2, none⟩ = some (.int .u16 (f3 : Int)) := by rw [cellAt_of bz]; rfl
      simp (disch := first | omega | assumption) only [C.ref3_WriteClass_gos, T.tv, ↓reduceIte, Nat.reduceEqDiff, reduceCtorEq, Nat.reduceLeDiff, Nat.reducePow, Int.reducePow, Int.reduceToNat, Nat.reduceAdd, k0, k1, k2, w_0, w_1, w_2]
      refine eff_callF rfl ((Da.idx f1 r1).mono ?_)
      rintro _ hya ⟨rfl, Db, F⟩
      have ba := Fr_blk F bz (Da.w.ty bz (by decide))
      clear k0 k1 k2 F Da bz
      have k0 : cellAt hya ⟨q, 0, none⟩ = some (.int .u16 (f1 : Int)) := by rw [cellAt_of ba]; rfl
      have k1 : cellAt hya ⟨q, 1, none⟩ = some (.int .u16 (f2 : Int)) := by rw [cellAt_of ba]; rfl
      have k2 : cellAt hya ⟨q, 2, none⟩ = some (.int .u16 (f3 : Int)) := by rw [cellAt_of ba]; rfl
      simp (disch := first | omega | assumption) only [C.ref3_WriteClass_gos, T.tv, ↓reduceIte, Nat.reduceEqDiff, reduceCtorEq, Nat.reduceLeDiff, Nat.reducePow, Int.reducePow, Int.reduceToNat, Nat.reduceAdd, k0, k1, k2, w_0, w_1, w_2]
      refine eff_callF rfl ((Db.idx f2 r2).mono ?_)
      rintro _ hyb ⟨rfl, Dc, F⟩
      have bb1 := Fr_blk F ba (Db.w.ty ba (by decide))
      clear k0 k1 k2 F Db ba
      have k0 : cellAt hyb ⟨q, 0, none⟩ = some (.int .u16 (f1 : Int)) := by rw [cellAt_of bb1]; rfl
      have k1 : cellAt hyb ⟨q, 1, none⟩ = some (.int .u16 (f2 : Int)) := by rw [cellAt_of bb1]; rfl
      have k2 : cellAt hyb ⟨q, 2, none⟩ = some (.int .u16 (f3 : Int)) := by rw [cellAt_of bb1]; rfl
      simp (disch := first | omega | assumption) only [C.ref3_WriteClass_gos, T.tv, ↓reduceIte, Nat.reduceEqDiff, reduceCtorEq, Nat.reduceLeDiff, Nat.reducePow, Int.reducePow, Int.reduceToNat, Nat.reduceAdd, k0, k1, k2, w_0, w_1, w_2, bin_str_add z4]
      refine eff_callF rfl ((Dc.idx f3 r3).mono ?_)
      rintro _ hyc ⟨rfl, Dd, F⟩
      have bc := Fr_blk F bb1 (Dc.w.ty bb1 (by decide))
      clear k0 k1 k2 F Dc bb1
      have k0 : cellAt hyc ⟨q, 0, none⟩ = some (.int .u16 (f1 : Int)) := by rw [cellAt_of bc]; rfl
      have k1 : cellAt hyc ⟨q, 1, none⟩ = some (.int .u16 (f2 : Int)) := by rw [cellAt_of bc]; rfl
      have k2 : cellAt hyc ⟨q, 2, none⟩ = some (.int .u16 (f3 : Int)) := by rw [cellAt_of bc]; rfl
      simp (disch := first | omega | assumption) only [C.ref3_WriteClass_gos, T.tv, ↓reduceIte, Nat.reduceEqDiff, reduceCtorEq, Nat.reduceLeDiff, Nat.reducePow, Int.reducePow, Int.reduceToNat, Nat.reduceAdd, k0, k1, k2, w_0, w_1, w_2, bin_str_add z4, bin_str_add z5]
      refine eff_append_str (l := bigS f1 2 ++ bigS f2 2 ++ bigS f3 2) T.slT_69 Try.underlying9 rfl rfl Dd.own (by rw [List.length_append, List.length_append, bigS_len, bigS_len, bigS_len]; omega) (by rw [List.length_append, List.length_append, bigS_len, bigS_len, bigS_len]; omega) Dd.w.2.1.size ?_
      intro vo' hw own6 fr6
      have De := Dd.app own6 fr6
      have bw := Dd.blk fr6 bc (by decide)
      clear k0 k1 k2 w_0 w_1 w_2 z4 z5 own6 fr6 Dd bc
      obtain ⟨Q, hQ⟩ : ∃ Q : Pce, Q = seqP P (allP idxP [f1, f2, f3]) := ⟨_, rfl⟩
      have lQ : Q.1.length ≤ P.1.length + 6 := by rw [hQ]; simp only [seqP, idxP, allP, List.length_append, bigS_len, List.length_nil]; omega
      have De := De.to (B' := Q.1) (E' := Q.2) (by rw [hQ]; simp [seqP, allP, idxP, List.append_assoc]) (by rw [hQ]; simp [seqP, allP, idxP, thenE_zero])
      have k3 : cellAt hw ⟨q, 3, none⟩ = some (.int .u16 (f4 : Int)) := by rw [cellAt_of bw]; rfl
      by_cases h4 : f4 = 0
      · have h4' : (f4 : Int) = 0 := by omega
        have hfp : seqP P (fldP (nameR c.pool) ⟨f1, f2, f3, f4⟩) = seqP Q (bigS 0 2, 0) := by unfold fldP; rw [if_pos h4, hQ, seqP_assoc]
        simp (disch := first | omega | assumption) only [C.ref3_WriteClass_gos, T.tv, ↓reduceIte, Nat.reduceEqDiff, reduceCtorEq, Nat.reduceLeDiff, Nat.reducePow, Int.reducePow, Int.reduceToNat, Nat.reduceAdd, k3, eq_true h4']
        refine eff_append_str (l := [0, 0]) T.slT_69 Try.underlying9 rfl rfl De.own (by simp; omega) (by simp; omega) De.w.2.1.size ?_
        intro vo2 hv own6 fr6
        have Df := De.app own6 fr6
        simp (disch := first | omega | assumption) only [C.ref3_WriteClass_gos, T.tv, ↓reduceIte, Nat.reduceEqDiff, reduceCtorEq, Nat.reduceLeDiff, Nat.reducePow, Int.reducePow, Int.reduceToNat, Nat.reduceAdd]
        refine ⟨_, by omega, i + 1, vo2, seqP Q (bigS 0 2, 0), rfl, by omega, by rw [hnext, hfp], by simp, ?_⟩
        have hz2 : bigS 0 2 = [0, 0] := by decide
        simpa [seqP, hz2, thenE_zero] using Df
      · have h4' : ¬ (f4 : Int) = 0 := by omega
        have hfp : seqP P (fldP (nameR c.pool) ⟨f1, f2, f3, f4⟩) = seqP Q (seqP (bigS 1 2, 0) (attrP (nameR c.pool) cvN (idxP f4))) := by unfold fldP; rw [if_neg h4, hQ, seqP_assoc]
        have w_3 : IntKind.i64.wrap (f4 : Int) = (f4 : Int) := wrap_i64 (by omega) (by omega)
        simp (disch := first | omega | assumption) only [C.ref3_WriteClass_gos, T.tv, ↓reduceIte, Nat.reduceEqDiff, reduceCtorEq, Nat.reduceLeDiff, Nat.reducePow, Int.reducePow, Int.reduceToNat, Nat.reduceAdd, k3, eq_false h4', w_3]
        refine eff_callF rfl ((De.idx f4 r4).mono ?_)
        rintro _ hv ⟨rfl, Df, _⟩
        simp (disch := first | omega | assumption) only [C.ref3_WriteClass_gos, T.tv, ↓reduceIte, Nat.reduceEqDiff, reduceCtorEq, Nat.reduceLeDiff, Nat.reducePow, Int.reducePow, Int.reduceToNat, Nat.reduceAdd]
        refine eff_callF rfl ((Df.attr c.pool _ cvN (bigS f4 2) hCp rfl hpl (by rw [bigS_len]; omega)).mono ?_)
        rintro _ hu ⟨rfl, Dh, _⟩
        change RB _ _ _ _ _ _ _ (thenE Q.2 (attrP (nameR c.pool) cvN (idxP f4)).2) at Dh
        have hal := attrP_len (nameR c.pool) cvN (idxP f4)
        change _ ≤ (bigS f4 2).length + 6 at hal
        rw [bigS_len] at hal
        have hsw : (attrP (nameR c.pool) cvN (bigS f4 2, 0)).1 = (attrP (nameR c.pool) cvN (idxP f4)).1 := rfl
        rw [hsw]
        generalize attrP (nameR c.pool) cvN (idxP f4) = A at *
        have z4 : ([0, 1] : List UInt8).length + A.1.length ≤ 9223372036854775807 := by simp; omega
        simp (disch := first | omega | assumption) only [C.ref3_WriteClass_gos, T.tv, ↓reduceIte, Nat.reduceEqDiff, reduceCtorEq, Nat.reduceLeDiff, Nat.reducePow, Int.reducePow, Int.reduceToNat, Nat.reduceAdd, bin_str_add z4, List.cons_append, List.nil_append]
        refine eff_append_str (l := (0 :: 1 :: A.1)) T.slT_69 Try.underlying9 rfl rfl Dh.own (by simp; omega) (by simp; omega) Dh.w.2.1.size ?_
        intro vo2 ht own6 fr6
        have Di := Dh.app own6 fr6
        simp (disch := first | omega | assumption) only [C.ref3_WriteClass_gos, T.tv, ↓reduceIte, Nat.reduceEqDiff, reduceCtorEq, Nat.reduceLeDiff, Nat.reducePow, Int.reducePow, Int.reduceToNat, Nat.reduceAdd]
        refine ⟨_, by omega, i + 1, vo2, seqP Q (seqP (bigS 1 2, 0) A), rfl, by omega, by rw [hnext, hfp], by simp, ?_⟩
        have hz2 : bigS 1 2 = [0, 1] := by decide
        simpa [seqP, hz2, thenE_z, thenE_zero] using Di
    have hlt' : ¬ (i : Int) < c.fields.length := by omega
    rw [List.take_of_length_le hge] at hP
    have lP3 := hPl
    clear hi hge hPl
    obtain ⟨P3, hP3'⟩ : ∃ Q, Q = P := ⟨_, rfl⟩
    have hP3 := hP3'.trans hP
    rw [← hP3'] at D lP3
    clear hP3' hP
    have k8 : cellAt hx ⟨cb, 8, none⟩ = some (.slice am c.methods.length cm) := by rw [cellAt_of D.cb]; rfl
    simp (disch := first | omega | assumption) only [C.ref3_WriteClass_gos, T.tv, ↓reduceIte, Nat.reduceEqDiff, reduceCtorEq, Nat.reduceLeDiff, Nat.reducePow, Int.reducePow, Int.reduceToNat, Nat.reduceAdd, hlt', k8]
    refine eff_callF rfl ((D.num (c.methods.length : Int) 2 (.inl rfl)).mono ?_)
    rintro _ hy ⟨rfl, Dy, _⟩
    simp (disch := first | omega | assumption) only [C.ref3_WriteClass_gos, T.tv, ↓reduceIte, Nat.reduceEqDiff, reduceCtorEq, Nat.reduceLeDiff, Nat.reducePow, Int.reducePow, Int.reduceToNat, Nat.reduceAdd]
    refine eff_append_str (l := (numP (c.methods.length : Int) 2).1) T.slT_69 Try.underlying9 rfl rfl Dy.own (by rw [numP_l]; omega) (by rw [numP_l]; omega) Dy.w.2.1.size ?_
    intro vo hm2 own6 fr6
    have Dg := Dy.app own6 fr6
    clear own6 fr6 Dy D k8
    obtain ⟨P4, hP4⟩ : ∃ P : Pce, P = seqP P3 (numP (c.methods.length : Int) 2) := ⟨_, rfl⟩
    have lP4 : P4.1.length ≤ 190000002 := by rw [hP4]; simp only [seqP, List.length_append, numP_l]; omega
    have Dg : RB h hm2 g [.int .u16 (c.minor : Int), .int .u16 (c.major : Int), .int .u16 (c.flags : Int), .int .u16 (c.this : Int), .int .u16 (c.super : Int), .slice ap c.pool.length cp, .slice ai c.ifs.length ci, .slice af c.fields.length cf, .slice am c.methods.length cm] cb vo P4.1 P4.2 := by rw [hP4]; exact Dg
    clear hlt'
    have k8 : cellAt hm2 ⟨cb, 8, none⟩ = some (.slice am c.methods.length cm) := by rw [cellAt_of Dg.cb]; rfl
    simp (disch := first | omega | assumption) only [C.ref3_WriteClass_gos, T.tv, ↓reduceIte, Nat.reduceEqDiff, reduceCtorEq, Nat.reduceLeDiff, Nat.reducePow, Int.reducePow, Int.reduceToNat, Nat.reduceAdd, k8]
    refine loop_intro [0, 1, 2, 3, 4, 9, 158, 159, 160] (fun m ρ hx => ∃ (i : Nat) (vo : Value) (P : Pce), m = c.methods.length - i ∧ i ≤ c.methods.length ∧ P = seqP P4 (allP (mthP (nameR c.pool)) (c.methods.take i)) ∧ ρ = [(0, .agg ([.int .u16 (c.minor : Int), .int .u16 (c.major : Int), .int .u16 (c.flags : Int), .int .u16 (c.this : Int), .int .u16 (c.super : Int), .slice ap c.pool.length cp, .slice ai c.ifs.length ci, .slice af c.fields.length cf, .slice am c.methods.length cm] : List Value).toArray), (1, .pointer (some ⟨cb, 0, none⟩)), (2, str []), (3, .int .i64 0), (4, .pointer (some ⟨g, 0, none⟩)), (9, vo), (158, .slice am c.methods.length cm), (159, .int .i64 c.methods.length), (160, .int .i64 i)] ∧
        RB h hx g [.int .u16 (c.minor : Int), .int .u16 (c.major : Int), .int .u16 (c.flags : Int), .int .u16 (c.this : Int), .int .u16 (c.super : Int), .slice ap c.pool.length cp, .slice ai c.ifs.length ci, .slice af c.fields.length cf, .slice am c.methods.length cm] cb vo P.1 P.2) ?_ ?_
    · simp (disch := first | omega | assumption) only [C.ref3_WriteClass_gos, T.tv, ↓reduceIte, Nat.reduceEqDiff, reduceCtorEq, Nat.reduceLeDiff, Nat.reducePow, Int.reducePow, Int.reduceToNat, Nat.reduceAdd]
      exact ⟨_, 0, _, P4, rfl, Nat.zero_le _, by simp [allP, seqP_nil], rfl, Dg⟩
    clear Dg k8
    rintro m ρ hx ⟨i, vo, P, rfl, hi, hP, rfl, D⟩
    have hPl : P.1.length ≤ 290000000 := by
      have h1 := allM_len (nameR c.pool) (c.methods.take i)
      have h2 : (c.methods.take i).length ≤ c.methods.length := by simp; omega
      have h3 := sumW_take c.methods i
      rw [hP]; simp only [seqP, List.length_append]; omega
    rcases Nat.lt_or_ge i c.methods.length with hlt | hge
    case inl =>
      have hlt' : (i : Int) < c.methods.length := by omega
      obtain ⟨bb, o, c', vH, heq, hrd, hH, _⟩ := hCm.at hlt
      cases heq
      have hrd := fun j v hv => cell_ext D.w.2.1 (hrd j v hv)
      change Rd hx _ _ _ at hrd
      have hfit := hF.methods (c.methods.getD i Mth.zero) (by simp [hlt])
      have hmw := sumW_get hlt
      have hst := take_snocD Mth.zero hlt
      have hnext : seqP P4 (allP (mthP (nameR c.pool)) (c.methods.take (i + 1))) = seqP P (mthP (nameR c.pool) (c.methods.getD i Mth.zero)) := by rw [hst, allP_snoc, hP, seqP_assoc]
      clear hst hP
      generalize c.methods.getD i Mth.zero = x at *
      obtain ⟨f1, f2, f3, fh, fc⟩ := x
      obtain ⟨r1, r2, r3, r4⟩ := hfit
      simp only at r1 r2 r3 r4 hH
      simp only [mW] at hmw
      obtain ⟨_, aH, cH, rfl, _⟩ := id hH
      have hld := ld_agg T.ag_81 hrd rfl
      simp only [MthV, CdeV, List.cons_append, List.nil_append] at hld
      simp (disch := first | omega | assumption) only [C.ref3_WriteClass_gos, T.tv, ↓reduceIte, Nat.reduceEqDiff, reduceCtorEq, Nat.reduceLeDiff, Nat.reducePow, Int.reducePow, Int.reduceToNat, Nat.reduceAdd, hlt', hld]
      refine eff_alloc_z T.zr_81 ?_
      simp (disch := first | omega | assumption) only [C.ref3_WriteClass_gos, T.tv, ↓reduceIte, Nat.reduceEqDiff, reduceCtorEq, Nat.reduceLeDiff, Nat.reducePow, Int.reducePow, Int.reduceToNat, Nat.reduceAdd]
      refine eff_store_new_z T.zr_81 rfl rfl rfl (by simp [Value.cells, oneCell, str]) rfl ?_
      intro hz xz hltz hrdz bz
      change hz[hx.size]? = some (.cells (MthV ⟨f1, f2, f3, fh, fc⟩ (.slice aH fc.hs.length cH)).toArray 81 (0, 0)) at bz
      have Da := D.ext xz
      clear hld hrdz hrd D hltz xz
      generalize hx.size = q at *
      have w_0 : IntKind.i64.wrap (f1 : Int) = (f1 : Int) := wrap_i64 (by omega) (by omega)
      have w_1 : IntKind.i64.wrap (f2 : Int) = (f2 : Int) := wrap_i64 (by omega) (by omega)
      have w_2 : IntKind.i64.wrap (f3 : Int) = (f3 : Int) := wrap_i64 (by omega) (by omega)
      have z4 : (bigS f1 2).length + (bigS f2 2).length ≤ 9223372036854775807 := by rw [bigS_len, bigS_len]; decide
      have z5 : (bigS f1 2 ++ bigS f2 2).length + (bigS f3 2).length ≤ 9223372036854775807 := by rw [List.length_append, bigS_len, bigS_len, bigS_len]; decide
      have k0 : cellAt hz ⟨q, 0, none⟩ = some (.int .u16 (f1 : Int)) := by rw [cellAt_of bz]; rfl
      have k1 : cellAt hz ⟨q, 1, none⟩ = some (.int .u16 (f2 : Int)) := by rw [cellAt_of bz]; rfl
      have k2 : cellAt hz ⟨q, 2, none⟩ = some (.int .u16 (f3 : Int)) := by rw [cellAt_of bz]; rfl
      simp (disch := first | omega | assumption) only [C.ref3_WriteClass_gos, T.tv, ↓reduceIte, Nat.reduceEqDiff, reduceCtorEq, Nat.reduceLeDiff, Nat.reducePow, Int.reducePow, Int.reduceToNat, Nat.reduceAdd, k0, k1, k2, w_0, w_1, w_2]
      refine eff_callF rfl ((Da.idx f1 r1).mono ?_)
      rintro _ hya ⟨rfl, Db, F⟩
      have ba := Fr_blk F bz (Da.w.ty bz (by decide))
      clear k0 k1 k2 F Da bz
      have k0 : cellAt hya ⟨q, 0, none⟩ = some (.int .u16 (f1 : Int)) := by rw [cellAt_of ba]; rfl
      have k1 : cellAt hya ⟨q, 1, none⟩ = some (.int .u16 (f2 : Int)) := by rw [cellAt_of ba]; rfl
      have k2 : cellAt hya ⟨q, 2, none⟩ = some (.int .u16 (f3 : Int)) := by rw [cellAt_of ba]; rfl
      simp (disch := first | omega | assumption) only [C.ref3_WriteClass_gos, T.tv, ↓reduceIte, Nat.reduceEqDiff, reduceCtorEq, Nat.reduceLeDiff, Nat.reducePow, Int.reducePow, Int.reduceToNat, Nat.reduceAdd, k0, k1, k2, w_0, w_1, w_2]
      refine eff_callF rfl ((Db.idx f2 r2).mono ?_)
      rintro _ hyb ⟨rfl, Dc, F⟩
      have bb1 := Fr_blk F ba (Db.w.ty ba (by decide))
      clear k0 k1 k2 F Db ba
      have k0 : cellAt hyb ⟨q, 0, none⟩ = some (.int .u16 (f1 : Int)) := by rw [cellAt_of bb1]; rfl
      have k1 : cellAt hyb ⟨q, 1, none⟩ = some (.int .u16 (f2 : Int)) := by rw [cellAt_of bb1]; rfl
      have k2 : cellAt hyb ⟨q, 2, none⟩ = some (.int .u16 (f3 : Int)) := by rw [cellAt_of bb1]; rfl
      simp (disch := first | omega | assumption) only [C.ref3_WriteClass_gos, T.tv, ↓reduceIte, Nat.reduceEqDiff, reduceCtorEq, Nat.reduceLeDiff, Nat.reducePow, Int.reducePow, Int.reduceToNat, Nat.reduceAdd, k0, k1, k2, w_0, w_1, w_2, bin_str_add z4]
      refine eff_callF rfl ((Dc.idx f3 r3).mono ?_)
      rintro _ hyc ⟨rfl, Dd, F⟩
      have bc := Fr_blk F bb1 (Dc.w.ty bb1 (by decide))
      clear k0 k1 k2 F Dc bb1
      have k0 : cellAt hyc ⟨q, 0, none⟩ = some (.int .u16 (f1 : Int)) := by rw [cellAt_of bc]; rfl
      have k1 : cellAt hyc ⟨q, 1, none⟩ = some (.int .u16 (f2 : Int)) := by rw [cellAt_of bc]; rfl
      have k2 : cellAt hyc ⟨q, 2, none⟩ = some (.int .u16 (f3 : Int)) := by rw [cellAt_of bc]; rfl
      simp (disch := first | omega | assumption) only [C.ref3_WriteClass_gos, T.tv, ↓reduceIte, Nat.reduceEqDiff, reduceCtorEq, Nat.reduceLeDiff, Nat.reducePow, Int.reducePow, Int.reduceToNat, Nat.reduceAdd, k0, k1, k2, w_0, w_1, w_2, bin_str_add z4, bin_str_add z5]
      refine eff_append_str (l := bigS f1 2 ++ bigS f2 2 ++ bigS f3 2) T.slT_69 Try.underlying9 rfl rfl Dd.own (by rw [List.length_append, List.length_append, bigS_len, bigS_len, bigS_len]; omega) (by rw [List.length_append, List.length_append, bigS_len, bigS_len, bigS_len]; omega) Dd.w.2.1.size ?_
      intro vo' hw own6 fr6
      have De := Dd.app own6 fr6
      have bw := Dd.blk fr6 bc (by decide)
      clear k0 k1 k2 w_0 w_1 w_2 z4 z5 own6 fr6 Dd bc
      obtain ⟨Q, hQ⟩ : ∃ Q : Pce, Q = seqP P (allP idxP [f1, f2, f3]) := ⟨_, rfl⟩
      have lQ : Q.1.length ≤ P.1.length + 6 := by rw [hQ]; simp only [seqP, idxP, allP, List.length_append, bigS_len, List.length_nil]; omega
      have De := De.to (B' := Q.1) (E' := Q.2) (by rw [hQ]; simp [seqP, allP, idxP, List.append_assoc]) (by rw [hQ]; simp [seqP, allP, idxP, thenE_zero])
      have k3 : cellAt hw ⟨q, 3, none⟩ = some (.bool fh) := by rw [cellAt_of bw]; rfl
      cases fh with
      | false =>
        have hfp : seqP P (mthP (nameR c.pool) ⟨f1, f2, f3, false, fc⟩) = seqP Q (bigS 0 2, 0) := by unfold mthP; rw [if_neg (by simp), hQ, seqP_assoc]
        simp (disch := first | omega | assumption) only [C.ref3_WriteClass_gos, T.tv, ↓reduceIte, Nat.reduceEqDiff, reduceCtorEq, Nat.reduceLeDiff, Nat.reducePow, Int.reducePow, Int.reduceToNat, Nat.reduceAdd, k3]
        refine eff_append_str (l := [0, 0]) T.slT_69 Try.underlying9 rfl rfl De.own (by simp; omega) (by simp; omega) De.w.2.1.size ?_
        intro vo2 hv own6 fr6
        have Df := De.app own6 fr6
        simp (disch := first | omega | assumption) only [C.ref3_WriteClass_gos, T.tv, ↓reduceIte, Nat.reduceEqDiff, reduceCtorEq, Nat.reduceLeDiff, Nat.reducePow, Int.reducePow, Int.reduceToNat, Nat.reduceAdd]
        refine ⟨_, by omega, i + 1, vo2, seqP Q (bigS 0 2, 0), rfl, by omega, by rw [hnext, hfp], by simp, ?_⟩
        have hz2 : bigS 0 2 = [0, 0] := by decide
        simpa [seqP, hz2, thenE_zero] using Df
      | true =>
        have hfp : seqP P (mthP (nameR c.pool) ⟨f1, f2, f3, true, fc⟩) = seqP Q (seqP (bigS 1 2, 0) (attrP (nameR c.pool) cdN (cdeP (nameR c.pool) fc))) := by unfold mthP; rw [if_pos rfl, hQ, seqP_assoc]
        have hrc : Rd hw q 4 (CdeV fc (.slice aH fc.hs.length cH)) := (Rd_block (vs := MthV ⟨f1, f2, f3, true, fc⟩ (.slice aH fc.hs.length cH)) bw).sub 4 5
        have hldc := ld_agg T.ag_79 hrc rfl
        simp (disch := first | omega | assumption) only [C.ref3_WriteClass_gos, T.tv, ↓reduceIte, Nat.reduceEqDiff, reduceCtorEq, Nat.reduceLeDiff, Nat.reducePow, Int.reducePow, Int.reduceToNat, Nat.reduceAdd, k3, hldc]
        refine eff_callF rfl ((De.code c.pool _ fc (.slice aH fc.hs.length cH) hCp rfl hpl r4 hH (by omega) (by omega) (by omega)).mono ?_)
        rintro _ hu ⟨rfl, Dh, _⟩
        have hal := attrP_len (nameR c.pool) cdN (cdeP (nameR c.pool) fc)
        have hcl := cdeP_len (nameR c.pool) fc
        generalize attrP (nameR c.pool) cdN (cdeP (nameR c.pool) fc) = A at *
        have z4 : ([0, 1] : List UInt8).length + A.1.length ≤ 9223372036854775807 := by simp; omega
        simp (disch := first | omega | assumption) only [C.ref3_WriteClass_gos, T.tv, ↓reduceIte, Nat.reduceEqDiff, reduceCtorEq, Nat.reduceLeDiff, Nat.reducePow, Int.reducePow, Int.reduceToNat, Nat.reduceAdd, bin_str_add z4, List.cons_append, List.nil_append]
        refine eff_append_str (l := (0 :: 1 :: A.1)) T.slT_69 Try.underlying9 rfl rfl Dh.own (by simp; omega) (by simp; omega) Dh.w.2.1.size ?_
        intro vo2 ht own6 fr6
        have Di := Dh.app own6 fr6
        simp (disch := first | omega | assumption) only [C.ref3_WriteClass_gos, T.tv, ↓reduceIte, Nat.reduceEqDiff, reduceCtorEq, Nat.reduceLeDiff, Nat.reducePow, Int.reducePow, Int.reduceToNat, Nat.reduceAdd]
        refine ⟨_, by omega, i + 1, vo2, seqP Q (seqP (bigS 1 2, 0) A), rfl, by omega, by rw [hnext, hfp], by simp, ?_⟩
        have hz2 : bigS 1 2 = [0, 1] := by decide
        simpa [seqP, hz2, thenE_z, thenE_zero] using Di
    have hlt' : ¬ (i : Int) < c.methods.length := by omega
    rw [List.take_of_length_le hge] at hP
    have lP5 := hPl
    clear hi hge hPl
    obtain ⟨P5, hP5'⟩ : ∃ Q, Q = P := ⟨_, rfl⟩
    have hP5 := hP5'.trans hP
    rw [← hP5'] at D lP5
    clear hP5' hP
    simp (disch := first | omega | assumption) only [C.ref3_WriteClass_gos, T.tv, ↓reduceIte, Nat.reduceEqDiff, reduceCtorEq, Nat.reduceLeDiff, Nat.reducePow, Int.reducePow, Int.reduceToNat, Nat.reduceAdd, hlt']
    refine eff_append_str (l := [0, 0]) T.slT_69 Try.underlying9 rfl rfl D.own (by simp; omega) (by simp; omega) D.w.2.1.size ?_
    intro vo2 hv own6 fr6
    have Df := D.app own6 fr6
    have hcls : clsP (nameR c.pool) c = seqP P5 (bigS 0 2, 0) := by
      have hz4 : bigS 3405691582 4 = [202, 254, 186, 190] := by decide
      unfold clsP
      rw [hP5, hP4, hP3, hP2, hP1, hP0, ← hS1, hS0, hE0, hz4]
      simp only [seqP_assoc]
      simp only [seqP, allP, idxP, List.append_assoc, thenE_assoc, thenE_z, thenE_zero, List.nil_append, List.append_nil, List.cons_append]
    have hz2 : bigS 0 2 = [0, 0] := by decide
    have Dg : RB h hv g [.int .u16 (c.minor : Int), .int .u16 (c.major : Int), .int .u16 (c.flags : Int), .int .u16 (c.this : Int), .int .u16 (c.super : Int), .slice ap c.pool.length cp, .slice ai c.ifs.length ci, .slice af c.fields.length cf, .slice am c.methods.length cm] cb vo2 (clsP (nameR c.pool) c).1 (clsP (nameR c.pool) c).2 := by rw [hcls]; simpa [seqP, hz2, thenE_zero] using Df
    clear Df own6 fr6 D hcls
    have hout := outP_eq (clsP (nameR c.pool) c)
    generalize clsP (nameR c.pool) c = R at *
    obtain ⟨RB', RE⟩ := R
    simp only at hout Dg
    have c10 : cellAt hv ⟨g, 9, none⟩ = some (.int .i64 (RE : Int)) := by rw [cellAt_of Dg.w.2.2.2]; exact rwV_err rfl
    have x0 := Dg.w.2.1
    have own := Dg.own
    by_cases hR : RE = 0
    · have hR' : (RE : Int) = 0 := by omega
      rw [if_pos hR] at hout
      rw [hout]
      simp (disch := first | omega | assumption) only [C.ref3_WriteClass_gos, T.tv, ↓reduceIte, Nat.reduceEqDiff, reduceCtorEq, Nat.reduceLeDiff, Nat.reducePow, Int.reducePow, Int.reduceToNat, Nat.reduceAdd, c10, eq_true hR', T.cvo_69_9 own]
      first | exact x0 | exact ⟨x0, rfl⟩
    · have hR' : ¬ (RE : Int) = 0 := by omega
      rw [if_neg hR] at hout
      rw [hout]
      simp (disch := first | omega | assumption) only [C.ref3_WriteClass_gos, T.tv, ↓reduceIte, Nat.reduceEqDiff, reduceCtorEq, Nat.reduceLeDiff, Nat.reducePow, Int.reducePow, Int.reduceToNat, Nat.reduceAdd, c10, eq_false hR']
      first | exact x0 | exact ⟨x0, rfl⟩
  have hjoin1 : ∀ (h6 : Heap) (x31 : Value), RB h h6 g [.int .u16 (c.minor : Int), .int .u16 (c.major : Int), .int .u16 (c.flags : Int), .int .u16 (c.this : Int), .int .u16 (c.super : Int), .slice ap c.pool.length cp, .slice ai c.ifs.length ci, .slice af c.fields.length cf, .slice am c.methods.length cm] cb (.slice none 0 0) [] (verE c) →
      Cd.vc Try.prog C.ref3_WriteClass_t1 (retQ Try.prog [(2, none), (3, none)] fun r h' => Ext h h' ∧ r = .tuple #[str (outP (clsP (nameR c.pool) c)).1, .int .i64 ((outP (clsP (nameR c.pool) c)).2 : Int)]) [(0, .agg ([.int .u16 (c.minor : Int), .int .u16 (c.major : Int), .int .u16 (c.flags : Int), .int .u16 (c.this : Int), .int .u16 (c.super : Int), .slice ap c.pool.length cp, .slice ai c.ifs.length ci, .slice af c.fields.length cf, .slice am c.methods.length cm] : List Value).toArray), (1, .pointer (some ⟨cb, 0, none⟩)), (2, str []), (3, .int .i64 0), (4, .pointer (some ⟨g, 0, none⟩)), (5, undef), (6, undef), (8, undef), (9, undef), (11, undef), (13, undef), (15, undef), (31, x31), (42, undef), (88, undef), (89, undef), (90, undef), (91, undef), (109, undef), (110, undef), (111, undef), (112, undef), (136, undef), (158, undef), (159, undef), (160, undef), (161, undef), (185, undef), (202, undef)] h6 := by
    intro h6 x31 D
    rw [C.ref3_WriteClass_t1_go]
    have k5 : cellAt h6 ⟨cb, 5, none⟩ = some (.slice ap c.pool.length cp) := by rw [cellAt_of D.cb]; rfl
    simp (disch := first | omega | assumption) only [C.ref3_WriteClass_gos, T.tv, ↓reduceIte, Nat.reduceEqDiff, reduceCtorEq, Nat.reduceLeDiff, Nat.reducePow, Int.reducePow, Int.reduceToNat, Nat.reduceAdd, k5]
    refine eff_callF rfl ((rwrite_any c.pool _ h6 (hCp.ext (by decide) D.w.2.1) hF.pool hpt (by omega)).mono ?_)
    rintro _ h7 ⟨x7, rfl⟩
    have D7 := D.ext x7
    unfold wV
    by_cases hw : (writeS c.pool).2.1 = 0
    · have hw' : ((writeS c.pool).2.1 : Int) = 0 := by omega
      simp (disch := first | omega | assumption) only [C.ref3_WriteClass_gos, T.tv, ↓reduceIte, Nat.reduceEqDiff, reduceCtorEq, Nat.reduceLeDiff, Nat.reducePow, Int.reducePow, Int.reduceToNat, Nat.reduceAdd, eq_true hw']
      exact hjoin0 h7 _ _ _ D7 (by rw [hw, thenE_zero])
    · have hw' : ¬ ((writeS c.pool).2.1 : Int) = 0 := by omega
      simp (disch := first | omega | assumption) only [C.ref3_WriteClass_gos, T.tv, ↓reduceIte, Nat.reduceEqDiff, reduceCtorEq, Nat.reduceLeDiff, Nat.reducePow, Int.reducePow, Int.reduceToNat, Nat.reduceAdd, eq_false hw']
      refine eff_callF rfl ((D7.fail (writeS c.pool).2.1).mono ?_)
      intro _ h8 D8
      simp (disch := first | omega | assumption) only [C.ref3_WriteClass_gos, T.tv, ↓reduceIte, Nat.reduceEqDiff, reduceCtorEq, Nat.reduceLeDiff, Nat.reducePow, Int.reducePow, Int.reduceToNat, Nat.reduceAdd]
      exact hjoin0 h8 _ _ _ D8 rfl
  have D := D00
  have k0 : cellAt h2 ⟨cb, 0, none⟩ = some (.int .u16 (c.minor : Int)) := by rw [cellAt_of D.cb]; rfl
  have k1 : cellAt h2 ⟨cb, 1, none⟩ = some (.int .u16 (c.major : Int)) := by rw [cellAt_of D.cb]; rfl
  have hver : (c.major = 50 ∨ c.major = 51) ∧ c.minor = 0 ∨ ¬ ((c.major = 50 ∨ c.major = 51) ∧ c.minor = 0) := Classical.em _
  refine Or.elim hver (fun hver => ?ca) (fun hver => ?cb)
  case' ca =>
    have hvE : verE c = 0 := by unfold verE; rw [if_neg (by omega)]
    have m0 : (c.minor : Int) = 0 := by omega
    obtain ⟨h6, hh6⟩ : ∃ h6, h6 = h2 := ⟨_, rfl⟩
    have D' : RB h h6 g [.int .u16 (c.minor : Int), .int .u16 (c.major : Int), .int .u16 (c.flags : Int), .int .u16 (c.this : Int), .int .u16 (c.super : Int), .slice ap c.pool.length cp, .slice ai c.ifs.length ci, .slice af c.fields.length cf, .slice am c.methods.length cm] cb (.slice none 0 0) [] (verE c) := by rw [hh6, hvE]; exact D
    rcases hver.1 with h50 | h51
    case' inl =>
      have m1 : (c.major : Int) = 50 := by omega
      simp (disch := first | omega | assumption) only [C.ref3_WriteClass_gos, T.tv, ↓reduceIte, Nat.reduceEqDiff, reduceCtorEq, Nat.reduceLeDiff, Nat.reducePow, Int.reducePow, Int.reduceToNat, Nat.reduceAdd, k0, k1, eq_true m1, eq_true m0]
    case' inr =>
      have m1 : (c.major : Int) = 51 := by omega
      have m2 : ¬ (c.major : Int) = 50 := by omega
      simp (disch := first | omega | assumption) only [C.ref3_WriteClass_gos, T.tv, ↓reduceIte, Nat.reduceEqDiff, reduceCtorEq, Nat.reduceLeDiff, Nat.reducePow, Int.reducePow, Int.reduceToNat, Nat.reduceAdd, k0, k1, eq_false m2, eq_true m1, eq_true m0]
    all_goals
      rw [← hh6]
      clear D k0 k1 hh6
      have D := D'
      clear D'
  case' cb =>
    have hvE : verE c = 4 := by unfold verE; rw [if_pos (by omega)]
    by_cases hm : c.minor = 0
    case' neg =>
      have m0 : ¬ (c.minor : Int) = 0 := by omega
      simp (disch := first | omega | assumption) only [C.ref3_WriteClass_gos, T.tv, ↓reduceIte, Nat.reduceEqDiff, reduceCtorEq, Nat.reduceLeDiff, Nat.reducePow, Int.reducePow, Int.reduceToNat, Nat.reduceAdd, k0, k1, eq_false m0]
    case' pos =>
      have m0 : (c.minor : Int) = 0 := by omega
      have m1 : ¬ (c.major : Int) = 50 := by omega
      have m2 : ¬ (c.major : Int) = 51 := by omega
      simp (disch := first | omega | assumption) only [C.ref3_WriteClass_gos, T.tv, ↓reduceIte, Nat.reduceEqDiff, reduceCtorEq, Nat.reduceLeDiff, Nat.reducePow, Int.reducePow, Int.reduceToNat, Nat.reduceAdd, k0, k1, eq_true m0, eq_false m1, eq_false m2]
    all_goals
      refine eff_callF rfl ((D.fail 4).mono ?_)
      intro _ h6 D'
      clear D k0 k1
      have D : RB h h6 g [.int .u16 (c.minor : Int), .int .u16 (c.major : Int), .int .u16 (c.flags : Int), .int .u16 (c.this : Int), .int .u16 (c.super : Int), .slice ap c.pool.length cp, .slice ai c.ifs.length ci, .slice af c.fields.length cf, .slice am c.methods.length cm] cb (.slice none 0 0) [] (verE c) := by rw [hvE]; simpa [thenE_z] using D'
      clear D'
  all_goals
    first | (exact hjoin1 _ _ D; done) | (simp (disch := first | omega | assumption) only [C.ref3_WriteClass_gos, T.tv, ↓reduceIte, Nat.reduceEqDiff, reduceCtorEq, Nat.reduceLeDiff, Nat.reducePow, Int.reducePow, Int.reduceToNat, Nat.reduceAdd]; exact hjoin1 _ _ D)
end Go.Proofs.Ytohkbpnblkkdgaa
