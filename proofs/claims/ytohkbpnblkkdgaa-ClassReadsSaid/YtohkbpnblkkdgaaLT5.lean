/- ReadClass of the reference, by its stages. -/
import Derived.Test.YtohkbpnblkkdgaaLT4
import Derived.Test.YtohkbpnblkkdgaaLY
import Derived.Test.YtohkbpnblkkdgaaLR5
import Derived.Test.YtohkbpnblkkdgaaCzs
namespace Go.Proofs.Ytohkbpnblkkdgaa
open Go.Vc
set_option maxRecDepth 100000
set_option linter.unusedSimpArgs false
set_option linter.unusedVariables false

/-- The reference's reading under way. -/
structure RE (h0 : Heap) (g gc cb rb : Nat) (l : List UInt8) (rc : List Value) (p : List Cst) (is : List Nat) (fs : List Fld) (ms : List Mth) (vp vi vf vm : Value) (t : RS) (hx : Heap) : Prop where
  b : hx[cb]? = some (.cells rc.toArray 43 (0, 0))
  q : hx[g]? = some (.cells #[.pointer (some ⟨gc, 0, none⟩), vp] 112 (0, 0))
  r : Cutr hx gc l t
  p : Own hx h0.size 76 5 vp p.length (flatS p)
  i : Own hx h0.size 38 1 vi is.length (natV is)
  f : Own hx h0.size 89 4 vf fs.length (flatF fs)
  m : ∃ rows, HO h0.size hx vm ms rows
  x : Ext h0 hx
  z : hx[rb]? = some (.cells clsZ 43 (0, 0))
  g0 : h0.size ≤ g
  g1 : h0.size ≤ gc
  g2 : h0.size ≤ cb
  g3 : h0.size ≤ rb
  ne : cb ≠ rb
section
variable {h0 hx hy : Heap} {g gc cb rb mi ma fl th su : Nat} {l : List UInt8} {rc : List Value} {p : List Cst} {is : List Nat} {fs : List Fld} {ms : List Mth} {vp vi vf vm x6 x7 x8 x9 x10 x11 x12 x13 x14 x16 x17 x28 x53 x66 x83 x141 x167 x193 x219 x241 x261 : Value} {t u : RS} {X : Cls × Nat × Nat}
theorem RE.rg (D : RE h0 g gc cb rb l rc p is fs ms vp vi vf vm t hx) : RG hx g gc l p vp t := ⟨D.q, D.r, D.p.slN, Own_ne D.p D.r.1 (by decide), cell_ne D.q D.r.1 (by decide)⟩
theorem RE.extS {S : Nat → Prop} (D : RE h0 g gc cb rb l rc p is fs ms vp vi vf vm t hx) (f : Fr S hx hy) (hS0 : ∀ k, k < hx.size → S k → h0.size ≤ k) : Ext h0 hy :=
  Fr.trans D.x f (fun _ _ h => h) (fun k hk hSk => by have := hS0 k (by have := D.x.size; omega) hSk; omega)
theorem RE.frR (D : RE h0 g gc cb rb l rc p is fs ms vp vi vf vm t hx) (f : FrR gc hx hy) (r : Cutr hy gc l u) : RE h0 g gc cb rb l rc p is fs ms vp vi vf vm u hy := by
  have hS : ∀ k, k < hx.size → k = gc → ∃ cs fz, hx[k]? = some (.cells cs 66 fz) := fun k _ hk => ⟨_, _, hk ▸ D.r.1⟩
  obtain ⟨rows, hm⟩ := D.m
  exact ⟨blk_keep D.b f hS (by decide), blk_keep D.q f hS (by decide), r, own_keep D.p f hS (by decide), own_keep D.i f hS (by decide), own_keep D.f f hS (by decide), ⟨rows, hm.keep f hS (by decide) (by decide)⟩,
    D.extS f (fun k _ hk => by have := D.g1; omega), blk_keep D.z f hS (by decide), D.g0, D.g1, D.g2, D.g3, D.ne⟩
theorem RE.cell (D : RE h0 g gc cb rb l rc p is fs ms vp vi vf vm t hx) (k : Nat) : cellAt hx ⟨cb, k, none⟩ = rc[k]? := by
  rw [cellAt_of D.b]; simp
theorem RE.frozen (D : RE h0 g gc cb rb l rc p is fs ms vp vi vf vm t hx) (k : Nat) : frozenAt hx ⟨cb, k, none⟩ = false := by simp [frozenAt, D.b]
theorem RE.set (D : RE h0 g gc cb rb l rc p is fs ms vp vi vf vm t hx) (k : Nat) (v : Value) : RE h0 g gc cb rb l (rc.set k v) p is fs ms vp vi vf vm t (setAt hx ⟨cb, k, none⟩ v) := by
  have f : Fr (fun b => b = cb) hx (setAt hx ⟨cb, k, none⟩ v) := Fr.set (S := fun b => b = cb) _ _ _ fun _ => rfl
  have hS : ∀ b, b < hx.size → b = cb → ∃ cs fz, hx[b]? = some (.cells cs 43 fz) := fun b _ hk => ⟨_, _, hk ▸ D.b⟩
  have b1 := setAt_get (o := k) D.b v
  obtain ⟨rows, hm⟩ := D.m
  exact ⟨by rw [b1]; simp, blk_keep D.q f hS (by decide), ⟨blk_keep D.r.1 f hS (by decide), D.r.2⟩, own_keep D.p f hS (by decide), own_keep D.i f hS (by decide), own_keep D.f f hS (by decide), ⟨rows, hm.keep f hS (by decide) (by decide)⟩,
    D.extS f (fun b _ hk => by have := D.g2; omega), Fr_blk f D.z (fun hh => D.ne hh.symm), D.g0, D.g1, D.g2, D.g3, D.ne⟩
theorem RE.appI (D : RE h0 g gc cb rb l rc p is fs ms vp vi vf vm t hx) (f : Fr (fun k => vi.ownBlock = some k) hx hy) {is' : List Nat} {vi' : Value} (O : Own hy h0.size 38 1 vi' is'.length (natV is')) : RE h0 g gc cb rb l rc p is' fs ms vp vi' vf vm t hy := by
  have hS : ∀ k, k < hx.size → vi.ownBlock = some k → ∃ cs fz, hx[k]? = some (.cells cs 38 fz) := fun k _ hk => (own_ty D.i k hk).2
  obtain ⟨rows, hm⟩ := D.m
  exact ⟨blk_keep D.b f hS (by decide), blk_keep D.q f hS (by decide), ⟨blk_keep D.r.1 f hS (by decide), D.r.2⟩, own_keep D.p f hS (by decide), O, own_keep D.f f hS (by decide), ⟨rows, hm.keep f hS (by decide) (by decide)⟩,
    D.extS f (fun k _ hk => (own_ty D.i k hk).1), blk_keep D.z f hS (by decide), D.g0, D.g1, D.g2, D.g3, D.ne⟩
theorem RE.appF (D : RE h0 g gc cb rb l rc p is fs ms vp vi vf vm t hx) (f : Fr (fun k => vf.ownBlock = some k) hx hy) {fs' : List Fld} {vf' : Value} (O : Own hy h0.size 89 4 vf' fs'.length (flatF fs')) : RE h0 g gc cb rb l rc p is fs' ms vp vi vf' vm t hy := by
  have hS : ∀ k, k < hx.size → vf.ownBlock = some k → ∃ cs fz, hx[k]? = some (.cells cs 89 fz) := fun k _ hk => (own_ty D.f k hk).2
  obtain ⟨rows, hm⟩ := D.m
  exact ⟨blk_keep D.b f hS (by decide), blk_keep D.q f hS (by decide), ⟨blk_keep D.r.1 f hS (by decide), D.r.2⟩, own_keep D.p f hS (by decide), own_keep D.i f hS (by decide), O, ⟨rows, hm.keep f hS (by decide) (by decide)⟩,
    D.extS f (fun k _ hk => (own_ty D.f k hk).1), blk_keep D.z f hS (by decide), D.g0, D.g1, D.g2, D.g3, D.ne⟩
theorem RE.appM (D : RE h0 g gc cb rb l rc p is fs ms vp vi vf vm t hx) {rows : List (List Value)} (hm : HO h0.size hx vm ms rows) (f : Fr (fun k => vm.ownBlock = some k) hx hy) {ms' : List Mth} {vm' : Value} {rows' : List (List Value)} (O : HO h0.size hy vm' ms' rows') : RE h0 g gc cb rb l rc p is fs ms' vp vi vf vm' t hy := by
  have hS : ∀ k, k < hx.size → vm.ownBlock = some k → ∃ cs fz, hx[k]? = some (.cells cs 81 fz) := fun k _ hk => (own_ty hm.o k hk).2
  exact ⟨blk_keep D.b f hS (by decide), blk_keep D.q f hS (by decide), ⟨blk_keep D.r.1 f hS (by decide), D.r.2⟩, own_keep D.p f hS (by decide), own_keep D.i f hS (by decide), own_keep D.f f hS (by decide), ⟨_, O⟩,
    D.extS f (fun k _ hk => (own_ty hm.o k hk).1), blk_keep D.z f hS (by decide), D.g0, D.g1, D.g2, D.g3, D.ne⟩
theorem RE.k0 (D : RE h0 g gc cb rb l rc p is fs ms vp vi vf vm t hx) : cellAt hx ⟨g, 0, none⟩ = some (.pointer (some ⟨gc, 0, none⟩)) := D.rg.k0
set_option maxHeartbeats 8000000 in
theorem rread_t0 (D : RE h0 g gc cb rb l [.int .u16 (mi : Int), .int .u16 (ma : Int), .int .u16 (fl : Int), .int .u16 (th : Int), .int .u16 (su : Int), vp, vi, vf, vm] p is fs ms vp vi vf vm t hx) (hX : finC (⟨mi, ma, fl, th, su, p, is, fs, ms⟩, t) = X) :
    Cd.vc Try.prog C.ref3_ReadClass_t0 (retQ Try.prog [(2, some 43), (3, none), (4, none)] (clsPost h0 X)) [(0, str l), (2, .pointer (some ⟨rb, 0, none⟩)), (3, .int .i64 0), (4, .int .i64 0), (5, .pointer (some ⟨g, 0, none⟩)), (6, .pointer (some ⟨cb, 0, none⟩)), (14, x14), (219, x219), (241, x241)] hx := by
  rw [C.ref3_ReadClass_t0_go]
  have k0 := D.k0
  have c2 := D.r.c2
  have c3 := D.r.c3
  have hg3 := D.g3
  by_cases he : t.e = 0
  case neg =>
    have he' : ¬ (t.e : Int) = 0 := by omega
    have hc : finC (⟨mi, ma, fl, th, su, p, is, fs, ms⟩, t) = (cls0, t.e, t.es) := by unfold finC; rw [if_pos he]
    rw [← hX, hc]
    simp (disch := first | omega | assumption) only [C.ref3_ReadClass_gos, vs, Go.Vc.vk, T.ts, ↓reduceIte, Nat.reduceEqDiff, reduceCtorEq, Nat.reduceLeDiff, Nat.reducePow, Int.reducePow, Int.reduceToNat, Nat.reduceAdd, k0, c2, c3, eq_false he']
    refine eff_storeN_z T.zr_43 rfl rfl rfl (by simp [Value.cells, oneCell]) D.z rfl ?_
    intro h2 f2 b2
    have hld := ld_agg T.ag_43 (Rd_block (vs := ClsV cls0 (.slice none 0 0) (.slice none 0 0) (.slice none 0 0) (.slice none 0 0)) b2) rfl
    simp only [ClsV, cls0, Int.ofNat_zero, Int.natCast_zero] at hld
    simp (disch := first | omega | assumption) only [C.ref3_ReadClass_gos, vs, Go.Vc.vk, T.ts, ↓reduceIte, Nat.reduceEqDiff, reduceCtorEq, Nat.reduceLeDiff, Nat.reducePow, Int.reducePow, Int.reduceToNat, Nat.reduceAdd, hld]
    have hq := Fr_blk f2 D.q (cell_ne D.q D.z (by decide))
    have hr := D.r.fr f2 (cell_ne D.r.1 D.z (by decide))
    have kk : cellAt h2 ⟨g, 0, none⟩ = some (.pointer (some ⟨gc, 0, none⟩)) := by rw [cellAt_of hq]; rfl
    exact ⟨⟨kk, hr.c2, kk, hr.c3⟩, D.extS f2 (fun k _ hk => by omega), _, _, _, _, rfl, cls0_C _⟩
  case pos =>
    have he' : (t.e : Int) = 0 := by omega
    have hc : finC (⟨mi, ma, fl, th, su, p, is, fs, ms⟩, t) = (⟨mi, ma, fl, th, su, p, is, fs, ms⟩, 0, 0) := by unfold finC; rw [if_neg (by simp [he])]
    rw [← hX, hc]
    have hl1 := ld_agg T.ag_43 (Rd_block D.b) rfl
    simp (disch := first | omega | assumption) only [C.ref3_ReadClass_gos, vs, Go.Vc.vk, T.ts, ↓reduceIte, Nat.reduceEqDiff, reduceCtorEq, Nat.reduceLeDiff, Nat.reducePow, Int.reducePow, Int.reduceToNat, Nat.reduceAdd, k0, c2, eq_true he', hl1]
    obtain ⟨rows, hm⟩ := D.m
    obtain ⟨a1, c1, rfl, _⟩ := D.p.slN.2
    obtain ⟨a2, c2', rfl, _⟩ := D.i.slN.2
    obtain ⟨a3, c3', rfl, _⟩ := D.f.slN.2
    obtain ⟨a4, c4, rfl, _⟩ := hm.o.slN.2
    refine eff_storeN_z T.zr_43 rfl rfl rfl (by simp [Value.cells, oneCell]) D.z rfl ?_
    intro h2 f2 b2
    have hld := ld_agg T.ag_43 (Rd_block (vs := ClsV ⟨mi, ma, fl, th, su, p, is, fs, ms⟩ (.slice a1 p.length c1) (.slice a2 is.length c2') (.slice a3 fs.length c3') (.slice a4 ms.length c4)) b2) rfl
    simp only [ClsV] at hld
    simp (disch := first | omega | assumption) only [C.ref3_ReadClass_gos, vs, Go.Vc.vk, T.ts, ↓reduceIte, Nat.reduceEqDiff, reduceCtorEq, Nat.reduceLeDiff, Nat.reducePow, Int.reducePow, Int.reduceToNat, Nat.reduceAdd, hld]
    have hS : ∀ k, k < hx.size → k = rb → ∃ cs fz, hx[k]? = some (.cells cs 43 fz) := fun k _ hk => ⟨_, _, hk ▸ D.z⟩
    have q1 := own_keep D.p f2 hS (by decide)
    have q2 := own_keep D.i f2 hS (by decide)
    have q3 := own_keep D.f f2 hS (by decide)
    have q4 := hm.keep f2 hS (by decide) (by decide)
    exact ⟨D.extS f2 (fun k _ hk => by omega), _, _, _, _, rfl, ⟨q1.slN, q1.capOk, q2.slN, q2.capOk, q3.slN, q3.capOk, q4.cls, q4.o.capOk⟩⟩
set_option maxHeartbeats 8000000 in
theorem rread_t1 (D : RE h0 g gc cb rb l [.int .u16 (mi : Int), .int .u16 (ma : Int), .int .u16 (fl : Int), .int .u16 (th : Int), .int .u16 (su : Int), vp, vi, vf, vm] p is fs ms vp vi vf vm t hx) (hX' : finC (⟨mi, ma, fl, th, su, p, is, fs, ms⟩, if t.p < l.length then failS 2 t.p t else t) = X) :
    Cd.vc Try.prog C.ref3_ReadClass_t1 (retQ Try.prog [(2, some 43), (3, none), (4, none)] (clsPost h0 X)) [(0, str l), (2, .pointer (some ⟨rb, 0, none⟩)), (3, .int .i64 0), (4, .int .i64 0), (5, .pointer (some ⟨g, 0, none⟩)), (6, .pointer (some ⟨cb, 0, none⟩)), (14, x14), (219, x219)] hx := by
  rw [C.ref3_ReadClass_t1_go]
  have k0 := D.k0
  have c1 := D.r.c1
  by_cases hlt : t.p < l.length
  · have q : (t.p : Int) < (l.length : Int) := by omega
    rw [if_pos hlt] at hX'
    simp (disch := first | omega | assumption) only [C.ref3_ReadClass_gos, vs, Go.Vc.vk, T.ts, ↓reduceIte, Nat.reduceEqDiff, reduceCtorEq, Nat.reduceLeDiff, Nat.reducePow, Int.reducePow, Int.reduceToNat, Nat.reduceAdd, k0, c1, q]
    refine eff_call_of ?_
    simp (disch := first | omega | assumption) only [C.ref3_ReadClass_gos, vs, Go.Vc.vk, T.ts, ↓reduceIte, Nat.reduceEqDiff, reduceCtorEq, Nat.reduceLeDiff, Nat.reducePow, Int.reducePow, Int.reduceToNat, Nat.reduceAdd]
    refine (cfail_any 2 t.p D.r).mono ?_
    rintro _ h4 ⟨f4, r4⟩
    simp (disch := first | omega | assumption) only [C.ref3_ReadClass_gos, vs, Go.Vc.vk, T.ts, ↓reduceIte, Nat.reduceEqDiff, reduceCtorEq, Nat.reduceLeDiff, Nat.reducePow, Int.reducePow, Int.reduceToNat, Nat.reduceAdd]
    exact rread_t0 (D.frR f4 r4) hX'
  · have q : ¬ (t.p : Int) < (l.length : Int) := by omega
    rw [if_neg hlt] at hX'
    simp (disch := first | omega | assumption) only [C.ref3_ReadClass_gos, vs, Go.Vc.vk, T.ts, ↓reduceIte, Nat.reduceEqDiff, reduceCtorEq, Nat.reduceLeDiff, Nat.reducePow, Int.reducePow, Int.reduceToNat, Nat.reduceAdd, k0, c1, q]
    exact rread_t0 D hX'
set_option maxHeartbeats 8000000 in
theorem rread_t2 (hl : l.length ≤ 1073741824) (D : RE h0 g gc cb rb l [.int .u16 (mi : Int), .int .u16 (ma : Int), .int .u16 (fl : Int), .int .u16 (th : Int), .int .u16 (su : Int), vp, vi, vf, vm] p is fs ms vp vi vf vm t hx) (hX : tailA p l ⟨mi, ma, fl, th, su, p, is, fs, ms⟩ t = X) :
    Cd.vc Try.prog C.ref3_ReadClass_t2 (retQ Try.prog [(2, some 43), (3, none), (4, none)] (clsPost h0 X)) [(0, str l), (2, .pointer (some ⟨rb, 0, none⟩)), (3, .int .i64 0), (4, .int .i64 0), (5, .pointer (some ⟨g, 0, none⟩)), (6, .pointer (some ⟨cb, 0, none⟩)), (13, x13), (193, x193)] hx := by
  rw [C.ref3_ReadClass_t2_go]
  have k0 := D.k0
  simp (disch := first | omega | assumption) only [C.ref3_ReadClass_gos, vs, Go.Vc.vk, T.ts, ↓reduceIte, Nat.reduceEqDiff, reduceCtorEq, Nat.reduceLeDiff, Nat.reducePow, Int.reducePow, Int.reduceToNat, Nat.reduceAdd, k0]
  refine eff_call_of ?_
  simp (disch := first | omega | assumption) only [C.ref3_ReadClass_gos, vs, Go.Vc.vk, T.ts, ↓reduceIte, Nat.reduceEqDiff, reduceCtorEq, Nat.reduceLeDiff, Nat.reducePow, Int.reducePow, Int.reduceToNat, Nat.reduceAdd]
  refine (cnum_any 2 hl (by omega) D.r).mono ?_
  rintro _ h1 ⟨f1, r1, rfl⟩
  have D1 := D.frR f1 r1
  have hk := @numS_lt l 2 t
  simp only [Nat.reducePow] at hk
  obtain ⟨K, hK⟩ : ∃ K, K = numS l 2 t := ⟨_, rfl⟩
  rw [← hK] at r1 hk D1 ⊢
  clear k0 D f1 r1
  obtain ⟨R, hRR⟩ : ∃ R, R = (attrsR p l noT K.1 () K.2).2 := ⟨_, rfl⟩
  have hX' : finC (⟨mi, ma, fl, th, su, p, is, fs, ms⟩, if R.p < l.length then failS 2 R.p R else R) = X := by rw [← hX, hRR, hK]; rfl
  clear hX
  simp (disch := first | omega | assumption) only [C.ref3_ReadClass_gos, vs, Go.Vc.vk, T.ts, ↓reduceIte, Nat.reduceEqDiff, reduceCtorEq, Nat.reduceLeDiff, Nat.reducePow, Int.reducePow, Int.reduceToNat, Nat.reduceAdd]
  refine loop_intro [0, 2, 3, 4, 5, 6, 14] (fun m ρ hc => ∃ (k : Nat) (u : RS), m = k ∧ k < 65536 ∧ ρ = [(0, str l), (2, .pointer (some ⟨rb, 0, none⟩)), (3, .int .i64 0), (4, .int .i64 0), (5, .pointer (some ⟨g, 0, none⟩)), (6, .pointer (some ⟨cb, 0, none⟩)), (14, .int .i64 k)] ∧
      RE h0 g gc cb rb l [.int .u16 (mi : Int), .int .u16 (ma : Int), .int .u16 (fl : Int), .int .u16 (th : Int), .int .u16 (su : Int), vp, vi, vf, vm] p is fs ms vp vi vf vm u hc ∧ (attrsR p l noT k () u).2 = R) ?_ ?_
  · simp (disch := first | omega | assumption) only [C.ref3_ReadClass_gos, vs, Go.Vc.vk, T.ts, ↓reduceIte, Nat.reduceEqDiff, reduceCtorEq, Nat.reduceLeDiff, Nat.reducePow, Int.reducePow, Int.reduceToNat, Nat.reduceAdd]
    exact ⟨_, K.1, K.2, rfl, by omega, rfl, D1, hRR.symm⟩
  clear D1
  rintro m ρ hc ⟨k, u, rfl, hkk, rfl, Dx, hL⟩
  have k0 := Dx.k0
  have c2 := Dx.r.c2
  refine Or.elim (Classical.em (0 < m ∧ u.e = 0)) (fun hgo => ?caG) (fun hgo => ?cbG)
  case caG =>
    obtain ⟨hpos, he⟩ := hgo
    obtain ⟨j, rfl⟩ : ∃ j, m = j + 1 := ⟨m - 1, by omega⟩
    have hpos' : (0 : Int) < ((j + 1 : Nat) : Int) := by omega
    have he' : (u.e : Int) = 0 := by omega
    have hw : IntKind.i64.wrap (((j + 1 : Nat) : Int) - 1) = (j : Int) := by rw [wrap_i64 (by omega) (by omega)]; omega
    rw [attrsR_step he] at hL
    simp (disch := first | omega | assumption) only [C.ref3_ReadClass_gos, vs, Go.Vc.vk, T.ts, ↓reduceIte, Nat.reduceEqDiff, reduceCtorEq, Nat.reduceLeDiff, Nat.reducePow, Int.reducePow, Int.reduceToNat, Nat.reduceAdd, hpos', k0, c2, eq_true he']
    refine eff_call_of ?_
    simp (disch := first | omega | assumption) only [C.ref3_ReadClass_gos, vs, Go.Vc.vk, T.ts, ↓reduceIte, Nat.reduceEqDiff, reduceCtorEq, Nat.reduceLeDiff, Nat.reducePow, Int.reducePow, Int.reduceToNat, Nat.reduceAdd]
    refine (rattribute_any hl Dx.rg).mono ?_
    rintro _ h4 ⟨f4, r4, nm, en, rfl, hA⟩
    have D4 := Dx.frR f4 r4
    have hup := Dx.r.2
    clear Dx f4 r4 k0 c2
    have hb1 := hA.lt
    have hbp := D4.r.2
    have hAb := hA.bad
    have hAo := hA.ok
    clear hA
    generalize attB p l u = b at *
    by_cases hbe : b.2.e = 0
    case neg =>
      obtain ⟨rfl, rfl⟩ := hAb hbe
      rw [if_pos hbe] at hL
      simp (disch := first | omega | assumption) only [C.ref3_ReadClass_gos, vs, Go.Vc.vk, T.ts, ↓reduceIte, Nat.reduceEqDiff, reduceCtorEq, Nat.reduceLeDiff, Nat.reducePow, Int.reducePow, Int.reduceToNat, Nat.reduceAdd]
      refine eff_call_of ?_
      simp (disch := first | omega | assumption) only [C.ref3_ReadClass_gos, vs, Go.Vc.vk, T.ts, ↓reduceIte, Nat.reduceEqDiff, reduceCtorEq, Nat.reduceLeDiff, Nat.reducePow, Int.reducePow, Int.reduceToNat, Nat.reduceAdd]
      refine (rover_any hl D4.rg false u.p (-1) (by omega) (by omega) (fun _ hh => absurd hh hbe)).mono ?_
      rintro _ h5 ⟨f5, r5⟩
      rw [overS_bad hbe] at r5
      have D5 := D4.frR f5 r5
      simp (disch := first | omega | assumption) only [C.ref3_ReadClass_gos, vs, Go.Vc.vk, T.ts, ↓reduceIte, Nat.reduceEqDiff, reduceCtorEq, Nat.reduceLeDiff, Nat.reducePow, Int.reducePow, Int.reduceToNat, Nat.reduceAdd, hw]
      exact ⟨_, by omega, j, b.2, rfl, by omega, rfl, D5, by rw [attrsR_bad hbe]; exact hL⟩
    case pos =>
      obtain ⟨rfl, rfl⟩ := hAo hbe
      rw [if_neg (by simp [hbe])] at hL
      simp (disch := first | omega | assumption) only [C.ref3_ReadClass_gos, vs, Go.Vc.vk, T.ts, ↓reduceIte, Nat.reduceEqDiff, reduceCtorEq, Nat.reduceLeDiff, Nat.reducePow, Int.reducePow, Int.reduceToNat, Nat.reduceAdd]
      refine eff_call_of ?_
      simp (disch := first | omega | assumption) only [C.ref3_ReadClass_gos, vs, Go.Vc.vk, T.ts, ↓reduceIte, Nat.reduceEqDiff, reduceCtorEq, Nat.reduceLeDiff, Nat.reducePow, Int.reducePow, Int.reduceToNat, Nat.reduceAdd]
      refine (rover_any hl D4.rg false u.p _ (by omega) (by omega) (fun _ _ => by omega)).mono ?_
      rintro _ h5 ⟨f5, r5⟩
      rw [overS_no hbe rfl] at r5
      have D5 := D4.frR f5 r5
      simp (disch := first | omega | assumption) only [C.ref3_ReadClass_gos, vs, Go.Vc.vk, T.ts, ↓reduceIte, Nat.reduceEqDiff, reduceCtorEq, Nat.reduceLeDiff, Nat.reducePow, Int.reducePow, Int.reduceToNat, Nat.reduceAdd, hw]
      exact ⟨_, by omega, j, _, rfl, by omega, rfl, D5, hL⟩
  have hR2 : R = u := by
    rw [← hL]
    rcases Nat.eq_zero_or_pos m with h0 | h0
    · subst h0; rfl
    · rw [attrsR_bad (fun he => hgo ⟨h0, he⟩)]
  rw [hR2] at hX'
  refine Or.elim (Classical.em (m = 0)) (fun h0 => ?ccG) (fun h0 => ?cdG)
  case' ccG =>
    have hz : ¬ (0 : Int) < (m : Int) := by omega
    simp (disch := first | omega | assumption) only [C.ref3_ReadClass_gos, vs, Go.Vc.vk, T.ts, ↓reduceIte, Nat.reduceEqDiff, reduceCtorEq, Nat.reduceLeDiff, Nat.reducePow, Int.reducePow, Int.reduceToNat, Nat.reduceAdd, hz]
  case' cdG =>
    have hz : (0 : Int) < (m : Int) := by omega
    have he' : ¬ (u.e : Int) = 0 := fun he => hgo ⟨by omega, by omega⟩
    simp (disch := first | omega | assumption) only [C.ref3_ReadClass_gos, vs, Go.Vc.vk, T.ts, ↓reduceIte, Nat.reduceEqDiff, reduceCtorEq, Nat.reduceLeDiff, Nat.reducePow, Int.reducePow, Int.reduceToNat, Nat.reduceAdd, hz, k0, c2, eq_false he']
  all_goals
    exact rread_t1 Dx hX'
set_option maxHeartbeats 8000000 in
theorem rread_t3 (hl : l.length ≤ 1073741824) (D : RE h0 g gc cb rb l [.int .u16 (mi : Int), .int .u16 (ma : Int), .int .u16 (fl : Int), .int .u16 (th : Int), .int .u16 (su : Int), vp, vi, vf, (.slice none 0 0)] p is fs [] vp vi vf (.slice none 0 0) t hx) (hX : tailM p l mi ma fl th su is fs t = X) :
    Cd.vc Try.prog C.ref3_ReadClass_t3 (retQ Try.prog [(2, some 43), (3, none), (4, none)] (clsPost h0 X)) [(0, str l), (2, .pointer (some ⟨rb, 0, none⟩)), (3, .int .i64 0), (4, .int .i64 0), (5, .pointer (some ⟨g, 0, none⟩)), (6, .pointer (some ⟨cb, 0, none⟩)), (12, x12), (167, x167)] hx := by
  rw [C.ref3_ReadClass_t3_go]
  have k0 := D.k0
  simp (disch := first | omega | assumption) only [C.ref3_ReadClass_gos, vs, Go.Vc.vk, T.ts, ↓reduceIte, Nat.reduceEqDiff, reduceCtorEq, Nat.reduceLeDiff, Nat.reducePow, Int.reducePow, Int.reduceToNat, Nat.reduceAdd, k0]
  refine eff_call_of ?_
  simp (disch := first | omega | assumption) only [C.ref3_ReadClass_gos, vs, Go.Vc.vk, T.ts, ↓reduceIte, Nat.reduceEqDiff, reduceCtorEq, Nat.reduceLeDiff, Nat.reducePow, Int.reducePow, Int.reduceToNat, Nat.reduceAdd]
  refine (cnum_any 2 hl (by omega) D.r).mono ?_
  rintro _ h1 ⟨f1, r1, rfl⟩
  have D1 := D.frR f1 r1
  have hk := @numS_lt l 2 t
  simp only [Nat.reducePow] at hk
  obtain ⟨K, hK⟩ : ∃ K, K = numS l 2 t := ⟨_, rfl⟩
  rw [← hK] at r1 hk D1 ⊢
  clear k0 D f1 r1
  obtain ⟨R, hRR⟩ : ∃ R, R = loopS (methodR p l) K.1 [] K.2 := ⟨_, rfl⟩
  have hX' : tailA p l ⟨mi, ma, fl, th, su, p, is, fs, R.1⟩ R.2 = X := by rw [← hX, hRR, hK]; rfl
  clear hX
  simp (disch := first | omega | assumption) only [C.ref3_ReadClass_gos, vs, Go.Vc.vk, T.ts, ↓reduceIte, Nat.reduceEqDiff, reduceCtorEq, Nat.reduceLeDiff, Nat.reducePow, Int.reducePow, Int.reduceToNat, Nat.reduceAdd]
  refine loop_intro [0, 2, 3, 4, 5, 6, 13] (fun m ρ hc => ∃ (k : Nat) (xs : List Mth) (w : Value) (u : RS), m = k ∧ xs.length + k ≤ 65535 ∧ ρ = [(0, str l), (2, .pointer (some ⟨rb, 0, none⟩)), (3, .int .i64 0), (4, .int .i64 0), (5, .pointer (some ⟨g, 0, none⟩)), (6, .pointer (some ⟨cb, 0, none⟩)), (13, .int .i64 k)] ∧
      RE h0 g gc cb rb l [.int .u16 (mi : Int), .int .u16 (ma : Int), .int .u16 (fl : Int), .int .u16 (th : Int), .int .u16 (su : Int), vp, vi, vf, w] p is fs xs vp vi vf w u hc ∧ loopS (methodR p l) k xs u = R) ?_ ?_
  · simp (disch := first | omega | assumption) only [C.ref3_ReadClass_gos, vs, Go.Vc.vk, T.ts, ↓reduceIte, Nat.reduceEqDiff, reduceCtorEq, Nat.reduceLeDiff, Nat.reducePow, Int.reducePow, Int.reduceToNat, Nat.reduceAdd]
    exact ⟨_, K.1, [], _, K.2, rfl, by simp; omega, rfl, D1, hRR.symm⟩
  clear D1
  rintro m ρ hc ⟨k, xs, w, u, rfl, hkk, rfl, Dx, hL⟩
  have k0 := Dx.k0
  have c2 := Dx.r.c2
  refine Or.elim (Classical.em (0 < m ∧ u.e = 0)) (fun hgo => ?caG) (fun hgo => ?cbG)
  case caG =>
    obtain ⟨hpos, he⟩ := hgo
    obtain ⟨j, rfl⟩ : ∃ j, m = j + 1 := ⟨m - 1, by omega⟩
    have hpos' : (0 : Int) < ((j + 1 : Nat) : Int) := by omega
    have he' : (u.e : Int) = 0 := by omega
    have hw : IntKind.i64.wrap (((j + 1 : Nat) : Int) - 1) = (j : Int) := by rw [wrap_i64 (by omega) (by omega)]; omega
    rw [loopS, if_neg (by simp [he])] at hL
    have k7 : cellAt hc ⟨cb, 8, none⟩ = some w := by rw [Dx.cell]; rfl
    simp (disch := first | omega | assumption) only [C.ref3_ReadClass_gos, vs, Go.Vc.vk, T.ts, ↓reduceIte, Nat.reduceEqDiff, reduceCtorEq, Nat.reduceLeDiff, Nat.reducePow, Int.reducePow, Int.reduceToNat, Nat.reduceAdd, hpos', k0, c2, eq_true he', k7]
    refine eff_call_of ?_
    simp (disch := first | omega | assumption) only [C.ref3_ReadClass_gos, vs, Go.Vc.vk, T.ts, ↓reduceIte, Nat.reduceEqDiff, reduceCtorEq, Nat.reduceLeDiff, Nat.reducePow, Int.reducePow, Int.reduceToNat, Nat.reduceAdd]
    refine (rmethod_any hl Dx.rg).mono ?_
    rintro _ h4 ⟨f4, r4, wH, rfl, own4⟩
    have D4 := Dx.frR f4 r4
    have ownh := own4.mono Dx.x.size
    obtain ⟨aH, cH, rfl, _⟩ := own4.slN.2
    clear k0 k7 Dx f4 r4 c2
    have k7 : cellAt h4 ⟨cb, 8, none⟩ = some w := by rw [D4.cell]; rfl
    have hx : MthV (methodR p l u).1 (.slice aH (methodR p l u).1.code.hs.length cH) = [.int .u16 ((methodR p l u).1.flags : Int), .int .u16 ((methodR p l u).1.name : Int), .int .u16 ((methodR p l u).1.type : Int), .bool (methodR p l u).1.has, .int .i64 (methodR p l u).1.code.maxS, .int .i64 (methodR p l u).1.code.maxL, str (methodR p l u).1.code.bytes, .slice aH (methodR p l u).1.code.hs.length cH, str (methodR p l u).1.code.map] := rfl
    rw [hx]
    simp (disch := first | omega | assumption) only [C.ref3_ReadClass_gos, vs, Go.Vc.vk, T.ts, ↓reduceIte, Nat.reduceEqDiff, reduceCtorEq, Nat.reduceLeDiff, Nat.reducePow, Int.reducePow, Int.reduceToNat, Nat.reduceAdd, k7]
    refine eff_lits T.slT_41 rfl rfl (by decide) ?_
    have ex : Ext h4 (h4.push (.cells (MthV (methodR p l u).1 (.slice aH (methodR p l u).1.code.hs.length cH)).toArray 81)) := Ext.push _ _
    have ba : (h4.push (.cells (MthV (methodR p l u).1 (.slice aH (methodR p l u).1.code.hs.length cH)).toArray 81))[h4.size]? = some (.cells (MthV (methodR p l u).1 (.slice aH (methodR p l u).1.code.hs.length cH)).toArray 81 (0, 0)) := by simp
    have D5 := D4.frR (FrR.ext ex) (D4.r.fr ex id)
    rw [hx] at ex ba D5
    simp (disch := first | omega | assumption) only [C.ref3_ReadClass_gos, vs, Go.Vc.vk, T.ts, ↓reduceIte, Nat.reduceEqDiff, reduceCtorEq, Nat.reduceLeDiff, Nat.reducePow, Int.reducePow, Int.reduceToNat, Nat.reduceAdd]
    refine ⟨by rw [D5.cell]; rfl, ?_⟩
    generalize h4.push _ = z5 at *
    generalize h4.size = lb at *
    rw [← hx] at ba
    have hsl : SlN z5 9 (.slice (some ⟨lb, 0, none⟩) 1 1) 1 (MthV (methodR p l u).1 (.slice aH (methodR p l u).1.code.hs.length cH)) := ⟨rfl, _, _, rfl, .inr ⟨lb, 0, rfl, Rd_block ba⟩⟩
    obtain ⟨rows, hm⟩ := D5.m
    have ownh5 := ownh.ext ex
    refine eff_append_slN (m := 1) (news := (MthV (methodR p l u).1 (.slice aH (methodR p l u).1.code.hs.length cH))) T.slT_41 rfl rfl hm.o hsl (one_M rfl) (by first | omega | (simp only; omega)) (by first | omega | (simp only; omega)) D5.x.size ?_
    intro v6 z6 own6 f6
    have D6 := D5.appM hm f6 (hm.snoc ownh5 f6 own6)
    obtain ⟨a6, c6, rfl, _⟩ := own6.slN.2
    have k76 : cellAt z6 ⟨cb, 8, none⟩ = some w := by rw [D6.cell]; rfl
    simp (disch := first | omega | assumption) only [C.ref3_ReadClass_gos, vs, Go.Vc.vk, T.ts, ↓reduceIte, Nat.reduceEqDiff, reduceCtorEq, Nat.reduceLeDiff, Nat.reducePow, Int.reducePow, Int.reduceToNat, Nat.reduceAdd]
    refine eff_store1_z T.zr_41 rfl rfl rfl rfl rfl k76 (D6.frozen _) ?_
    have D7 := D6.set 8 (.slice a6 (xs.length + 1) c6)
    simp (disch := first | omega | assumption) only [C.ref3_ReadClass_gos, vs, Go.Vc.vk, T.ts, ↓reduceIte, Nat.reduceEqDiff, reduceCtorEq, Nat.reduceLeDiff, Nat.reducePow, Int.reducePow, Int.reduceToNat, Nat.reduceAdd, hw]
    exact ⟨_, by omega, j, xs ++ [(methodR p l u).1], _, _, rfl, by simp; omega, rfl, D7, hL⟩
  have hR2 : R = (xs, u) := by
    rw [← hL]
    rcases Nat.eq_zero_or_pos m with h0 | h0
    · subst h0; rfl
    · exact loopS_bad (fun he => hgo ⟨h0, he⟩)
  rw [hR2] at hX'
  refine Or.elim (Classical.em (m = 0)) (fun h0 => ?ccG) (fun h0 => ?cdG)
  case' ccG =>
    have hz : ¬ (0 : Int) < (m : Int) := by omega
    simp (disch := first | omega | assumption) only [C.ref3_ReadClass_gos, vs, Go.Vc.vk, T.ts, ↓reduceIte, Nat.reduceEqDiff, reduceCtorEq, Nat.reduceLeDiff, Nat.reducePow, Int.reducePow, Int.reduceToNat, Nat.reduceAdd, hz]
  case' cdG =>
    have hz : (0 : Int) < (m : Int) := by omega
    have he' : ¬ (u.e : Int) = 0 := fun he => hgo ⟨by omega, by omega⟩
    simp (disch := first | omega | assumption) only [C.ref3_ReadClass_gos, vs, Go.Vc.vk, T.ts, ↓reduceIte, Nat.reduceEqDiff, reduceCtorEq, Nat.reduceLeDiff, Nat.reducePow, Int.reducePow, Int.reduceToNat, Nat.reduceAdd, hz, k0, c2, eq_false he']
  all_goals
    exact rread_t2 hl Dx hX'
set_option maxHeartbeats 8000000 in
theorem rread_t4 (hl : l.length ≤ 1073741824) (D : RE h0 g gc cb rb l [.int .u16 (mi : Int), .int .u16 (ma : Int), .int .u16 (fl : Int), .int .u16 (th : Int), .int .u16 (su : Int), vp, vi, (.slice none 0 0), (.slice none 0 0)] p is [] [] vp vi (.slice none 0 0) (.slice none 0 0) t hx) (hX : tailF p l mi ma fl th su is t = X) :
    Cd.vc Try.prog C.ref3_ReadClass_t4 (retQ Try.prog [(2, some 43), (3, none), (4, none)] (clsPost h0 X)) [(0, str l), (2, .pointer (some ⟨rb, 0, none⟩)), (3, .int .i64 0), (4, .int .i64 0), (5, .pointer (some ⟨g, 0, none⟩)), (6, .pointer (some ⟨cb, 0, none⟩)), (11, x11), (141, x141)] hx := by
  rw [C.ref3_ReadClass_t4_go]
  have k0 := D.k0
  simp (disch := first | omega | assumption) only [C.ref3_ReadClass_gos, vs, Go.Vc.vk, T.ts, ↓reduceIte, Nat.reduceEqDiff, reduceCtorEq, Nat.reduceLeDiff, Nat.reducePow, Int.reducePow, Int.reduceToNat, Nat.reduceAdd, k0]
  refine eff_call_of ?_
  simp (disch := first | omega | assumption) only [C.ref3_ReadClass_gos, vs, Go.Vc.vk, T.ts, ↓reduceIte, Nat.reduceEqDiff, reduceCtorEq, Nat.reduceLeDiff, Nat.reducePow, Int.reducePow, Int.reduceToNat, Nat.reduceAdd]
  refine (cnum_any 2 hl (by omega) D.r).mono ?_
  rintro _ h1 ⟨f1, r1, rfl⟩
  have D1 := D.frR f1 r1
  have hk := @numS_lt l 2 t
  simp only [Nat.reducePow] at hk
  obtain ⟨K, hK⟩ : ∃ K, K = numS l 2 t := ⟨_, rfl⟩
  rw [← hK] at r1 hk D1 ⊢
  clear k0 D f1 r1
  obtain ⟨R, hRR⟩ : ∃ R, R = loopS (fieldR p l) K.1 [] K.2 := ⟨_, rfl⟩
  have hX' : tailM p l mi ma fl th su is R.1 R.2 = X := by rw [← hX, hRR, hK]; rfl
  clear hX
  simp (disch := first | omega | assumption) only [C.ref3_ReadClass_gos, vs, Go.Vc.vk, T.ts, ↓reduceIte, Nat.reduceEqDiff, reduceCtorEq, Nat.reduceLeDiff, Nat.reducePow, Int.reducePow, Int.reduceToNat, Nat.reduceAdd]
  refine loop_intro [0, 2, 3, 4, 5, 6, 12] (fun m ρ hc => ∃ (k : Nat) (xs : List Fld) (w : Value) (u : RS), m = k ∧ xs.length + k ≤ 65535 ∧ ρ = [(0, str l), (2, .pointer (some ⟨rb, 0, none⟩)), (3, .int .i64 0), (4, .int .i64 0), (5, .pointer (some ⟨g, 0, none⟩)), (6, .pointer (some ⟨cb, 0, none⟩)), (12, .int .i64 k)] ∧
      RE h0 g gc cb rb l [.int .u16 (mi : Int), .int .u16 (ma : Int), .int .u16 (fl : Int), .int .u16 (th : Int), .int .u16 (su : Int), vp, vi, w, (.slice none 0 0)] p is xs [] vp vi w (.slice none 0 0) u hc ∧ loopS (fieldR p l) k xs u = R) ?_ ?_
  · simp (disch := first | omega | assumption) only [C.ref3_ReadClass_gos, vs, Go.Vc.vk, T.ts, ↓reduceIte, Nat.reduceEqDiff, reduceCtorEq, Nat.reduceLeDiff, Nat.reducePow, Int.reducePow, Int.reduceToNat, Nat.reduceAdd]
    exact ⟨_, K.1, [], _, K.2, rfl, by simp; omega, rfl, D1, hRR.symm⟩
  clear D1
  rintro m ρ hc ⟨k, xs, w, u, rfl, hkk, rfl, Dx, hL⟩
  have k0 := Dx.k0
  have c2 := Dx.r.c2
  refine Or.elim (Classical.em (0 < m ∧ u.e = 0)) (fun hgo => ?caG) (fun hgo => ?cbG)
  case caG =>
    obtain ⟨hpos, he⟩ := hgo
    obtain ⟨j, rfl⟩ : ∃ j, m = j + 1 := ⟨m - 1, by omega⟩
    have hpos' : (0 : Int) < ((j + 1 : Nat) : Int) := by omega
    have he' : (u.e : Int) = 0 := by omega
    have hw : IntKind.i64.wrap (((j + 1 : Nat) : Int) - 1) = (j : Int) := by rw [wrap_i64 (by omega) (by omega)]; omega
    rw [loopS, if_neg (by simp [he])] at hL
    have k7 : cellAt hc ⟨cb, 7, none⟩ = some w := by rw [Dx.cell]; rfl
    simp (disch := first | omega | assumption) only [C.ref3_ReadClass_gos, vs, Go.Vc.vk, T.ts, ↓reduceIte, Nat.reduceEqDiff, reduceCtorEq, Nat.reduceLeDiff, Nat.reducePow, Int.reducePow, Int.reduceToNat, Nat.reduceAdd, hpos', k0, c2, eq_true he', k7]
    refine eff_call_of ?_
    simp (disch := first | omega | assumption) only [C.ref3_ReadClass_gos, vs, Go.Vc.vk, T.ts, ↓reduceIte, Nat.reduceEqDiff, reduceCtorEq, Nat.reduceLeDiff, Nat.reducePow, Int.reducePow, Int.reduceToNat, Nat.reduceAdd]
    refine (rfield_any hl Dx.rg).mono ?_
    rintro _ h4 ⟨f4, r4, rfl⟩
    have D4 := Dx.frR f4 r4
    clear k0 k7 Dx f4 r4 c2
    have k7 : cellAt h4 ⟨cb, 7, none⟩ = some w := by rw [D4.cell]; rfl
    have hx : (fieldR p l u).1.cells = [.int .u16 ((fieldR p l u).1.flags : Int), .int .u16 ((fieldR p l u).1.name : Int), .int .u16 ((fieldR p l u).1.type : Int), .int .u16 ((fieldR p l u).1.value : Int)] := rfl
    rw [hx]
    simp (disch := first | omega | assumption) only [C.ref3_ReadClass_gos, vs, Go.Vc.vk, T.ts, ↓reduceIte, Nat.reduceEqDiff, reduceCtorEq, Nat.reduceLeDiff, Nat.reducePow, Int.reducePow, Int.reduceToNat, Nat.reduceAdd, k7]
    refine eff_lits T.slT_40 rfl rfl (by decide) ?_
    have ex : Ext h4 (h4.push (.cells (fieldR p l u).1.cells.toArray 89)) := Ext.push _ _
    have ba : (h4.push (.cells (fieldR p l u).1.cells.toArray 89))[h4.size]? = some (.cells (fieldR p l u).1.cells.toArray 89 (0, 0)) := by simp
    have D5 := D4.frR (FrR.ext ex) (D4.r.fr ex id)
    rw [hx] at ex ba D5
    simp (disch := first | omega | assumption) only [C.ref3_ReadClass_gos, vs, Go.Vc.vk, T.ts, ↓reduceIte, Nat.reduceEqDiff, reduceCtorEq, Nat.reduceLeDiff, Nat.reducePow, Int.reducePow, Int.reduceToNat, Nat.reduceAdd]
    refine ⟨by rw [D5.cell]; rfl, ?_⟩
    generalize h4.push _ = z5 at *
    generalize h4.size = lb at *
    rw [← hx] at ba
    have hsl : SlN z5 4 (.slice (some ⟨lb, 0, none⟩) 1 1) 1 (fieldR p l u).1.cells := ⟨rfl, _, _, rfl, .inr ⟨lb, 0, rfl, Rd_block ba⟩⟩
    
    refine eff_append_slN (m := 1) (news := (fieldR p l u).1.cells) T.slT_40 rfl rfl D5.f hsl (fun w hw => one_F [(fieldR p l u).1] w (by simpa [flatF] using hw)) (by first | omega | (simp only; omega)) (by first | omega | (simp only; omega)) D5.x.size ?_
    intro v6 z6 own6 f6
    have D6 := D5.appF f6 (fs' := xs ++ [(fieldR p l u).1]) (Own_cast own6 (by simp) (by simp [flatF]))
    obtain ⟨a6, c6, rfl, _⟩ := own6.slN.2
    have k76 : cellAt z6 ⟨cb, 7, none⟩ = some w := by rw [D6.cell]; rfl
    simp (disch := first | omega | assumption) only [C.ref3_ReadClass_gos, vs, Go.Vc.vk, T.ts, ↓reduceIte, Nat.reduceEqDiff, reduceCtorEq, Nat.reduceLeDiff, Nat.reducePow, Int.reducePow, Int.reduceToNat, Nat.reduceAdd]
    refine eff_store1_z T.zr_40 rfl rfl rfl rfl rfl k76 (D6.frozen _) ?_
    have D7 := D6.set 7 (.slice a6 (xs.length + 1) c6)
    simp (disch := first | omega | assumption) only [C.ref3_ReadClass_gos, vs, Go.Vc.vk, T.ts, ↓reduceIte, Nat.reduceEqDiff, reduceCtorEq, Nat.reduceLeDiff, Nat.reducePow, Int.reducePow, Int.reduceToNat, Nat.reduceAdd, hw]
    exact ⟨_, by omega, j, xs ++ [(fieldR p l u).1], _, _, rfl, by simp; omega, rfl, D7, hL⟩
  have hR2 : R = (xs, u) := by
    rw [← hL]
    rcases Nat.eq_zero_or_pos m with h0 | h0
    · subst h0; rfl
    · exact loopS_bad (fun he => hgo ⟨h0, he⟩)
  rw [hR2] at hX'
  refine Or.elim (Classical.em (m = 0)) (fun h0 => ?ccG) (fun h0 => ?cdG)
  case' ccG =>
    have hz : ¬ (0 : Int) < (m : Int) := by omega
    simp (disch := first | omega | assumption) only [C.ref3_ReadClass_gos, vs, Go.Vc.vk, T.ts, ↓reduceIte, Nat.reduceEqDiff, reduceCtorEq, Nat.reduceLeDiff, Nat.reducePow, Int.reducePow, Int.reduceToNat, Nat.reduceAdd, hz]
  case' cdG =>
    have hz : (0 : Int) < (m : Int) := by omega
    have he' : ¬ (u.e : Int) = 0 := fun he => hgo ⟨by omega, by omega⟩
    simp (disch := first | omega | assumption) only [C.ref3_ReadClass_gos, vs, Go.Vc.vk, T.ts, ↓reduceIte, Nat.reduceEqDiff, reduceCtorEq, Nat.reduceLeDiff, Nat.reducePow, Int.reducePow, Int.reduceToNat, Nat.reduceAdd, hz, k0, c2, eq_false he']
  all_goals
    exact rread_t3 hl Dx hX'
set_option maxHeartbeats 8000000 in
theorem rread_t5 (hl : l.length ≤ 1073741824) (D : RE h0 g gc cb rb l [.int .u16 (mi : Int), .int .u16 (ma : Int), .int .u16 (fl : Int), .int .u16 (th : Int), .int .u16 (su : Int), vp, (.slice none 0 0), (.slice none 0 0), (.slice none 0 0)] p [] [] [] vp (.slice none 0 0) (.slice none 0 0) (.slice none 0 0) t hx) (hX : tailI p l mi ma fl th su t = X) :
    Cd.vc Try.prog C.ref3_ReadClass_t5 (retQ Try.prog [(2, some 43), (3, none), (4, none)] (clsPost h0 X)) [(0, str l), (2, .pointer (some ⟨rb, 0, none⟩)), (3, .int .i64 0), (4, .int .i64 0), (5, .pointer (some ⟨g, 0, none⟩)), (6, .pointer (some ⟨cb, 0, none⟩)), (7, x7), (8, x8), (9, x9), (10, x10), (11, x11), (12, x12), (13, x13), (14, x14), (16, x16), (17, x17), (28, x28), (53, x53), (66, x66), (83, x83), (141, x141), (167, x167), (193, x193), (219, x219), (241, x241), (261, x261)] hx := by
  rw [C.ref3_ReadClass_t5_go]
  have k0 := D.k0
  simp (disch := first | omega | assumption) only [C.ref3_ReadClass_gos, vs, Go.Vc.vk, T.ts, ↓reduceIte, Nat.reduceEqDiff, reduceCtorEq, Nat.reduceLeDiff, Nat.reducePow, Int.reducePow, Int.reduceToNat, Nat.reduceAdd, k0]
  refine eff_call_of ?_
  simp (disch := first | omega | assumption) only [C.ref3_ReadClass_gos, vs, Go.Vc.vk, T.ts, ↓reduceIte, Nat.reduceEqDiff, reduceCtorEq, Nat.reduceLeDiff, Nat.reducePow, Int.reducePow, Int.reduceToNat, Nat.reduceAdd]
  refine (cnum_any 2 hl (by omega) D.r).mono ?_
  rintro _ h1 ⟨f1, r1, rfl⟩
  have D1 := D.frR f1 r1
  have hk := @numS_lt l 2 t
  simp only [Nat.reducePow] at hk
  obtain ⟨K, hK⟩ : ∃ K, K = numS l 2 t := ⟨_, rfl⟩
  rw [← hK] at r1 hk D1 ⊢
  clear k0 D f1 r1
  obtain ⟨R, hRR⟩ : ∃ R, R = loopS (numS l 2) K.1 [] K.2 := ⟨_, rfl⟩
  have hX' : tailF p l mi ma fl th su R.1 R.2 = X := by rw [← hX, hRR, hK]; rfl
  clear hX
  simp (disch := first | omega | assumption) only [C.ref3_ReadClass_gos, vs, Go.Vc.vk, T.ts, ↓reduceIte, Nat.reduceEqDiff, reduceCtorEq, Nat.reduceLeDiff, Nat.reducePow, Int.reducePow, Int.reduceToNat, Nat.reduceAdd]
  refine loop_intro [0, 2, 3, 4, 5, 6, 11] (fun m ρ hc => ∃ (k : Nat) (xs : List Nat) (w : Value) (u : RS), m = k ∧ xs.length + k ≤ 65535 ∧ ρ = [(0, str l), (2, .pointer (some ⟨rb, 0, none⟩)), (3, .int .i64 0), (4, .int .i64 0), (5, .pointer (some ⟨g, 0, none⟩)), (6, .pointer (some ⟨cb, 0, none⟩)), (11, .int .i64 k)] ∧
      RE h0 g gc cb rb l [.int .u16 (mi : Int), .int .u16 (ma : Int), .int .u16 (fl : Int), .int .u16 (th : Int), .int .u16 (su : Int), vp, w, (.slice none 0 0), (.slice none 0 0)] p xs [] [] vp w (.slice none 0 0) (.slice none 0 0) u hc ∧ loopS (numS l 2) k xs u = R) ?_ ?_
  · simp (disch := first | omega | assumption) only [C.ref3_ReadClass_gos, vs, Go.Vc.vk, T.ts, ↓reduceIte, Nat.reduceEqDiff, reduceCtorEq, Nat.reduceLeDiff, Nat.reducePow, Int.reducePow, Int.reduceToNat, Nat.reduceAdd]
    exact ⟨_, K.1, [], _, K.2, rfl, by simp; omega, rfl, D1, hRR.symm⟩
  clear D1
  rintro m ρ hc ⟨k, xs, w, u, rfl, hkk, rfl, Dx, hL⟩
  have k0 := Dx.k0
  have c2 := Dx.r.c2
  refine Or.elim (Classical.em (0 < m ∧ u.e = 0)) (fun hgo => ?caG) (fun hgo => ?cbG)
  case caG =>
    obtain ⟨hpos, he⟩ := hgo
    obtain ⟨j, rfl⟩ : ∃ j, m = j + 1 := ⟨m - 1, by omega⟩
    have hpos' : (0 : Int) < ((j + 1 : Nat) : Int) := by omega
    have he' : (u.e : Int) = 0 := by omega
    have hw : IntKind.i64.wrap (((j + 1 : Nat) : Int) - 1) = (j : Int) := by rw [wrap_i64 (by omega) (by omega)]; omega
    rw [loopS, if_neg (by simp [he])] at hL
    have k7 : cellAt hc ⟨cb, 6, none⟩ = some w := by rw [Dx.cell]; rfl
    simp (disch := first | omega | assumption) only [C.ref3_ReadClass_gos, vs, Go.Vc.vk, T.ts, ↓reduceIte, Nat.reduceEqDiff, reduceCtorEq, Nat.reduceLeDiff, Nat.reducePow, Int.reducePow, Int.reduceToNat, Nat.reduceAdd, hpos', k0, c2, eq_true he', k7]
    refine eff_call_of ?_
    simp (disch := first | omega | assumption) only [C.ref3_ReadClass_gos, vs, Go.Vc.vk, T.ts, ↓reduceIte, Nat.reduceEqDiff, reduceCtorEq, Nat.reduceLeDiff, Nat.reducePow, Int.reducePow, Int.reduceToNat, Nat.reduceAdd]
    refine (rindex_any hl Dx.rg).mono ?_
    rintro _ h4 ⟨f4, r4, rfl⟩
    have D4 := Dx.frR f4 r4
    clear k0 k7 Dx f4 r4 c2
    have k7 : cellAt h4 ⟨cb, 6, none⟩ = some w := by rw [D4.cell]; rfl
    
    simp (disch := first | omega | assumption) only [C.ref3_ReadClass_gos, vs, Go.Vc.vk, T.ts, ↓reduceIte, Nat.reduceEqDiff, reduceCtorEq, Nat.reduceLeDiff, Nat.reducePow, Int.reducePow, Int.reduceToNat, Nat.reduceAdd, k7]
    refine eff_lits T.slT_39 rfl rfl (by decide) ?_
    have ex : Ext h4 (h4.push (.cells [.int .u16 ((numS l 2 u).1 : Int)].toArray 38)) := Ext.push _ _
    have ba : (h4.push (.cells [.int .u16 ((numS l 2 u).1 : Int)].toArray 38))[h4.size]? = some (.cells [.int .u16 ((numS l 2 u).1 : Int)].toArray 38 (0, 0)) := by simp
    have D5 := D4.frR (FrR.ext ex) (D4.r.fr ex id)
    
    simp (disch := first | omega | assumption) only [C.ref3_ReadClass_gos, vs, Go.Vc.vk, T.ts, ↓reduceIte, Nat.reduceEqDiff, reduceCtorEq, Nat.reduceLeDiff, Nat.reducePow, Int.reducePow, Int.reduceToNat, Nat.reduceAdd]
    refine ⟨by rw [D5.cell]; rfl, ?_⟩
    generalize h4.push _ = z5 at *
    generalize h4.size = lb at *
    
    have hsl : SlN z5 1 (.slice (some ⟨lb, 0, none⟩) 1 1) 1 [.int .u16 ((numS l 2 u).1 : Int)] := ⟨rfl, _, _, rfl, .inr ⟨lb, 0, rfl, Rd_block ba⟩⟩
    
    refine eff_append_slN (m := 1) (news := [.int .u16 ((numS l 2 u).1 : Int)]) T.slT_39 rfl rfl D5.i hsl (fun w hw => by simp at hw; subst hw; rfl) (by first | omega | (simp only; omega)) (by first | omega | (simp only; omega)) D5.x.size ?_
    intro v6 z6 own6 f6
    have D6 := D5.appI f6 (is' := xs ++ [(numS l 2 u).1]) (Own_cast own6 (by simp) (by simp [natV]))
    obtain ⟨a6, c6, rfl, _⟩ := own6.slN.2
    have k76 : cellAt z6 ⟨cb, 6, none⟩ = some w := by rw [D6.cell]; rfl
    simp (disch := first | omega | assumption) only [C.ref3_ReadClass_gos, vs, Go.Vc.vk, T.ts, ↓reduceIte, Nat.reduceEqDiff, reduceCtorEq, Nat.reduceLeDiff, Nat.reducePow, Int.reducePow, Int.reduceToNat, Nat.reduceAdd]
    refine eff_store1_z T.zr_39 rfl rfl rfl rfl rfl k76 (D6.frozen _) ?_
    have D7 := D6.set 6 (.slice a6 (xs.length + 1) c6)
    simp (disch := first | omega | assumption) only [C.ref3_ReadClass_gos, vs, Go.Vc.vk, T.ts, ↓reduceIte, Nat.reduceEqDiff, reduceCtorEq, Nat.reduceLeDiff, Nat.reducePow, Int.reducePow, Int.reduceToNat, Nat.reduceAdd, hw]
    exact ⟨_, by omega, j, xs ++ [(numS l 2 u).1], _, _, rfl, by simp; omega, rfl, D7, hL⟩
  have hR2 : R = (xs, u) := by
    rw [← hL]
    rcases Nat.eq_zero_or_pos m with h0 | h0
    · subst h0; rfl
    · exact loopS_bad (fun he => hgo ⟨h0, he⟩)
  rw [hR2] at hX'
  refine Or.elim (Classical.em (m = 0)) (fun h0 => ?ccG) (fun h0 => ?cdG)
  case' ccG =>
    have hz : ¬ (0 : Int) < (m : Int) := by omega
    simp (disch := first | omega | assumption) only [C.ref3_ReadClass_gos, vs, Go.Vc.vk, T.ts, ↓reduceIte, Nat.reduceEqDiff, reduceCtorEq, Nat.reduceLeDiff, Nat.reducePow, Int.reducePow, Int.reduceToNat, Nat.reduceAdd, hz]
  case' cdG =>
    have hz : (0 : Int) < (m : Int) := by omega
    have he' : ¬ (u.e : Int) = 0 := fun he => hgo ⟨by omega, by omega⟩
    simp (disch := first | omega | assumption) only [C.ref3_ReadClass_gos, vs, Go.Vc.vk, T.ts, ↓reduceIte, Nat.reduceEqDiff, reduceCtorEq, Nat.reduceLeDiff, Nat.reducePow, Int.reducePow, Int.reduceToNat, Nat.reduceAdd, hz, k0, c2, eq_false he']
  all_goals
    exact rread_t4 hl Dx hX'
end
end Go.Proofs.Ytohkbpnblkkdgaa
