/- Reading one constant. -/
import Derived.Test.YtohkbpnblkkdgaaR2
import Derived.Test.YtohkbpnblkkdgaaCy
import Derived.Test.YtohkbpnblkkdgaaPc
import Derived.Test.YtohkbpnblkkdgaaA1
import Derived.Test.YtohkbpnblkkdgaaB0
namespace Go.Proofs.Ytohkbpnblkkdgaa
open Go.Vc
set_option maxRecDepth 100000
set_option linter.unusedSimpArgs false
set_option linter.unusedVariables false

def oneR (l : List UInt8) (s : RS) : Cst × RS :=
  let a := numS l 1 s
  if a.1 = 1 then
    let b := numS l 2 a.2
    let c := takeS l b.1 b.2
    (⟨1, c.1, 0, 0, 0⟩, if unitsS c.1 = none then failS 6 s.p c.2 else c.2)
  else if a.1 = 3 ∨ a.1 = 4 then
    let b := numS l 4 a.2
    (⟨a.1, [], b.1, 0, 0⟩, b.2)
  else if a.1 = 5 ∨ a.1 = 6 then
    let b := numS l 4 a.2
    let c := numS l 4 b.2
    (⟨a.1, [], b.1 * 4294967296 + c.1, 0, 0⟩, c.2)
  else if a.1 = 7 ∨ a.1 = 8 then
    let b := numS l 2 a.2
    (⟨a.1, [], 0, b.1, 0⟩, b.2)
  else if a.1 = 9 ∨ a.1 = 10 ∨ a.1 = 11 ∨ a.1 = 12 then
    let b := numS l 2 a.2
    let c := numS l 2 b.2
    (⟨a.1, [], 0, b.1, c.1⟩, c.2)
  else (⟨a.1, [], 0, 0, 0⟩, failS 5 s.p a.2)

theorem or_pair32 {a b : Nat} (ha : a < 4294967296) (hb : b < 4294967296) : bitsV .or .u64 ((a : Int) * 4294967296) (b : Int) = ((a * 4294967296 + b : Nat) : Int) := by
  have h := bits_or (k := .u64) rfl (a * 4294967296) b (by rw [bits_64]; omega) (by rw [bits_64]; omega)
  have h2 : a * 4294967296 ||| b = a * 4294967296 + b := or_add 32 a b (by omega)
  rw [h2] at h
  rw [← h, Int.natCast_mul]; rfl

section
variable {h : Heap} {g : Nat} {l : List UInt8} {s : RS}
theorem Rdr.set (H : Rdr h g l s) {b o : Nat} {v : Value} (hne : g ≠ b) : Rdr (setAt h ⟨b, o, none⟩ v) g l s := ⟨by rw [setAt_ne hne]; exact H.1, H.2⟩
theorem set_blk {b c o : Nat} {v : Value} {x : Obj} (hb : h[c]? = some x) (hne : c ≠ b) : (setAt h ⟨b, o, none⟩ v)[c]? = some x := by rw [setAt_ne hne]; exact hb
set_option maxHeartbeats 4000000 in
theorem one_any (hl : l.length ≤ 1073741824) (H : Rdr h g l s) : HCalls Try.prog 78 #[.pointer (some ⟨g, 0, none⟩)] h fun v h' => Fr (fun k => k = g) h h' ∧ Rdr h' g l (oneR l s).2 ∧ v = .agg (oneR l s).1.cells.toArray := by
  refine C.Reader_one_calls (args := [.pointer (some ⟨g, 0, none⟩)]) rfl ?_
  have hg := H.lt
  simp (disch := first | omega | assumption) only [C.Reader_one_gos, T.tv, ↓reduceIte, Nat.reduceEqDiff, reduceCtorEq, Nat.reduceLeDiff, Nat.reducePow, Int.reducePow, Int.reduceToNat, Nat.reduceAdd]
  refine eff_alloc_z T.zr_76 ?_
  have H0 : Rdr (h.push (.cells #[.int .u8 0, str [], .int .u64 0, .int .u16 0, .int .u16 0] 76 (0, 0))) g l s := H.fr (Ext.push _ _) id
  have z0 : (h.push (.cells #[.int .u8 0, str [], .int .u64 0, .int .u16 0, .int .u16 0] 76 (0, 0)))[h.size]? = some (.cells #[.int .u8 0, str [], .int .u64 0, .int .u16 0, .int .u16 0] 76 (0, 0)) := by simp
  have f0 : Fr (fun k => k = g) h (h.push (.cells #[.int .u8 0, str [], .int .u64 0, .int .u16 0, .int .u16 0] 76 (0, 0))) := Fr.push _ _ _
  have hs0 : h.size < (h.push (.cells #[.int .u8 0, str [], .int .u64 0, .int .u16 0, .int .u16 0] 76 (0, 0))).size := by simp
  generalize h.push (.cells #[.int .u8 0, str [], .int .u64 0, .int .u16 0, .int .u16 0] 76 (0, 0)) = h0 at *
  have c1 := H0.c1
  simp (disch := first | omega | assumption) only [C.Reader_one_gos, T.tv, ↓reduceIte, Nat.reduceEqDiff, reduceCtorEq, Nat.reduceLeDiff, Nat.reducePow, Int.reducePow, Int.reduceToNat, Nat.reduceAdd, c1]
  refine eff_callF rfl ((num_any 1 hl (by omega) H0).mono ?_)
  rintro v1 h1 ⟨f1, r1, rfl⟩
  have ht : (numS l 1 s).1 < 256 := numS_lt
  have hne : h.size ≠ g := by omega
  have z1 := Fr_blk f1 z0 hne
  have hs1 := f1.size
  have g1 : Fr (fun k => k = g) h h1 := Fr.trans f0 f1 (fun _ _ h => h) (fun _ _ h => h)
  unfold oneR
  generalize numS l 1 s = a at *
  obtain ⟨t, s1⟩ := a
  simp only at ht r1 ⊢
  have hw : IntKind.u8.wrap (t : Int) = (t : Int) := wrap_u8 (by omega) (by omega)
  simp (disch := first | omega | assumption) only [C.Reader_one_gos, T.tv, ↓reduceIte, Nat.reduceEqDiff, reduceCtorEq, Nat.reduceLeDiff, Nat.reducePow, Int.reducePow, Int.reduceToNat, Nat.reduceAdd, hw]
  refine eff_alloc_z T.zr_76 ?_
  simp (disch := first | omega | assumption) only [C.Reader_one_gos, T.tv, ↓reduceIte, Nat.reduceEqDiff, reduceCtorEq, Nat.reduceLeDiff, Nat.reducePow, Int.reducePow, Int.reduceToNat, Nat.reduceAdd]
  refine eff_store_new_z T.zr_76 rfl rfl rfl (by simp [Value.cells, oneCell, str]) rfl ?_
  intro h3 x3 hlt3 hrd3 b3
  change h3[h1.size]? = some (.cells #[.int .u8 (t : Int), str [], .int .u64 0, .int .u16 0, .int .u16 0] 76 (0, 0)) at b3
  have z3 := Fr_blk x3 z1 id
  have r3 := r1.fr x3 id
  have g3 : Fr (fun k => k = g) h h3 := Fr.trans g1 x3 (fun _ _ h => h) (fun _ _ h => h.elim)
  have hbg : h1.size ≠ g := by omega
  have hbz : h1.size ≠ h.size := by omega
  have hqh : h.size < h1.size := by omega
  have c0 : cellAt h3 ⟨h1.size, 0, none⟩ = some (.int .u8 (t : Int)) := hrd3 0 _ rfl
  clear hrd3 z0 z1 f0 f1 H0 x3
  generalize h1.size = q at *
  clear hs0 hs1 g1 r1 c1 h0 h1
  by_cases t1 : t = 1
  · subst t1
    rw [show ((1 : Nat) : Int) = 1 from rfl] at c0 b3
    simp only [Nat.reduceEqDiff, if_true, if_false, or_true, true_or, or_false, false_or]
    simp (disch := first | omega | assumption) only [C.Reader_one_gos, T.tv, ↓reduceIte, Nat.reduceEqDiff, reduceCtorEq, Nat.reduceLeDiff, Nat.reducePow, Int.reducePow, Int.reduceToNat, Nat.reduceAdd, c0, Int.reduceEq, decide_true, decide_false]
    refine eff_callF rfl ((num_any 2 hl (by omega) r3).mono ?_)
    rintro v4 h4 ⟨w4, r4, rfl⟩
    have b4 := Fr_blk w4 b3 hbg
    have z4 := Fr_blk w4 z3 hne
    have f4 : Fr (fun k => k = g) h h4 := Fr.trans g3 w4 (fun _ _ h => h) (fun _ _ h => h)
    have hn : (numS l 2 s1).1 < 65536 := numS_lt
    generalize numS l 2 s1 = x at *
    obtain ⟨n, s2⟩ := x
    simp only at hn r4 ⊢
    simp (disch := first | omega | assumption) only [C.Reader_one_gos, T.tv, ↓reduceIte, Nat.reduceEqDiff, reduceCtorEq, Nat.reduceLeDiff, Nat.reducePow, Int.reducePow, Int.reduceToNat, Nat.reduceAdd]
    refine eff_callF rfl ((take_any n hl (by omega) r4).mono ?_)
    rintro v5 h5 ⟨w5, r5, rfl⟩
    have b5 := Fr_blk w5 b4 hbg
    have z5 := Fr_blk w5 z4 hne
    have f5 : Fr (fun k => k = g) h h5 := Fr.trans f4 w5 (fun _ _ h => h) (fun _ _ h => h)
    have htl : (takeS l n s2).1.length ≤ n := takeS_len
    generalize takeS l n s2 = x at *
    obtain ⟨tx, s3⟩ := x
    simp only at r5 htl ⊢
    simp (disch := first | omega | assumption) only [C.Reader_one_gos, T.tv, ↓reduceIte, Nat.reduceEqDiff, reduceCtorEq, Nat.reduceLeDiff, Nat.reducePow, Int.reducePow, Int.reduceToNat, Nat.reduceAdd]
    refine eff_store1_z T.zr_9 rfl rfl rfl rfl rfl (u := str []) (by rw [cellAt_of b5]; rfl) (by simp [frozenAt, b5]) ?_
    have b6 := setAt_get (o := 1) b5 (str tx)
    have z6 := set_blk (b := q) (o := 1) (v := str tx) z5 (Ne.symm hbz)
    have r6 := Rdr.set (b := q) (o := 1) (v := str tx) r5 (Ne.symm hbg)
    have f6 : Fr (fun k => k = g) h _ := Fr.trans f5 (Fr.set (S := fun k => k = q) h5 ⟨q, 1, none⟩ (str tx) fun _ => rfl) (fun _ _ h => h) (fun k hk hS => absurd hS (by have := hqh; omega))
    change (setAt h5 ⟨q, 1, none⟩ (str tx))[q]? = some (.cells #[.int .u8 1, str tx, .int .u64 0, .int .u16 0, .int .u16 0] 76 (0, 0)) at b6
    generalize setAt h5 ⟨q, 1, none⟩ (str tx) = k6 at *
    have d1 : cellAt k6 ⟨q, 1, none⟩ = some (str tx) := by rw [cellAt_of b6]; rfl
    simp (disch := first | omega | assumption) only [C.Reader_one_gos, T.tv, ↓reduceIte, Nat.reduceEqDiff, reduceCtorEq, Nat.reduceLeDiff, Nat.reducePow, Int.reducePow, Int.reduceToNat, Nat.reduceAdd, d1]
    refine eff_callF rfl ((units_any tx k6 (by omega)).mono ?_)
    rintro v7 h7 ⟨x7, u7⟩
    have b7 := Fr_blk x7 b6 id
    have z7 := Fr_blk x7 z6 id
    have r7 := r6.fr x7 id
    have f7 : Fr (fun k => k = g) h h7 := Fr.trans f6 x7 (fun _ _ h => h) (fun _ _ h => h.elim)
    cases hu : unitsS tx with
    | none =>
      rw [hu] at u7
      simp only [URes] at u7
      subst u7
      simp (disch := first | omega | assumption) only [C.Reader_one_gos, T.tv, ↓reduceIte, Nat.reduceEqDiff, reduceCtorEq, Nat.reduceLeDiff, Nat.reducePow, Int.reducePow, Int.reduceToNat, Nat.reduceAdd]
      refine eff_callF rfl ((fail_any 6 s.p r7).mono ?_)
      rintro v8 h8 ⟨w8, r8⟩
      have b8 := Fr_blk w8 b7 hbg
      have z8 := Fr_blk w8 z7 hne
      have f8 : Fr (fun k => k = g) h h8 := Fr.trans f7 w8 (fun _ _ h => h) (fun _ _ h => h)
      simp (disch := first | omega | assumption) only [C.Reader_one_gos, T.tv, ↓reduceIte, Nat.reduceEqDiff, reduceCtorEq, Nat.reduceLeDiff, Nat.reducePow, Int.reducePow, Int.reduceToNat, Nat.reduceAdd]
      have hld := ld_agg T.ag_76 (Rd_block (vs := [.int .u8 1, str tx, .int .u64 0, .int .u16 0, .int .u16 0]) b8) rfl
      simp (disch := first | omega | assumption) only [C.Reader_one_gos, T.tv, ↓reduceIte, Nat.reduceEqDiff, reduceCtorEq, Nat.reduceLeDiff, Nat.reducePow, Int.reducePow, Int.reduceToNat, Nat.reduceAdd, hld]
      obtain ⟨zi, zz, zq, _, _, zsz⟩ := zr_spec T.zr_76
      have zsz' : zi.size = 5 := zsz
      refine eff_storeN zq (cur := #[.int .u8 0, str [], .int .u64 0, .int .u16 0, .int .u16 0]) (e := 76) (fz := (0, 0)) rfl rfl (by rw [zsz']; rfl) (by simp [Value.cells, oneCell, str]) z8 (by rw [zsz']; simp) (by intro j _ _; simp) ?_
      rw [zsz']
      intro h9 f9 _ b9
      change h9[h.size]? = some (.cells #[.int .u8 1, str tx, .int .u64 0, .int .u16 0, .int .u16 0] 76 (0, 0)) at b9
      have hld9 := ld_agg T.ag_76 (Rd_block (vs := [.int .u8 1, str tx, .int .u64 0, .int .u16 0, .int .u16 0]) b9) rfl
      simp (disch := first | omega | assumption) only [C.Reader_one_gos, T.tv, ↓reduceIte, Nat.reduceEqDiff, reduceCtorEq, Nat.reduceLeDiff, Nat.reducePow, Int.reducePow, Int.reduceToNat, Nat.reduceAdd, hld9]
      exact ⟨Fr.trans f8 f9 (fun _ _ h => h) (fun k hk hS => absurd hS (by omega)), r8.fr f9 (by omega), rfl⟩
    | some us =>
      rw [hu] at u7
      simp only [URes] at u7
      obtain ⟨sv, rfl, _⟩ := u7
      simp (disch := first | omega | assumption) only [C.Reader_one_gos, T.tv, ↓reduceIte, Nat.reduceEqDiff, reduceCtorEq, Nat.reduceLeDiff, Nat.reducePow, Int.reducePow, Int.reduceToNat, Nat.reduceAdd]
      have hld := ld_agg T.ag_76 (Rd_block (vs := [.int .u8 1, str tx, .int .u64 0, .int .u16 0, .int .u16 0]) b7) rfl
      simp (disch := first | omega | assumption) only [C.Reader_one_gos, T.tv, ↓reduceIte, Nat.reduceEqDiff, reduceCtorEq, Nat.reduceLeDiff, Nat.reducePow, Int.reducePow, Int.reduceToNat, Nat.reduceAdd, hld]
      obtain ⟨zi, zz, zq, _, _, zsz⟩ := zr_spec T.zr_76
      have zsz' : zi.size = 5 := zsz
      refine eff_storeN zq (cur := #[.int .u8 0, str [], .int .u64 0, .int .u16 0, .int .u16 0]) (e := 76) (fz := (0, 0)) rfl rfl (by rw [zsz']; rfl) (by simp [Value.cells, oneCell, str]) z7 (by rw [zsz']; simp) (by intro j _ _; simp) ?_
      rw [zsz']
      intro h9 f9 _ b9
      change h9[h.size]? = some (.cells #[.int .u8 1, str tx, .int .u64 0, .int .u16 0, .int .u16 0] 76 (0, 0)) at b9
      have hld9 := ld_agg T.ag_76 (Rd_block (vs := [.int .u8 1, str tx, .int .u64 0, .int .u16 0, .int .u16 0]) b9) rfl
      simp (disch := first | omega | assumption) only [C.Reader_one_gos, T.tv, ↓reduceIte, Nat.reduceEqDiff, reduceCtorEq, Nat.reduceLeDiff, Nat.reducePow, Int.reducePow, Int.reduceToNat, Nat.reduceAdd, hld9]
      exact ⟨Fr.trans f7 f9 (fun _ _ h => h) (fun k hk hS => absurd hS (by omega)), r7.fr f9 (by omega), rfl⟩
  by_cases t3 : t = 3
  · subst t3
    rw [show ((3 : Nat) : Int) = 3 from rfl] at c0 b3
    simp only [Nat.reduceEqDiff, if_true, if_false, or_true, true_or, or_false, false_or]
    simp (disch := first | omega | assumption) only [C.Reader_one_gos, T.tv, ↓reduceIte, Nat.reduceEqDiff, reduceCtorEq, Nat.reduceLeDiff, Nat.reducePow, Int.reducePow, Int.reduceToNat, Nat.reduceAdd, c0, Int.reduceEq, decide_true, decide_false]
    refine eff_callF rfl ((num_any 4 hl (by omega) r3).mono ?_)
    rintro v4 h4 ⟨w4, r4, rfl⟩
    have b4 := Fr_blk w4 b3 hbg
    have z4 := Fr_blk w4 z3 hne
    have f4 : Fr (fun k => k = g) h h4 := Fr.trans g3 w4 (fun _ _ h => h) (fun _ _ h => h)
    have hn : (numS l 4 s1).1 < 4294967296 := numS_lt
    generalize numS l 4 s1 = x at *
    obtain ⟨n, s2⟩ := x
    simp only at hn r4 ⊢
    have hw4 : IntKind.u64.wrap (n : Int) = (n : Int) := wrap_u64 (by omega) (by omega)
    simp (disch := first | omega | assumption) only [C.Reader_one_gos, T.tv, ↓reduceIte, Nat.reduceEqDiff, reduceCtorEq, Nat.reduceLeDiff, Nat.reducePow, Int.reducePow, Int.reduceToNat, Nat.reduceAdd, hw4]
    refine eff_store1_z T.zr_74 rfl rfl rfl rfl rfl (u := .int .u64 0) (by rw [cellAt_of b4]; rfl) (by simp [frozenAt, b4]) ?_
    have b6 := setAt_get (o := 2) b4 (.int .u64 (n : Int))
    have z6 := set_blk (b := q) (o := 2) (v := .int .u64 (n : Int)) z4 (Ne.symm hbz)
    have r6 := Rdr.set (b := q) (o := 2) (v := .int .u64 (n : Int)) r4 (Ne.symm hbg)
    have f6 : Fr (fun k => k = g) h _ := Fr.trans f4 (Fr.set (S := fun k => k = q) h4 ⟨q, 2, none⟩ (.int .u64 (n : Int)) fun _ => rfl) (fun _ _ h => h) (fun k hk hS => absurd hS (by have := hqh; omega))
    change (setAt h4 ⟨q, 2, none⟩ (.int .u64 (n : Int)))[q]? = some (.cells #[.int .u8 3, str [], .int .u64 (n : Int), .int .u16 0, .int .u16 0] 76 (0, 0)) at b6
    generalize setAt h4 ⟨q, 2, none⟩ (.int .u64 (n : Int)) = k6 at *
    simp (disch := first | omega | assumption) only [C.Reader_one_gos, T.tv, ↓reduceIte, Nat.reduceEqDiff, reduceCtorEq, Nat.reduceLeDiff, Nat.reducePow, Int.reducePow, Int.reduceToNat, Nat.reduceAdd]
    have hld := ld_agg T.ag_76 (Rd_block (vs := [.int .u8 3, str [], .int .u64 (n : Int), .int .u16 0, .int .u16 0]) b6) rfl
    simp (disch := first | omega | assumption) only [C.Reader_one_gos, T.tv, ↓reduceIte, Nat.reduceEqDiff, reduceCtorEq, Nat.reduceLeDiff, Nat.reducePow, Int.reducePow, Int.reduceToNat, Nat.reduceAdd, hld]
    obtain ⟨zi, zz, zq, _, _, zsz⟩ := zr_spec T.zr_76
    have zsz' : zi.size = 5 := zsz
    refine eff_storeN zq (cur := #[.int .u8 0, str [], .int .u64 0, .int .u16 0, .int .u16 0]) (e := 76) (fz := (0, 0)) rfl rfl (by rw [zsz']; rfl) (by simp [Value.cells, oneCell, str]) z6 (by rw [zsz']; simp) (by intro j _ _; simp) ?_
    rw [zsz']
    intro h9 f9 _ b9
    change h9[h.size]? = some (.cells #[.int .u8 3, str [], .int .u64 (n : Int), .int .u16 0, .int .u16 0] 76 (0, 0)) at b9
    have hld9 := ld_agg T.ag_76 (Rd_block (vs := [.int .u8 3, str [], .int .u64 (n : Int), .int .u16 0, .int .u16 0]) b9) rfl
    simp (disch := first | omega | assumption) only [C.Reader_one_gos, T.tv, ↓reduceIte, Nat.reduceEqDiff, reduceCtorEq, Nat.reduceLeDiff, Nat.reducePow, Int.reducePow, Int.reduceToNat, Nat.reduceAdd, hld9]
    exact ⟨Fr.trans f6 f9 (fun _ _ h => h) (fun k hk hS => absurd hS (by omega)), r6.fr f9 (by omega), rfl⟩
  by_cases t4 : t = 4
  · subst t4
    rw [show ((4 : Nat) : Int) = 4 from rfl] at c0 b3
    simp only [Nat.reduceEqDiff, if_true, if_false, or_true, true_or, or_false, false_or]
    simp (disch := first | omega | assumption) only [C.Reader_one_gos, T.tv, ↓reduceIte, Nat.reduceEqDiff, reduceCtorEq, Nat.reduceLeDiff, Nat.reducePow, Int.reducePow, Int.reduceToNat, Nat.reduceAdd, c0, Int.reduceEq, decide_true, decide_false]
    refine eff_callF rfl ((num_any 4 hl (by omega) r3).mono ?_)
    rintro v4 h4 ⟨w4, r4, rfl⟩
    have b4 := Fr_blk w4 b3 hbg
    have z4 := Fr_blk w4 z3 hne
    have f4 : Fr (fun k => k = g) h h4 := Fr.trans g3 w4 (fun _ _ h => h) (fun _ _ h => h)
    have hn : (numS l 4 s1).1 < 4294967296 := numS_lt
    generalize numS l 4 s1 = x at *
    obtain ⟨n, s2⟩ := x
    simp only at hn r4 ⊢
    have hw4 : IntKind.u64.wrap (n : Int) = (n : Int) := wrap_u64 (by omega) (by omega)
    simp (disch := first | omega | assumption) only [C.Reader_one_gos, T.tv, ↓reduceIte, Nat.reduceEqDiff, reduceCtorEq, Nat.reduceLeDiff, Nat.reducePow, Int.reducePow, Int.reduceToNat, Nat.reduceAdd, hw4]
    refine eff_store1_z T.zr_74 rfl rfl rfl rfl rfl (u := .int .u64 0) (by rw [cellAt_of b4]; rfl) (by simp [frozenAt, b4]) ?_
    have b6 := setAt_get (o := 2) b4 (.int .u64 (n : Int))
    have z6 := set_blk (b := q) (o := 2) (v := .int .u64 (n : Int)) z4 (Ne.symm hbz)
    have r6 := Rdr.set (b := q) (o := 2) (v := .int .u64 (n : Int)) r4 (Ne.symm hbg)
    have f6 : Fr (fun k => k = g) h _ := Fr.trans f4 (Fr.set (S := fun k => k = q) h4 ⟨q, 2, none⟩ (.int .u64 (n : Int)) fun _ => rfl) (fun _ _ h => h) (fun k hk hS => absurd hS (by have := hqh; omega))
    change (setAt h4 ⟨q, 2, none⟩ (.int .u64 (n : Int)))[q]? = some (.cells #[.int .u8 4, str [], .int .u64 (n : Int), .int .u16 0, .int .u16 0] 76 (0, 0)) at b6
    generalize setAt h4 ⟨q, 2, none⟩ (.int .u64 (n : Int)) = k6 at *
    simp (disch := first | omega | assumption) only [C.Reader_one_gos, T.tv, ↓reduceIte, Nat.reduceEqDiff, reduceCtorEq, Nat.reduceLeDiff, Nat.reducePow, Int.reducePow, Int.reduceToNat, Nat.reduceAdd]
    have hld := ld_agg T.ag_76 (Rd_block (vs := [.int .u8 4, str [], .int .u64 (n : Int), .int .u16 0, .int .u16 0]) b6) rfl
    simp (disch := first | omega | assumption) only [C.Reader_one_gos, T.tv, ↓reduceIte, Nat.reduceEqDiff, reduceCtorEq, Nat.reduceLeDiff, Nat.reducePow, Int.reducePow, Int.reduceToNat, Nat.reduceAdd, hld]
    obtain ⟨zi, zz, zq, _, _, zsz⟩ := zr_spec T.zr_76
    have zsz' : zi.size = 5 := zsz
    refine eff_storeN zq (cur := #[.int .u8 0, str [], .int .u64 0, .int .u16 0, .int .u16 0]) (e := 76) (fz := (0, 0)) rfl rfl (by rw [zsz']; rfl) (by simp [Value.cells, oneCell, str]) z6 (by rw [zsz']; simp) (by intro j _ _; simp) ?_
    rw [zsz']
    intro h9 f9 _ b9
    change h9[h.size]? = some (.cells #[.int .u8 4, str [], .int .u64 (n : Int), .int .u16 0, .int .u16 0] 76 (0, 0)) at b9
    have hld9 := ld_agg T.ag_76 (Rd_block (vs := [.int .u8 4, str [], .int .u64 (n : Int), .int .u16 0, .int .u16 0]) b9) rfl
    simp (disch := first | omega | assumption) only [C.Reader_one_gos, T.tv, ↓reduceIte, Nat.reduceEqDiff, reduceCtorEq, Nat.reduceLeDiff, Nat.reducePow, Int.reducePow, Int.reduceToNat, Nat.reduceAdd, hld9]
    exact ⟨Fr.trans f6 f9 (fun _ _ h => h) (fun k hk hS => absurd hS (by omega)), r6.fr f9 (by omega), rfl⟩
  by_cases t5 : t = 5
  · subst t5
    rw [show ((5 : Nat) : Int) = 5 from rfl] at c0 b3
    simp only [Nat.reduceEqDiff, if_true, if_false, or_true, true_or, or_false, false_or]
    simp (disch := first | omega | assumption) only [C.Reader_one_gos, T.tv, ↓reduceIte, Nat.reduceEqDiff, reduceCtorEq, Nat.reduceLeDiff, Nat.reducePow, Int.reducePow, Int.reduceToNat, Nat.reduceAdd, c0, Int.reduceEq, decide_true, decide_false]
    refine eff_callF rfl ((num_any 4 hl (by omega) r3).mono ?_)
    rintro v4 h4 ⟨w4, r4, rfl⟩
    have b4 := Fr_blk w4 b3 hbg
    have z4 := Fr_blk w4 z3 hne
    have f4 : Fr (fun k => k = g) h h4 := Fr.trans g3 w4 (fun _ _ h => h) (fun _ _ h => h)
    have hn : (numS l 4 s1).1 < 4294967296 := numS_lt
    generalize numS l 4 s1 = x at *
    obtain ⟨n, s2⟩ := x
    simp only at hn r4 ⊢
    have hw4 : IntKind.u64.wrap (n : Int) = (n : Int) := wrap_u64 (by omega) (by omega)
    have hw5 : IntKind.u64.wrap ((n : Int) * 4294967296) = (n : Int) * 4294967296 := wrap_u64 (by omega) (by omega)
    simp (disch := first | omega | assumption) only [C.Reader_one_gos, T.tv, ↓reduceIte, Nat.reduceEqDiff, reduceCtorEq, Nat.reduceLeDiff, Nat.reducePow, Int.reducePow, Int.reduceToNat, Nat.reduceAdd, hw4, hw5]
    refine eff_callF rfl ((num_any 4 hl (by omega) r4).mono ?_)
    rintro v5 h5 ⟨w5, r5, rfl⟩
    have b5 := Fr_blk w5 b4 hbg
    have z5 := Fr_blk w5 z4 hne
    have f5 : Fr (fun k => k = g) h h5 := Fr.trans f4 w5 (fun _ _ h => h) (fun _ _ h => h)
    have hm : (numS l 4 s2).1 < 4294967296 := numS_lt
    generalize numS l 4 s2 = x at *
    obtain ⟨m, s3⟩ := x
    simp only at hm r5 ⊢
    have hw6 : IntKind.u64.wrap (m : Int) = (m : Int) := wrap_u64 (by omega) (by omega)
    have hor := or_pair32 hn hm
    simp (disch := first | omega | assumption) only [C.Reader_one_gos, T.tv, ↓reduceIte, Nat.reduceEqDiff, reduceCtorEq, Nat.reduceLeDiff, Nat.reducePow, Int.reducePow, Int.reduceToNat, Nat.reduceAdd, hw6, hor]
    refine eff_store1_z T.zr_74 rfl rfl rfl rfl rfl (u := .int .u64 0) (by rw [cellAt_of b5]; rfl) (by simp [frozenAt, b5]) ?_
    have b6 := setAt_get (o := 2) b5 (.int .u64 ((n * 4294967296 + m : Nat) : Int))
    have z6 := set_blk (b := q) (o := 2) (v := .int .u64 ((n * 4294967296 + m : Nat) : Int)) z5 (Ne.symm hbz)
    have r6 := Rdr.set (b := q) (o := 2) (v := .int .u64 ((n * 4294967296 + m : Nat) : Int)) r5 (Ne.symm hbg)
    have f6 : Fr (fun k => k = g) h _ := Fr.trans f5 (Fr.set (S := fun k => k = q) h5 ⟨q, 2, none⟩ (.int .u64 ((n * 4294967296 + m : Nat) : Int)) fun _ => rfl) (fun _ _ h => h) (fun k hk hS => absurd hS (by have := hqh; omega))
    change (setAt h5 ⟨q, 2, none⟩ (.int .u64 ((n * 4294967296 + m : Nat) : Int)))[q]? = some (.cells #[.int .u8 5, str [], .int .u64 ((n * 4294967296 + m : Nat) : Int), .int .u16 0, .int .u16 0] 76 (0, 0)) at b6
    generalize setAt h5 ⟨q, 2, none⟩ (.int .u64 ((n * 4294967296 + m : Nat) : Int)) = k6 at *
    simp (disch := first | omega | assumption) only [C.Reader_one_gos, T.tv, ↓reduceIte, Nat.reduceEqDiff, reduceCtorEq, Nat.reduceLeDiff, Nat.reducePow, Int.reducePow, Int.reduceToNat, Nat.reduceAdd]
    have hld := ld_agg T.ag_76 (Rd_block (vs := [.int .u8 5, str [], .int .u64 ((n * 4294967296 + m : Nat) : Int), .int .u16 0, .int .u16 0]) b6) rfl
    simp (disch := first | omega | assumption) only [C.Reader_one_gos, T.tv, ↓reduceIte, Nat.reduceEqDiff, reduceCtorEq, Nat.reduceLeDiff, Nat.reducePow, Int.reducePow, Int.reduceToNat, Nat.reduceAdd, hld]
    obtain ⟨zi, zz, zq, _, _, zsz⟩ := zr_spec T.zr_76
    have zsz' : zi.size = 5 := zsz
    refine eff_storeN zq (cur := #[.int .u8 0, str [], .int .u64 0, .int .u16 0, .int .u16 0]) (e := 76) (fz := (0, 0)) rfl rfl (by rw [zsz']; rfl) (by simp [Value.cells, oneCell, str]) z6 (by rw [zsz']; simp) (by intro j _ _; simp) ?_
    rw [zsz']
    intro h9 f9 _ b9
    change h9[h.size]? = some (.cells #[.int .u8 5, str [], .int .u64 ((n * 4294967296 + m : Nat) : Int), .int .u16 0, .int .u16 0] 76 (0, 0)) at b9
    have hld9 := ld_agg T.ag_76 (Rd_block (vs := [.int .u8 5, str [], .int .u64 ((n * 4294967296 + m : Nat) : Int), .int .u16 0, .int .u16 0]) b9) rfl
    simp (disch := first | omega | assumption) only [C.Reader_one_gos, T.tv, ↓reduceIte, Nat.reduceEqDiff, reduceCtorEq, Nat.reduceLeDiff, Nat.reducePow, Int.reducePow, Int.reduceToNat, Nat.reduceAdd, hld9]
    exact ⟨Fr.trans f6 f9 (fun _ _ h => h) (fun k hk hS => absurd hS (by omega)), r6.fr f9 (by omega), rfl⟩
  by_cases t6 : t = 6
  · subst t6
    rw [show ((6 : Nat) : Int) = 6 from rfl] at c0 b3
    simp only [Nat.reduceEqDiff, if_true, if_false, or_true, true_or, or_false, false_or]
    simp (disch := first | omega | assumption) only [C.Reader_one_gos, T.tv, ↓reduceIte, Nat.reduceEqDiff, reduceCtorEq, Nat.reduceLeDiff, Nat.reducePow, Int.reducePow, Int.reduceToNat, Nat.reduceAdd, c0, Int.reduceEq, decide_true, decide_false]
    refine eff_callF rfl ((num_any 4 hl (by omega) r3).mono ?_)
    rintro v4 h4 ⟨w4, r4, rfl⟩
    have b4 := Fr_blk w4 b3 hbg
    have z4 := Fr_blk w4 z3 hne
    have f4 : Fr (fun k => k = g) h h4 := Fr.trans g3 w4 (fun _ _ h => h) (fun _ _ h => h)
    have hn : (numS l 4 s1).1 < 4294967296 := numS_lt
    generalize numS l 4 s1 = x at *
    obtain ⟨n, s2⟩ := x
    simp only at hn r4 ⊢
    have hw4 : IntKind.u64.wrap (n : Int) = (n : Int) := wrap_u64 (by omega) (by omega)
    have hw5 : IntKind.u64.wrap ((n : Int) * 4294967296) = (n : Int) * 4294967296 := wrap_u64 (by omega) (by omega)
    simp (disch := first | omega | assumption) only [C.Reader_one_gos, T.tv, ↓reduceIte, Nat.reduceEqDiff, reduceCtorEq, Nat.reduceLeDiff, Nat.reducePow, Int.reducePow, Int.reduceToNat, Nat.reduceAdd, hw4, hw5]
    refine eff_callF rfl ((num_any 4 hl (by omega) r4).mono ?_)
    rintro v5 h5 ⟨w5, r5, rfl⟩
    have b5 := Fr_blk w5 b4 hbg
    have z5 := Fr_blk w5 z4 hne
    have f5 : Fr (fun k => k = g) h h5 := Fr.trans f4 w5 (fun _ _ h => h) (fun _ _ h => h)
    have hm : (numS l 4 s2).1 < 4294967296 := numS_lt
    generalize numS l 4 s2 = x at *
    obtain ⟨m, s3⟩ := x
    simp only at hm r5 ⊢
    have hw6 : IntKind.u64.wrap (m : Int) = (m : Int) := wrap_u64 (by omega) (by omega)
    have hor := or_pair32 hn hm
    simp (disch := first | omega | assumption) only [C.Reader_one_gos, T.tv, ↓reduceIte, Nat.reduceEqDiff, reduceCtorEq, Nat.reduceLeDiff, Nat.reducePow, Int.reducePow, Int.reduceToNat, Nat.reduceAdd, hw6, hor]
    refine eff_store1_z T.zr_74 rfl rfl rfl rfl rfl (u := .int .u64 0) (by rw [cellAt_of b5]; rfl) (by simp [frozenAt, b5]) ?_
    have b6 := setAt_get (o := 2) b5 (.int .u64 ((n * 4294967296 + m : Nat) : Int))
    have z6 := set_blk (b := q) (o := 2) (v := .int .u64 ((n * 4294967296 + m : Nat) : Int)) z5 (Ne.symm hbz)
    have r6 := Rdr.set (b := q) (o := 2) (v := .int .u64 ((n * 4294967296 + m : Nat) : Int)) r5 (Ne.symm hbg)
    have f6 : Fr (fun k => k = g) h _ := Fr.trans f5 (Fr.set (S := fun k => k = q) h5 ⟨q, 2, none⟩ (.int .u64 ((n * 4294967296 + m : Nat) : Int)) fun _ => rfl) (fun _ _ h => h) (fun k hk hS => absurd hS (by have := hqh; omega))
    change (setAt h5 ⟨q, 2, none⟩ (.int .u64 ((n * 4294967296 + m : Nat) : Int)))[q]? = some (.cells #[.int .u8 6, str [], .int .u64 ((n * 4294967296 + m : Nat) : Int), .int .u16 0, .int .u16 0] 76 (0, 0)) at b6
    generalize setAt h5 ⟨q, 2, none⟩ (.int .u64 ((n * 4294967296 + m : Nat) : Int)) = k6 at *
    simp (disch := first | omega | assumption) only [C.Reader_one_gos, T.tv, ↓reduceIte, Nat.reduceEqDiff, reduceCtorEq, Nat.reduceLeDiff, Nat.reducePow, Int.reducePow, Int.reduceToNat, Nat.reduceAdd]
    have hld := ld_agg T.ag_76 (Rd_block (vs := [.int .u8 6, str [], .int .u64 ((n * 4294967296 + m : Nat) : Int), .int .u16 0, .int .u16 0]) b6) rfl
    simp (disch := first | omega | assumption) only [C.Reader_one_gos, T.tv, ↓reduceIte, Nat.reduceEqDiff, reduceCtorEq, Nat.reduceLeDiff, Nat.reducePow, Int.reducePow, Int.reduceToNat, Nat.reduceAdd, hld]
    obtain ⟨zi, zz, zq, _, _, zsz⟩ := zr_spec T.zr_76
    have zsz' : zi.size = 5 := zsz
    refine eff_storeN zq (cur := #[.int .u8 0, str [], .int .u64 0, .int .u16 0, .int .u16 0]) (e := 76) (fz := (0, 0)) rfl rfl (by rw [zsz']; rfl) (by simp [Value.cells, oneCell, str]) z6 (by rw [zsz']; simp) (by intro j _ _; simp) ?_
    rw [zsz']
    intro h9 f9 _ b9
    change h9[h.size]? = some (.cells #[.int .u8 6, str [], .int .u64 ((n * 4294967296 + m : Nat) : Int), .int .u16 0, .int .u16 0] 76 (0, 0)) at b9
    have hld9 := ld_agg T.ag_76 (Rd_block (vs := [.int .u8 6, str [], .int .u64 ((n * 4294967296 + m : Nat) : Int), .int .u16 0, .int .u16 0]) b9) rfl
    simp (disch := first | omega | assumption) only [C.Reader_one_gos, T.tv, ↓reduceIte, Nat.reduceEqDiff, reduceCtorEq, Nat.reduceLeDiff, Nat.reducePow, Int.reducePow, Int.reduceToNat, Nat.reduceAdd, hld9]
    exact ⟨Fr.trans f6 f9 (fun _ _ h => h) (fun k hk hS => absurd hS (by omega)), r6.fr f9 (by omega), rfl⟩
  by_cases t7 : t = 7
  · subst t7
    rw [show ((7 : Nat) : Int) = 7 from rfl] at c0 b3
    simp only [Nat.reduceEqDiff, if_true, if_false, or_true, true_or, or_false, false_or]
    simp (disch := first | omega | assumption) only [C.Reader_one_gos, T.tv, ↓reduceIte, Nat.reduceEqDiff, reduceCtorEq, Nat.reduceLeDiff, Nat.reducePow, Int.reducePow, Int.reduceToNat, Nat.reduceAdd, c0, Int.reduceEq, decide_true, decide_false]
    refine eff_callF rfl ((index_any hl r3).mono ?_)
    rintro v4 h4 ⟨w4, r4, rfl⟩
    have b4 := Fr_blk w4 b3 hbg
    have z4 := Fr_blk w4 z3 hne
    have f4 : Fr (fun k => k = g) h h4 := Fr.trans g3 w4 (fun _ _ h => h) (fun _ _ h => h)
    generalize numS l 2 s1 = x at *
    obtain ⟨n, s2⟩ := x
    simp only at r4 ⊢
    simp (disch := first | omega | assumption) only [C.Reader_one_gos, T.tv, ↓reduceIte, Nat.reduceEqDiff, reduceCtorEq, Nat.reduceLeDiff, Nat.reducePow, Int.reducePow, Int.reduceToNat, Nat.reduceAdd]
    refine eff_store1_z T.zr_38 rfl rfl rfl rfl rfl (u := .int .u16 0) (by rw [cellAt_of b4]; rfl) (by simp [frozenAt, b4]) ?_
    have b6 := setAt_get (o := 3) b4 (.int .u16 (n : Int))
    have z6 := set_blk (b := q) (o := 3) (v := .int .u16 (n : Int)) z4 (Ne.symm hbz)
    have r6 := Rdr.set (b := q) (o := 3) (v := .int .u16 (n : Int)) r4 (Ne.symm hbg)
    have f6 : Fr (fun k => k = g) h _ := Fr.trans f4 (Fr.set (S := fun k => k = q) h4 ⟨q, 3, none⟩ (.int .u16 (n : Int)) fun _ => rfl) (fun _ _ h => h) (fun k hk hS => absurd hS (by have := hqh; omega))
    change (setAt h4 ⟨q, 3, none⟩ (.int .u16 (n : Int)))[q]? = some (.cells #[.int .u8 7, str [], .int .u64 0, .int .u16 (n : Int), .int .u16 0] 76 (0, 0)) at b6
    generalize setAt h4 ⟨q, 3, none⟩ (.int .u16 (n : Int)) = k6 at *
    simp (disch := first | omega | assumption) only [C.Reader_one_gos, T.tv, ↓reduceIte, Nat.reduceEqDiff, reduceCtorEq, Nat.reduceLeDiff, Nat.reducePow, Int.reducePow, Int.reduceToNat, Nat.reduceAdd]
    have hld := ld_agg T.ag_76 (Rd_block (vs := [.int .u8 7, str [], .int .u64 0, .int .u16 (n : Int), .int .u16 0]) b6) rfl
    simp (disch := first | omega | assumption) only [C.Reader_one_gos, T.tv, ↓reduceIte, Nat.reduceEqDiff, reduceCtorEq, Nat.reduceLeDiff, Nat.reducePow, Int.reducePow, Int.reduceToNat, Nat.reduceAdd, hld]
    obtain ⟨zi, zz, zq, _, _, zsz⟩ := zr_spec T.zr_76
    have zsz' : zi.size = 5 := zsz
    refine eff_storeN zq (cur := #[.int .u8 0, str [], .int .u64 0, .int .u16 0, .int .u16 0]) (e := 76) (fz := (0, 0)) rfl rfl (by rw [zsz']; rfl) (by simp [Value.cells, oneCell, str]) z6 (by rw [zsz']; simp) (by intro j _ _; simp) ?_
    rw [zsz']
    intro h9 f9 _ b9
    change h9[h.size]? = some (.cells #[.int .u8 7, str [], .int .u64 0, .int .u16 (n : Int), .int .u16 0] 76 (0, 0)) at b9
    have hld9 := ld_agg T.ag_76 (Rd_block (vs := [.int .u8 7, str [], .int .u64 0, .int .u16 (n : Int), .int .u16 0]) b9) rfl
    simp (disch := first | omega | assumption) only [C.Reader_one_gos, T.tv, ↓reduceIte, Nat.reduceEqDiff, reduceCtorEq, Nat.reduceLeDiff, Nat.reducePow, Int.reducePow, Int.reduceToNat, Nat.reduceAdd, hld9]
    exact ⟨Fr.trans f6 f9 (fun _ _ h => h) (fun k hk hS => absurd hS (by omega)), r6.fr f9 (by omega), rfl⟩
  by_cases t8 : t = 8
  · subst t8
    rw [show ((8 : Nat) : Int) = 8 from rfl] at c0 b3
    simp only [Nat.reduceEqDiff, if_true, if_false, or_true, true_or, or_false, false_or]
    simp (disch := first | omega | assumption) only [C.Reader_one_gos, T.tv, ↓reduceIte, Nat.reduceEqDiff, reduceCtorEq, Nat.reduceLeDiff, Nat.reducePow, Int.reducePow, Int.reduceToNat, Nat.reduceAdd, c0, Int.reduceEq, decide_true, decide_false]
    refine eff_callF rfl ((index_any hl r3).mono ?_)
    rintro v4 h4 ⟨w4, r4, rfl⟩
    have b4 := Fr_blk w4 b3 hbg
    have z4 := Fr_blk w4 z3 hne
    have f4 : Fr (fun k => k = g) h h4 := Fr.trans g3 w4 (fun _ _ h => h) (fun _ _ h => h)
    generalize numS l 2 s1 = x at *
    obtain ⟨n, s2⟩ := x
    simp only at r4 ⊢
    simp (disch := first | omega | assumption) only [C.Reader_one_gos, T.tv, ↓reduceIte, Nat.reduceEqDiff, reduceCtorEq, Nat.reduceLeDiff, Nat.reducePow, Int.reducePow, Int.reduceToNat, Nat.reduceAdd]
    refine eff_store1_z T.zr_38 rfl rfl rfl rfl rfl (u := .int .u16 0) (by rw [cellAt_of b4]; rfl) (by simp [frozenAt, b4]) ?_
    have b6 := setAt_get (o := 3) b4 (.int .u16 (n : Int))
    have z6 := set_blk (b := q) (o := 3) (v := .int .u16 (n : Int)) z4 (Ne.symm hbz)
    have r6 := Rdr.set (b := q) (o := 3) (v := .int .u16 (n : Int)) r4 (Ne.symm hbg)
    have f6 : Fr (fun k => k = g) h _ := Fr.trans f4 (Fr.set (S := fun k => k = q) h4 ⟨q, 3, none⟩ (.int .u16 (n : Int)) fun _ => rfl) (fun _ _ h => h) (fun k hk hS => absurd hS (by have := hqh; omega))
    change (setAt h4 ⟨q, 3, none⟩ (.int .u16 (n : Int)))[q]? = some (.cells #[.int .u8 8, str [], .int .u64 0, .int .u16 (n : Int), .int .u16 0] 76 (0, 0)) at b6
    generalize setAt h4 ⟨q, 3, none⟩ (.int .u16 (n : Int)) = k6 at *
    simp (disch := first | omega | assumption) only [C.Reader_one_gos, T.tv, ↓reduceIte, Nat.reduceEqDiff, reduceCtorEq, Nat.reduceLeDiff, Nat.reducePow, Int.reducePow, Int.reduceToNat, Nat.reduceAdd]
    have hld := ld_agg T.ag_76 (Rd_block (vs := [.int .u8 8, str [], .int .u64 0, .int .u16 (n : Int), .int .u16 0]) b6) rfl
    simp (disch := first | omega | assumption) only [C.Reader_one_gos, T.tv, ↓reduceIte, Nat.reduceEqDiff, reduceCtorEq, Nat.reduceLeDiff, Nat.reducePow, Int.reducePow, Int.reduceToNat, Nat.reduceAdd, hld]
    obtain ⟨zi, zz, zq, _, _, zsz⟩ := zr_spec T.zr_76
    have zsz' : zi.size = 5 := zsz
    refine eff_storeN zq (cur := #[.int .u8 0, str [], .int .u64 0, .int .u16 0, .int .u16 0]) (e := 76) (fz := (0, 0)) rfl rfl (by rw [zsz']; rfl) (by simp [Value.cells, oneCell, str]) z6 (by rw [zsz']; simp) (by intro j _ _; simp) ?_
    rw [zsz']
    intro h9 f9 _ b9
    change h9[h.size]? = some (.cells #[.int .u8 8, str [], .int .u64 0, .int .u16 (n : Int), .int .u16 0] 76 (0, 0)) at b9
    have hld9 := ld_agg T.ag_76 (Rd_block (vs := [.int .u8 8, str [], .int .u64 0, .int .u16 (n : Int), .int .u16 0]) b9) rfl
    simp (disch := first | omega | assumption) only [C.Reader_one_gos, T.tv, ↓reduceIte, Nat.reduceEqDiff, reduceCtorEq, Nat.reduceLeDiff, Nat.reducePow, Int.reducePow, Int.reduceToNat, Nat.reduceAdd, hld9]
    exact ⟨Fr.trans f6 f9 (fun _ _ h => h) (fun k hk hS => absurd hS (by omega)), r6.fr f9 (by omega), rfl⟩
  by_cases t9 : t = 9
  · subst t9
    rw [show ((9 : Nat) : Int) = 9 from rfl] at c0 b3
    simp only [Nat.reduceEqDiff, if_true, if_false, or_true, true_or, or_false, false_or]
    simp (disch := first | omega | assumption) only [C.Reader_one_gos, T.tv, ↓reduceIte, Nat.reduceEqDiff, reduceCtorEq, Nat.reduceLeDiff, Nat.reducePow, Int.reducePow, Int.reduceToNat, Nat.reduceAdd, c0, Int.reduceEq, decide_true, decide_false]
    refine eff_callF rfl ((index_any hl r3).mono ?_)
    rintro v4 h4 ⟨w4, r4, rfl⟩
    have b4 := Fr_blk w4 b3 hbg
    have z4 := Fr_blk w4 z3 hne
    have f4 : Fr (fun k => k = g) h h4 := Fr.trans g3 w4 (fun _ _ h => h) (fun _ _ h => h)
    generalize numS l 2 s1 = x at *
    obtain ⟨n, s2⟩ := x
    simp only at r4 ⊢
    simp (disch := first | omega | assumption) only [C.Reader_one_gos, T.tv, ↓reduceIte, Nat.reduceEqDiff, reduceCtorEq, Nat.reduceLeDiff, Nat.reducePow, Int.reducePow, Int.reduceToNat, Nat.reduceAdd]
    refine eff_callF rfl ((index_any hl r4).mono ?_)
    rintro v5 h5 ⟨w5, r5, rfl⟩
    have b5 := Fr_blk w5 b4 hbg
    have z5 := Fr_blk w5 z4 hne
    have f5 : Fr (fun k => k = g) h h5 := Fr.trans f4 w5 (fun _ _ h => h) (fun _ _ h => h)
    generalize numS l 2 s2 = x at *
    obtain ⟨m, s3⟩ := x
    simp only at r5 ⊢
    simp (disch := first | omega | assumption) only [C.Reader_one_gos, T.tv, ↓reduceIte, Nat.reduceEqDiff, reduceCtorEq, Nat.reduceLeDiff, Nat.reducePow, Int.reducePow, Int.reduceToNat, Nat.reduceAdd]
    refine eff_store1_z T.zr_38 rfl rfl rfl rfl rfl (u := .int .u16 0) (by rw [cellAt_of b5]; rfl) (by simp [frozenAt, b5]) ?_
    have b6 := setAt_get (o := 3) b5 (.int .u16 (n : Int))
    have z6 := set_blk (b := q) (o := 3) (v := .int .u16 (n : Int)) z5 (Ne.symm hbz)
    have r6 := Rdr.set (b := q) (o := 3) (v := .int .u16 (n : Int)) r5 (Ne.symm hbg)
    have f6 : Fr (fun k => k = g) h _ := Fr.trans f5 (Fr.set (S := fun k => k = q) h5 ⟨q, 3, none⟩ (.int .u16 (n : Int)) fun _ => rfl) (fun _ _ h => h) (fun k hk hS => absurd hS (by have := hqh; omega))
    change (setAt h5 ⟨q, 3, none⟩ (.int .u16 (n : Int)))[q]? = some (.cells #[.int .u8 9, str [], .int .u64 0, .int .u16 (n : Int), .int .u16 0] 76 (0, 0)) at b6
    generalize setAt h5 ⟨q, 3, none⟩ (.int .u16 (n : Int)) = k6 at *
    simp (disch := first | omega | assumption) only [C.Reader_one_gos, T.tv, ↓reduceIte, Nat.reduceEqDiff, reduceCtorEq, Nat.reduceLeDiff, Nat.reducePow, Int.reducePow, Int.reduceToNat, Nat.reduceAdd]
    refine eff_store1_z T.zr_38 rfl rfl rfl rfl rfl (u := .int .u16 0) (by rw [cellAt_of b6]; rfl) (by simp [frozenAt, b6]) ?_
    have b7 := setAt_get (o := 4) b6 (.int .u16 (m : Int))
    have z7 := set_blk (b := q) (o := 4) (v := .int .u16 (m : Int)) z6 (Ne.symm hbz)
    have r7 := Rdr.set (b := q) (o := 4) (v := .int .u16 (m : Int)) r6 (Ne.symm hbg)
    have f7 : Fr (fun k => k = g) h _ := Fr.trans f6 (Fr.set (S := fun k => k = q) k6 ⟨q, 4, none⟩ (.int .u16 (m : Int)) fun _ => rfl) (fun _ _ h => h) (fun k hk hS => absurd hS (by have := hqh; omega))
    change (setAt k6 ⟨q, 4, none⟩ (.int .u16 (m : Int)))[q]? = some (.cells #[.int .u8 9, str [], .int .u64 0, .int .u16 (n : Int), .int .u16 (m : Int)] 76 (0, 0)) at b7
    generalize setAt k6 ⟨q, 4, none⟩ (.int .u16 (m : Int)) = k7 at *
    simp (disch := first | omega | assumption) only [C.Reader_one_gos, T.tv, ↓reduceIte, Nat.reduceEqDiff, reduceCtorEq, Nat.reduceLeDiff, Nat.reducePow, Int.reducePow, Int.reduceToNat, Nat.reduceAdd]
    have hld := ld_agg T.ag_76 (Rd_block (vs := [.int .u8 9, str [], .int .u64 0, .int .u16 (n : Int), .int .u16 (m : Int)]) b7) rfl
    simp (disch := first | omega | assumption) only [C.Reader_one_gos, T.tv, ↓reduceIte, Nat.reduceEqDiff, reduceCtorEq, Nat.reduceLeDiff, Nat.reducePow, Int.reducePow, Int.reduceToNat, Nat.reduceAdd, hld]
    obtain ⟨zi, zz, zq, _, _, zsz⟩ := zr_spec T.zr_76
    have zsz' : zi.size = 5 := zsz
    refine eff_storeN zq (cur := #[.int .u8 0, str [], .int .u64 0, .int .u16 0, .int .u16 0]) (e := 76) (fz := (0, 0)) rfl rfl (by rw [zsz']; rfl) (by simp [Value.cells, oneCell, str]) z7 (by rw [zsz']; simp) (by intro j _ _; simp) ?_
    rw [zsz']
    intro h9 f9 _ b9
    change h9[h.size]? = some (.cells #[.int .u8 9, str [], .int .u64 0, .int .u16 (n : Int), .int .u16 (m : Int)] 76 (0, 0)) at b9
    have hld9 := ld_agg T.ag_76 (Rd_block (vs := [.int .u8 9, str [], .int .u64 0, .int .u16 (n : Int), .int .u16 (m : Int)]) b9) rfl
    simp (disch := first | omega | assumption) only [C.Reader_one_gos, T.tv, ↓reduceIte, Nat.reduceEqDiff, reduceCtorEq, Nat.reduceLeDiff, Nat.reducePow, Int.reducePow, Int.reduceToNat, Nat.reduceAdd, hld9]
    exact ⟨Fr.trans f7 f9 (fun _ _ h => h) (fun k hk hS => absurd hS (by omega)), r7.fr f9 (by omega), rfl⟩
  by_cases t10 : t = 10
  · subst t10
    rw [show ((10 : Nat) : Int) = 10 from rfl] at c0 b3
    simp only [Nat.reduceEqDiff, if_true, if_false, or_true, true_or, or_false, false_or]
    simp (disch := first | omega | assumption) only [C.Reader_one_gos, T.tv, ↓reduceIte, Nat.reduceEqDiff, reduceCtorEq, Nat.reduceLeDiff, Nat.reducePow, Int.reducePow, Int.reduceToNat, Nat.reduceAdd, c0, Int.reduceEq, decide_true, decide_false]
    refine eff_callF rfl ((index_any hl r3).mono ?_)
    rintro v4 h4 ⟨w4, r4, rfl⟩
    have b4 := Fr_blk w4 b3 hbg
    have z4 := Fr_blk w4 z3 hne
    have f4 : Fr (fun k => k = g) h h4 := Fr.trans g3 w4 (fun _ _ h => h) (fun _ _ h => h)
    generalize numS l 2 s1 = x at *
    obtain ⟨n, s2⟩ := x
    simp only at r4 ⊢
    simp (disch := first | omega | assumption) only [C.Reader_one_gos, T.tv, ↓reduceIte, Nat.reduceEqDiff, reduceCtorEq, Nat.reduceLeDiff, Nat.reducePow, Int.reducePow, Int.reduceToNat, Nat.reduceAdd]
    refine eff_callF rfl ((index_any hl r4).mono ?_)
    rintro v5 h5 ⟨w5, r5, rfl⟩
    have b5 := Fr_blk w5 b4 hbg
    have z5 := Fr_blk w5 z4 hne
    have f5 : Fr (fun k => k = g) h h5 := Fr.trans f4 w5 (fun _ _ h => h) (fun _ _ h => h)
    generalize numS l 2 s2 = x at *
    obtain ⟨m, s3⟩ := x
    simp only at r5 ⊢
    simp (disch := first | omega | assumption) only [C.Reader_one_gos, T.tv, ↓reduceIte, Nat.reduceEqDiff, reduceCtorEq, Nat.reduceLeDiff, Nat.reducePow, Int.reducePow, Int.reduceToNat, Nat.reduceAdd]
    refine eff_store1_z T.zr_38 rfl rfl rfl rfl rfl (u := .int .u16 0) (by rw [cellAt_of b5]; rfl) (by simp [frozenAt, b5]) ?_
    have b6 := setAt_get (o := 3) b5 (.int .u16 (n : Int))
    have z6 := set_blk (b := q) (o := 3) (v := .int .u16 (n : Int)) z5 (Ne.symm hbz)
    have r6 := Rdr.set (b := q) (o := 3) (v := .int .u16 (n : Int)) r5 (Ne.symm hbg)
    have f6 : Fr (fun k => k = g) h _ := Fr.trans f5 (Fr.set (S := fun k => k = q) h5 ⟨q, 3, none⟩ (.int .u16 (n : Int)) fun _ => rfl) (fun _ _ h => h) (fun k hk hS => absurd hS (by have := hqh; omega))
    change (setAt h5 ⟨q, 3, none⟩ (.int .u16 (n : Int)))[q]? = some (.cells #[.int .u8 10, str [], .int .u64 0, .int .u16 (n : Int), .int .u16 0] 76 (0, 0)) at b6
    generalize setAt h5 ⟨q, 3, none⟩ (.int .u16 (n : Int)) = k6 at *
    simp (disch := first | omega | assumption) only [C.Reader_one_gos, T.tv, ↓reduceIte, Nat.reduceEqDiff, reduceCtorEq, Nat.reduceLeDiff, Nat.reducePow, Int.reducePow, Int.reduceToNat, Nat.reduceAdd]
    refine eff_store1_z T.zr_38 rfl rfl rfl rfl rfl (u := .int .u16 0) (by rw [cellAt_of b6]; rfl) (by simp [frozenAt, b6]) ?_
    have b7 := setAt_get (o := 4) b6 (.int .u16 (m : Int))
    have z7 := set_blk (b := q) (o := 4) (v := .int .u16 (m : Int)) z6 (Ne.symm hbz)
    have r7 := Rdr.set (b := q) (o := 4) (v := .int .u16 (m : Int)) r6 (Ne.symm hbg)
    have f7 : Fr (fun k => k = g) h _ := Fr.trans f6 (Fr.set (S := fun k => k = q) k6 ⟨q, 4, none⟩ (.int .u16 (m : Int)) fun _ => rfl) (fun _ _ h => h) (fun k hk hS => absurd hS (by have := hqh; omega))
    change (setAt k6 ⟨q, 4, none⟩ (.int .u16 (m : Int)))[q]? = some (.cells #[.int .u8 10, str [], .int .u64 0, .int .u16 (n : Int), .int .u16 (m : Int)] 76 (0, 0)) at b7
    generalize setAt k6 ⟨q, 4, none⟩ (.int .u16 (m : Int)) = k7 at *
    simp (disch := first | omega | assumption) only [C.Reader_one_gos, T.tv, ↓reduceIte, Nat.reduceEqDiff, reduceCtorEq, Nat.reduceLeDiff, Nat.reducePow, Int.reducePow, Int.reduceToNat, Nat.reduceAdd]
    have hld := ld_agg T.ag_76 (Rd_block (vs := [.int .u8 10, str [], .int .u64 0, .int .u16 (n : Int), .int .u16 (m : Int)]) b7) rfl
    simp (disch := first | omega | assumption) only [C.Reader_one_gos, T.tv, ↓reduceIte, Nat.reduceEqDiff, reduceCtorEq, Nat.reduceLeDiff, Nat.reducePow, Int.reducePow, Int.reduceToNat, Nat.reduceAdd, hld]
    obtain ⟨zi, zz, zq, _, _, zsz⟩ := zr_spec T.zr_76
    have zsz' : zi.size = 5 := zsz
    refine eff_storeN zq (cur := #[.int .u8 0, str [], .int .u64 0, .int .u16 0, .int .u16 0]) (e := 76) (fz := (0, 0)) rfl rfl (by rw [zsz']; rfl) (by simp [Value.cells, oneCell, str]) z7 (by rw [zsz']; simp) (by intro j _ _; simp) ?_
    rw [zsz']
    intro h9 f9 _ b9
    change h9[h.size]? = some (.cells #[.int .u8 10, str [], .int .u64 0, .int .u16 (n : Int), .int .u16 (m : Int)] 76 (0, 0)) at b9
    have hld9 := ld_agg T.ag_76 (Rd_block (vs := [.int .u8 10, str [], .int .u64 0, .int .u16 (n : Int), .int .u16 (m : Int)]) b9) rfl
    simp (disch := first | omega | assumption) only [C.Reader_one_gos, T.tv, ↓reduceIte, Nat.reduceEqDiff, reduceCtorEq, Nat.reduceLeDiff, Nat.reducePow, Int.reducePow, Int.reduceToNat, Nat.reduceAdd, hld9]
    exact ⟨Fr.trans f7 f9 (fun _ _ h => h) (fun k hk hS => absurd hS (by omega)), r7.fr f9 (by omega), rfl⟩
  by_cases t11 : t = 11
  · subst t11
    rw [show ((11 : Nat) : Int) = 11 from rfl] at c0 b3
    simp only [Nat.reduceEqDiff, if_true, if_false, or_true, true_or, or_false, false_or]
    simp (disch := first | omega | assumption) only [C.Reader_one_gos, T.tv, ↓reduceIte, Nat.reduceEqDiff, reduceCtorEq, Nat.reduceLeDiff, Nat.reducePow, Int.reducePow, Int.reduceToNat, Nat.reduceAdd, c0, Int.reduceEq, decide_true, decide_false]
    refine eff_callF rfl ((index_any hl r3).mono ?_)
    rintro v4 h4 ⟨w4, r4, rfl⟩
    have b4 := Fr_blk w4 b3 hbg
    have z4 := Fr_blk w4 z3 hne
    have f4 : Fr (fun k => k = g) h h4 := Fr.trans g3 w4 (fun _ _ h => h) (fun _ _ h => h)
    generalize numS l 2 s1 = x at *
    obtain ⟨n, s2⟩ := x
    simp only at r4 ⊢
    simp (disch := first | omega | assumption) only [C.Reader_one_gos, T.tv, ↓reduceIte, Nat.reduceEqDiff, reduceCtorEq, Nat.reduceLeDiff, Nat.reducePow, Int.reducePow, Int.reduceToNat, Nat.reduceAdd]
    refine eff_callF rfl ((index_any hl r4).mono ?_)
    rintro v5 h5 ⟨w5, r5, rfl⟩
    have b5 := Fr_blk w5 b4 hbg
    have z5 := Fr_blk w5 z4 hne
    have f5 : Fr (fun k => k = g) h h5 := Fr.trans f4 w5 (fun _ _ h => h) (fun _ _ h => h)
    generalize numS l 2 s2 = x at *
    obtain ⟨m, s3⟩ := x
    simp only at r5 ⊢
    simp (disch := first | omega | assumption) only [C.Reader_one_gos, T.tv, ↓reduceIte, Nat.reduceEqDiff, reduceCtorEq, Nat.reduceLeDiff, Nat.reducePow, Int.reducePow, Int.reduceToNat, Nat.reduceAdd]
    refine eff_store1_z T.zr_38 rfl rfl rfl rfl rfl (u := .int .u16 0) (by rw [cellAt_of b5]; rfl) (by simp [frozenAt, b5]) ?_
    have b6 := setAt_get (o := 3) b5 (.int .u16 (n : Int))
    have z6 := set_blk (b := q) (o := 3) (v := .int .u16 (n : Int)) z5 (Ne.symm hbz)
    have r6 := Rdr.set (b := q) (o := 3) (v := .int .u16 (n : Int)) r5 (Ne.symm hbg)
    have f6 : Fr (fun k => k = g) h _ := Fr.trans f5 (Fr.set (S := fun k => k = q) h5 ⟨q, 3, none⟩ (.int .u16 (n : Int)) fun _ => rfl) (fun _ _ h => h) (fun k hk hS => absurd hS (by have := hqh; omega))
    change (setAt h5 ⟨q, 3, none⟩ (.int .u16 (n : Int)))[q]? = some (.cells #[.int .u8 11, str [], .int .u64 0, .int .u16 (n : Int), .int .u16 0] 76 (0, 0)) at b6
    generalize setAt h5 ⟨q, 3, none⟩ (.int .u16 (n : Int)) = k6 at *
    simp (disch := first | omega | assumption) only [C.Reader_one_gos, T.tv, ↓reduceIte, Nat.reduceEqDiff, reduceCtorEq, Nat.reduceLeDiff, Nat.reducePow, Int.reducePow, Int.reduceToNat, Nat.reduceAdd]
    refine eff_store1_z T.zr_38 rfl rfl rfl rfl rfl (u := .int .u16 0) (by rw [cellAt_of b6]; rfl) (by simp [frozenAt, b6]) ?_
    have b7 := setAt_get (o := 4) b6 (.int .u16 (m : Int))
    have z7 := set_blk (b := q) (o := 4) (v := .int .u16 (m : Int)) z6 (Ne.symm hbz)
    have r7 := Rdr.set (b := q) (o := 4) (v := .int .u16 (m : Int)) r6 (Ne.symm hbg)
    have f7 : Fr (fun k => k = g) h _ := Fr.trans f6 (Fr.set (S := fun k => k = q) k6 ⟨q, 4, none⟩ (.int .u16 (m : Int)) fun _ => rfl) (fun _ _ h => h) (fun k hk hS => absurd hS (by have := hqh; omega))
    change (setAt k6 ⟨q, 4, none⟩ (.int .u16 (m : Int)))[q]? = some (.cells #[.int .u8 11, str [], .int .u64 0, .int .u16 (n : Int), .int .u16 (m : Int)] 76 (0, 0)) at b7
    generalize setAt k6 ⟨q, 4, none⟩ (.int .u16 (m : Int)) = k7 at *
    simp (disch := first | omega | assumption) only [C.Reader_one_gos, T.tv, ↓reduceIte, Nat.reduceEqDiff, reduceCtorEq, Nat.reduceLeDiff, Nat.reducePow, Int.reducePow, Int.reduceToNat, Nat.reduceAdd]
    have hld := ld_agg T.ag_76 (Rd_block (vs := [.int .u8 11, str [], .int .u64 0, .int .u16 (n : Int), .int .u16 (m : Int)]) b7) rfl
    simp (disch := first | omega | assumption) only [C.Reader_one_gos, T.tv, ↓reduceIte, Nat.reduceEqDiff, reduceCtorEq, Nat.reduceLeDiff, Nat.reducePow, Int.reducePow, Int.reduceToNat, Nat.reduceAdd, hld]
    obtain ⟨zi, zz, zq, _, _, zsz⟩ := zr_spec T.zr_76
    have zsz' : zi.size = 5 := zsz
    refine eff_storeN zq (cur := #[.int .u8 0, str [], .int .u64 0, .int .u16 0, .int .u16 0]) (e := 76) (fz := (0, 0)) rfl rfl (by rw [zsz']; rfl) (by simp [Value.cells, oneCell, str]) z7 (by rw [zsz']; simp) (by intro j _ _; simp) ?_
    rw [zsz']
    intro h9 f9 _ b9
    change h9[h.size]? = some (.cells #[.int .u8 11, str [], .int .u64 0, .int .u16 (n : Int), .int .u16 (m : Int)] 76 (0, 0)) at b9
    have hld9 := ld_agg T.ag_76 (Rd_block (vs := [.int .u8 11, str [], .int .u64 0, .int .u16 (n : Int), .int .u16 (m : Int)]) b9) rfl
    simp (disch := first | omega | assumption) only [C.Reader_one_gos, T.tv, ↓reduceIte, Nat.reduceEqDiff, reduceCtorEq, Nat.reduceLeDiff, Nat.reducePow, Int.reducePow, Int.reduceToNat, Nat.reduceAdd, hld9]
    exact ⟨Fr.trans f7 f9 (fun _ _ h => h) (fun k hk hS => absurd hS (by omega)), r7.fr f9 (by omega), rfl⟩
  by_cases t12 : t = 12
  · subst t12
    rw [show ((12 : Nat) : Int) = 12 from rfl] at c0 b3
    simp only [Nat.reduceEqDiff, if_true, if_false, or_true, true_or, or_false, false_or]
    simp (disch := first | omega | assumption) only [C.Reader_one_gos, T.tv, ↓reduceIte, Nat.reduceEqDiff, reduceCtorEq, Nat.reduceLeDiff, Nat.reducePow, Int.reducePow, Int.reduceToNat, Nat.reduceAdd, c0, Int.reduceEq, decide_true, decide_false]
    refine eff_callF rfl ((index_any hl r3).mono ?_)
    rintro v4 h4 ⟨w4, r4, rfl⟩
    have b4 := Fr_blk w4 b3 hbg
    have z4 := Fr_blk w4 z3 hne
    have f4 : Fr (fun k => k = g) h h4 := Fr.trans g3 w4 (fun _ _ h => h) (fun _ _ h => h)
    generalize numS l 2 s1 = x at *
    obtain ⟨n, s2⟩ := x
    simp only at r4 ⊢
    simp (disch := first | omega | assumption) only [C.Reader_one_gos, T.tv, ↓reduceIte, Nat.reduceEqDiff, reduceCtorEq, Nat.reduceLeDiff, Nat.reducePow, Int.reducePow, Int.reduceToNat, Nat.reduceAdd]
    refine eff_callF rfl ((index_any hl r4).mono ?_)
    rintro v5 h5 ⟨w5, r5, rfl⟩
    have b5 := Fr_blk w5 b4 hbg
    have z5 := Fr_blk w5 z4 hne
    have f5 : Fr (fun k => k = g) h h5 := Fr.trans f4 w5 (fun _ _ h => h) (fun _ _ h => h)
    generalize numS l 2 s2 = x at *
    obtain ⟨m, s3⟩ := x
    simp only at r5 ⊢
    simp (disch := first | omega | assumption) only [C.Reader_one_gos, T.tv, ↓reduceIte, Nat.reduceEqDiff, reduceCtorEq, Nat.reduceLeDiff, Nat.reducePow, Int.reducePow, Int.reduceToNat, Nat.reduceAdd]
    refine eff_store1_z T.zr_38 rfl rfl rfl rfl rfl (u := .int .u16 0) (by rw [cellAt_of b5]; rfl) (by simp [frozenAt, b5]) ?_
    have b6 := setAt_get (o := 3) b5 (.int .u16 (n : Int))
    have z6 := set_blk (b := q) (o := 3) (v := .int .u16 (n : Int)) z5 (Ne.symm hbz)
    have r6 := Rdr.set (b := q) (o := 3) (v := .int .u16 (n : Int)) r5 (Ne.symm hbg)
    have f6 : Fr (fun k => k = g) h _ := Fr.trans f5 (Fr.set (S := fun k => k = q) h5 ⟨q, 3, none⟩ (.int .u16 (n : Int)) fun _ => rfl) (fun _ _ h => h) (fun k hk hS => absurd hS (by have := hqh; omega))
    change (setAt h5 ⟨q, 3, none⟩ (.int .u16 (n : Int)))[q]? = some (.cells #[.int .u8 12, str [], .int .u64 0, .int .u16 (n : Int), .int .u16 0] 76 (0, 0)) at b6
    generalize setAt h5 ⟨q, 3, none⟩ (.int .u16 (n : Int)) = k6 at *
    simp (disch := first | omega | assumption) only [C.Reader_one_gos, T.tv, ↓reduceIte, Nat.reduceEqDiff, reduceCtorEq, Nat.reduceLeDiff, Nat.reducePow, Int.reducePow, Int.reduceToNat, Nat.reduceAdd]
    refine eff_store1_z T.zr_38 rfl rfl rfl rfl rfl (u := .int .u16 0) (by rw [cellAt_of b6]; rfl) (by simp [frozenAt, b6]) ?_
    have b7 := setAt_get (o := 4) b6 (.int .u16 (m : Int))
    have z7 := set_blk (b := q) (o := 4) (v := .int .u16 (m : Int)) z6 (Ne.symm hbz)
    have r7 := Rdr.set (b := q) (o := 4) (v := .int .u16 (m : Int)) r6 (Ne.symm hbg)
    have f7 : Fr (fun k => k = g) h _ := Fr.trans f6 (Fr.set (S := fun k => k = q) k6 ⟨q, 4, none⟩ (.int .u16 (m : Int)) fun _ => rfl) (fun _ _ h => h) (fun k hk hS => absurd hS (by have := hqh; omega))
    change (setAt k6 ⟨q, 4, none⟩ (.int .u16 (m : Int)))[q]? = some (.cells #[.int .u8 12, str [], .int .u64 0, .int .u16 (n : Int), .int .u16 (m : Int)] 76 (0, 0)) at b7
    generalize setAt k6 ⟨q, 4, none⟩ (.int .u16 (m : Int)) = k7 at *
    simp (disch := first | omega | assumption) only [C.Reader_one_gos, T.tv, ↓reduceIte, Nat.reduceEqDiff, reduceCtorEq, Nat.reduceLeDiff, Nat.reducePow, Int.reducePow, Int.reduceToNat, Nat.reduceAdd]
    have hld := ld_agg T.ag_76 (Rd_block (vs := [.int .u8 12, str [], .int .u64 0, .int .u16 (n : Int), .int .u16 (m : Int)]) b7) rfl
    simp (disch := first | omega | assumption) only [C.Reader_one_gos, T.tv, ↓reduceIte, Nat.reduceEqDiff, reduceCtorEq, Nat.reduceLeDiff, Nat.reducePow, Int.reducePow, Int.reduceToNat, Nat.reduceAdd, hld]
    obtain ⟨zi, zz, zq, _, _, zsz⟩ := zr_spec T.zr_76
    have zsz' : zi.size = 5 := zsz
    refine eff_storeN zq (cur := #[.int .u8 0, str [], .int .u64 0, .int .u16 0, .int .u16 0]) (e := 76) (fz := (0, 0)) rfl rfl (by rw [zsz']; rfl) (by simp [Value.cells, oneCell, str]) z7 (by rw [zsz']; simp) (by intro j _ _; simp) ?_
    rw [zsz']
    intro h9 f9 _ b9
    change h9[h.size]? = some (.cells #[.int .u8 12, str [], .int .u64 0, .int .u16 (n : Int), .int .u16 (m : Int)] 76 (0, 0)) at b9
    have hld9 := ld_agg T.ag_76 (Rd_block (vs := [.int .u8 12, str [], .int .u64 0, .int .u16 (n : Int), .int .u16 (m : Int)]) b9) rfl
    simp (disch := first | omega | assumption) only [C.Reader_one_gos, T.tv, ↓reduceIte, Nat.reduceEqDiff, reduceCtorEq, Nat.reduceLeDiff, Nat.reducePow, Int.reducePow, Int.reduceToNat, Nat.reduceAdd, hld9]
    exact ⟨Fr.trans f7 f9 (fun _ _ h => h) (fun k hk hS => absurd hS (by omega)), r7.fr f9 (by omega), rfl⟩
  have n1 : ¬ (t : Int) = 1 := by omega
  have n3 : ¬ (t : Int) = 3 := by omega
  have n4 : ¬ (t : Int) = 4 := by omega
  have n5 : ¬ (t : Int) = 5 := by omega
  have n6 : ¬ (t : Int) = 6 := by omega
  have n7 : ¬ (t : Int) = 7 := by omega
  have n8 : ¬ (t : Int) = 8 := by omega
  have n9 : ¬ (t : Int) = 9 := by omega
  have n10 : ¬ (t : Int) = 10 := by omega
  have n11 : ¬ (t : Int) = 11 := by omega
  have n12 : ¬ (t : Int) = 12 := by omega
  simp only [t1, t3, t4, t5, t6, t7, t8, t9, t10, t11, t12, if_false, or_false, or_self]
  simp (disch := first | omega | assumption) only [C.Reader_one_gos, T.tv, ↓reduceIte, Nat.reduceEqDiff, reduceCtorEq, Nat.reduceLeDiff, Nat.reducePow, Int.reducePow, Int.reduceToNat, Nat.reduceAdd, c0, eq_false n1, eq_false n3, eq_false n4, eq_false n5, eq_false n6, eq_false n7, eq_false n8, eq_false n9, eq_false n10, eq_false n11, eq_false n12, decide_false]
  refine eff_callF rfl ((fail_any 5 s.p r3).mono ?_)
  rintro v8 h8 ⟨w8, r8⟩
  have b8 := Fr_blk w8 b3 hbg
  have z8 := Fr_blk w8 z3 hne
  have f8 : Fr (fun k => k = g) h h8 := Fr.trans g3 w8 (fun _ _ h => h) (fun _ _ h => h)
  simp (disch := first | omega | assumption) only [C.Reader_one_gos, T.tv, ↓reduceIte, Nat.reduceEqDiff, reduceCtorEq, Nat.reduceLeDiff, Nat.reducePow, Int.reducePow, Int.reduceToNat, Nat.reduceAdd]
  have hld := ld_agg T.ag_76 (Rd_block (vs := [.int .u8 (t : Int), str [], .int .u64 0, .int .u16 0, .int .u16 0]) b8) rfl
  simp (disch := first | omega | assumption) only [C.Reader_one_gos, T.tv, ↓reduceIte, Nat.reduceEqDiff, reduceCtorEq, Nat.reduceLeDiff, Nat.reducePow, Int.reducePow, Int.reduceToNat, Nat.reduceAdd, hld]
  obtain ⟨zi, zz, zq, _, _, zsz⟩ := zr_spec T.zr_76
  have zsz' : zi.size = 5 := zsz
  refine eff_storeN zq (cur := #[.int .u8 0, str [], .int .u64 0, .int .u16 0, .int .u16 0]) (e := 76) (fz := (0, 0)) rfl rfl (by rw [zsz']; rfl) (by simp [Value.cells, oneCell, str]) z8 (by rw [zsz']; simp) (by intro j _ _; simp) ?_
  rw [zsz']
  intro h9 f9 _ b9
  change h9[h.size]? = some (.cells #[.int .u8 (t : Int), str [], .int .u64 0, .int .u16 0, .int .u16 0] 76 (0, 0)) at b9
  have hld9 := ld_agg T.ag_76 (Rd_block (vs := [.int .u8 (t : Int), str [], .int .u64 0, .int .u16 0, .int .u16 0]) b9) rfl
  simp (disch := first | omega | assumption) only [C.Reader_one_gos, T.tv, ↓reduceIte, Nat.reduceEqDiff, reduceCtorEq, Nat.reduceLeDiff, Nat.reducePow, Int.reducePow, Int.reduceToNat, Nat.reduceAdd, hld9]
  exact ⟨Fr.trans f8 f9 (fun _ _ h => h) (fun k hk hS => absurd hS (by omega)), r8.fr f9 (by omega), rfl⟩
end
end Go.Proofs.Ytohkbpnblkkdgaa
