/- The law of read frames, on heaps. -/
import Derived.Test.YtohkbpnblkkdgaaMH
import Derived.Test.YtohkbpnblkkdgaaMX
import Derived.Test.YtohkbpnblkkdgaaMY
import Derived.Test.YtohkbpnblkkdgaaMT
namespace Go.Proofs.Ytohkbpnblkkdgaa
open Go.Vc
set_option maxRecDepth 100000
set_option linter.unusedSimpArgs false
set_option linter.unusedVariables false

theorem mapD_len (p : List Cst) (l : List UInt8) : ∀ (n : Nat) (pl : Int) (loc : List VT) (fs : List Frm) (s : RS) (B : Nat), loc.length ≤ B → 65535 ≤ B → (∀ f ∈ fs, f.L.length ≤ B ∧ f.S.length ≤ 65535) →
    (∀ f ∈ (mapD p l n pl loc fs s).1, f.L.length ≤ B + 3 * n ∧ f.S.length ≤ 65535) ∧ (mapD p l n pl loc fs s).1.length ≤ fs.length + n := by
  intro n
  induction n with
  | zero => intro pl loc fs s B _ _ h; exact ⟨fun f hf => by have := h f hf; exact ⟨by omega, this.2⟩, Nat.le_refl _⟩
  | succ n ih =>
    intro pl loc fs s B h1 h2 h
    rw [mapD]
    split
    · exact ⟨fun f hf => by have := h f hf; exact ⟨by omega, this.2⟩, by simp only; omega⟩
    · obtain ⟨q1, q2, _⟩ := frmD_len p l loc s
      obtain ⟨g1, g2⟩ := ih (pl + ((frmD p l loc s).2.1 + 1 : Nat)) (frmD p l loc s).1.L (fs ++ [⟨pl + ((frmD p l loc s).2.1 + 1 : Nat), (frmD p l loc s).1.L, (frmD p l loc s).1.S⟩]) (frmD p l loc s).2.2 (B + 3) (by omega) (by omega) (by
        intro f hf
        rcases List.mem_append.1 hf with hf | hf
        · have := h f hf; exact ⟨by omega, this.2⟩
        · rw [List.mem_singleton.1 hf]; exact ⟨by simp only; omega, q2⟩)
      refine ⟨fun f hf => ?_, ?_⟩
      · have := g1 f hf; exact ⟨by omega, this.2⟩
      · simp only [List.length_append, List.length_singleton] at g2; omega
theorem mapA_len (p : List Cst) (l : List UInt8) (first : List VT) (h : first.length ≤ 65535) : (mapA p l first).1.length ≤ 65535 ∧ ∀ f ∈ (mapA p l first).1, f.L.length ≤ 262140 ∧ f.S.length ≤ 65535 := by
  have hn := numS_lt (l := l) (n := 2) (s := ⟨0, 0, 0⟩)
  simp only [Nat.reducePow] at hn
  obtain ⟨h1, h2⟩ := mapD_len p l (numS l 2 ⟨0, 0, 0⟩).1 (-1) first [] (numS l 2 ⟨0, 0, 0⟩).2 65535 h (Nat.le_refl _) (by simp)
  have key : ∀ r : List Frm × RS, (mapE l r).1 = [] ∨ (mapE l r).1 = r.1 := by
    intro r
    unfold mapE
    simp only
    generalize (if r.2.p < l.length then failS 2 r.2.p r.2 else r.2) = s
    split
    · exact .inl rfl
    · exact .inr rfl
  unfold mapA
  rcases key (mapD p l (numS l 2 ⟨0, 0, 0⟩).1 (-1) first [] (numS l 2 ⟨0, 0, 0⟩).2) with hk | hk
  · rw [hk]; exact ⟨by simp, by simp⟩
  · rw [hk]
    refine ⟨by simp only [List.length_nil] at h2; omega, fun f hf => ?_⟩
    have := h1 f hf
    exact ⟨by omega, this.2⟩
def mkV : VT := ⟨77, [], 7⟩
set_option maxHeartbeats 8000000 in
theorem mapReads_any (l : List UInt8) (p : List Cst) (first : List VT) (vp vf : Value) (h : Heap) (hl : l.length ≤ 140737488355328) (hp : SlN h 5 vp p.length (flatS p)) (hpf : ∀ c ∈ p, c.Fit) (hpl : p.length ≤ 140737488355328)
    (hf : SlN h 3 vf first.length (flatV first)) (hfl : first.length ≤ 140737488355328) :
    HCalls Try.prog 3 #[str l, vp, vf] h fun r h' => Ext h h' ∧ r = .bool true := by
  refine C.law3_MapReads_calls (args := [str l, vp, vf]) rfl ?_
  have hp' := hp
  obtain ⟨_, ap, cp, rfl, _⟩ := hp'
  have hf' := hf
  obtain ⟨_, af, cf, rfl, _⟩ := hf'
  by_cases hbig : 4096 < l.length + p.length + first.length
  · have hbig' : (4096 : Int) < (l.length : Int) + (p.length : Int) + (first.length : Int) := by omega
    simp (disch := first | omega | assumption) only [C.law3_MapReads_gos, vs, Go.Vc.vk, T.ts, ↓reduceIte, Nat.reduceEqDiff, reduceCtorEq, Nat.reduceLeDiff, Nat.reducePow, Int.reducePow, Int.reduceToNat, Nat.reduceAdd, hbig']
    exact Ext.refl _
  have hbig' : ¬ (4096 : Int) < (l.length : Int) + (p.length : Int) + (first.length : Int) := by omega
  simp (disch := first | omega | assumption) only [C.law3_MapReads_gos, vs, Go.Vc.vk, T.ts, ↓reduceIte, Nat.reduceEqDiff, reduceCtorEq, Nat.reduceLeDiff, Nat.reducePow, Int.reducePow, Int.reduceToNat, Nat.reduceAdd, hbig']
  refine eff_alloc_z T.zr_25 ?_
  simp (disch := first | omega | assumption) only [C.law3_MapReads_gos, vs, Go.Vc.vk, T.ts, ↓reduceIte, Nat.reduceEqDiff, reduceCtorEq, Nat.reduceLeDiff, Nat.reducePow, Int.reducePow, Int.reduceToNat, Nat.reduceAdd]
  refine eff_store_new_z T.zr_25 rfl rfl rfl (by simp [Value.cells, oneCell, str]) rfl ?_
  intro h1 x1 hlt1 hrd1 b1
  have hrm : Rd h1 h.size 0 mkV.cells := hrd1
  have hld := ld_agg T.ag_25 hrm rfl
  simp only [mkV, VT.cells] at hld
  have hlb : h.size < h1.size := hlt1
  simp (disch := first | omega | assumption) only [C.law3_MapReads_gos, vs, Go.Vc.vk, T.ts, ↓reduceIte, Nat.reduceEqDiff, reduceCtorEq, Nat.reduceLeDiff, Nat.reducePow, Int.reducePow, Int.reduceToNat, Nat.reduceAdd]
  refine eff_append_slN (xs := []) T.slT_23 rfl rfl (Own.nil (base := h1.size)) (hf.ext (by decide) x1) (flatV_one _) (by omega) (by omega) (Nat.le_refl _) ?_
  intro v2 h2 own2 fr2
  have X2 : Ext h h2 := Ext.app x1 fr2 (fun k hk => by simp [Value.ownBlock] at hk)
  have own2' : Own h2 h.size 25 3 v2 first.length (flatV first) := (Own_cast own2 (by omega) rfl).mono (by omega)
  have b2 := Fr_blk fr2 b1 (fun hk => by simp [Value.ownBlock] at hk)
  have hld2 := ld_agg T.ag_25 (Rd_block (vs := mkV.cells) b2) rfl
  simp only [mkV, VT.cells] at hld2
  have hq2 : h.size ≤ h2.size := X2.size
  generalize h.size = q0 at *
  clear own2 fr2 hld hrm hrd1 b1 hlt1 x1
  obtain ⟨R, hR⟩ : ∃ R, R = first ++ [mkV, mkV, mkV] := ⟨_, rfl⟩
  have hRl : R.length = first.length + 3 := by rw [hR]; simp
  have hm3 : flatV [mkV, mkV, mkV] = [.int .u8 ((77 : Nat) : Int), str [], .int .i64 7, .int .u8 ((77 : Nat) : Int), str [], .int .i64 7, .int .u8 ((77 : Nat) : Int), str [], .int .i64 7] := rfl
  have h3c : ∀ u ∈ flatV [mkV, mkV, mkV], oneCell u = true := flatV_one _
  have hjoin : ∀ (hx : Heap) (v9 : Value), Ext h hx → Own hx q0 25 3 v2 first.length (flatV first) → Own hx q0 25 3 v9 R.length (flatV R) → hx[q0]? = some (.cells mkV.cells.toArray 25 (0, 0)) →
      Cd.vc Try.prog C.law3_MapReads_t1 (retQ Try.prog [(6, none)] fun r h' => Ext h h' ∧ r = .bool true) [(0, str l), (1, .slice ap p.length cp), (2, .slice af first.length cf), (6, .bool false), (7, .pointer (some ⟨q0, 0, none⟩)), (8, v2), (9, v9), (10, undef), (11, undef), (12, undef),
        (13, undef), (14, undef), (15, undef), (24, .bool false), (63, undef)] hx := by
    clear X2 own2' b2 hld2
    intro hx v9 X ow8 ow9 bq
    rw [C.law3_MapReads_t1_go]
    obtain ⟨_, a9, c9, rfl, _⟩ := ow9.slN
    have hc9 : R.length ≤ c9 := ow9.capOk
    have hcp : (first.length : Int) ≤ (c9 : Int) := by omega
    have ow9t := ow9.take (k := first.length) (by omega)
    have hRt : (flatV R).take (first.length * 3) = flatV first := by rw [flatV_take, hR, List.take_left]
    rw [hRt] at ow9t
    simp (disch := first | omega | assumption) only [C.law3_MapReads_gos, vs, Go.Vc.vk, T.ts, ↓reduceIte, Nat.reduceEqDiff, reduceCtorEq, Nat.reduceLeDiff, Nat.reducePow, Int.reducePow, Int.reduceToNat, Nat.reduceAdd, hcp, Int.toNat_natCast]
    refine eff_call_of ?_
    simp (disch := first | omega | assumption) only [C.law3_MapReads_gos, vs, Go.Vc.vk, T.ts, ↓reduceIte, Nat.reduceEqDiff, reduceCtorEq, Nat.reduceLeDiff, Nat.reducePow, Int.reducePow, Int.reduceToNat, Nat.reduceAdd]
    refine (mapRead_any l p first _ _ hx (by omega) (hp.ext (by decide) X) hpf ow9t.slN (by omega)).mono ?_
    intro v3 h3 hp3
    have x3 := hp3.1
    obtain ⟨sv, rows, hv3, W3⟩ := hp3.2
    clear hp3
    have X3 := X.trans x3
    simp (disch := first | omega | assumption) only [C.law3_MapReads_gos, vs, Go.Vc.vk, T.ts, ↓reduceIte, Nat.reduceEqDiff, reduceCtorEq, Nat.reduceLeDiff, Nat.reducePow, Int.reducePow, Int.reduceToNat, Nat.reduceAdd, hv3]
    refine eff_call_of ?_
    simp (disch := first | omega | assumption) only [C.law3_MapReads_gos, vs, Go.Vc.vk, T.ts, ↓reduceIte, Nat.reduceEqDiff, reduceCtorEq, Nat.reduceLeDiff, Nat.reducePow, Int.reducePow, Int.reduceToNat, Nat.reduceAdd]
    refine (rmapRead_any (e0 := 0) l p first _ _ h3 (by omega) (hp.ext (by decide) X3) hpf (ow8.ext x3).slN (by omega) (ow8.ext x3)).mono ?_
    intro v4 h4 hp4
    have x4 := hp4.1
    obtain ⟨sv2, rows2, hv4, W4⟩ := hp4.2
    clear hp4
    have X4 := X3.trans x4
    have W34 := W3.ext x4
    have ow94 := ow9.ext (x3.trans x4)
    have b4 := Fr_blk (x3.trans x4) bq id
    have hld4 := ld_agg T.ag_25 (Rd_block (vs := mkV.cells) b4) rfl
    have hxs : hx.size ≤ h4.size := (x3.trans x4).size
    obtain ⟨hal, hLl⟩ := mapA_len p l first (by omega)
    simp only [mkV, VT.cells] at hld4
    generalize mapA p l first = A at *
    obtain ⟨fs, e, at'⟩ := A
    simp only at hv3 hv4 W3 W34 W4 hal hLl
    have hend : ∀ (h5 : Heap), Ext h4 h5 →
        Cd.vc Try.prog (.region C.law3_MapReads_r10) (Ex.thn (Cd.vc Try.prog .ret (retQ Try.prog [(6, none)] fun r h' => Ext h h' ∧ r = .bool true)) (retQ Try.prog [(6, none)] fun r h' => Ext h h' ∧ r = .bool true))
          [(0, str l), (1, .slice ap p.length cp), (2, .slice af first.length cf), (6, .bool false), (7, .pointer (some ⟨q0, 0, none⟩)), (8, v2), (9, .slice a9 R.length c9), (10, sv), (11, .int .i64 (e : Int)), (12, .int .i64 (at' : Int)), (13, sv2), (14, .int .i64 (e : Int)), (15, .int .i64 (at' : Int)), (24, .bool false), (63, .bool false)] h5 := by
      intro h5 x5
      simp (disch := first | omega | assumption) only [C.law3_MapReads_gos, vs, Go.Vc.vk, T.ts, ↓reduceIte, Nat.reduceEqDiff, reduceCtorEq, Nat.reduceLeDiff, Nat.reducePow, Int.reducePow, Int.reduceToNat, Nat.reduceAdd]
      refine eff_call_of ?_
      simp (disch := first | omega | assumption) only [C.law3_MapReads_gos, vs, Go.Vc.vk, T.ts, ↓reduceIte, Nat.reduceEqDiff, reduceCtorEq, Nat.reduceLeDiff, Nat.reducePow, Int.reducePow, Int.reduceToNat, Nat.reduceAdd]
      refine (sameFrames_any fs _ _ h5 (W34.ext x5).frsC (W4.ext x5).frsC (by omega) (fun f hf => by have := hLl f hf; omega)).mono ?_
      rintro v6 h6 ⟨rfl, rfl⟩
      simp (disch := first | omega | assumption) only [C.law3_MapReads_gos, vs, Go.Vc.vk, T.ts, ↓reduceIte, Nat.reduceEqDiff, reduceCtorEq, Nat.reduceLeDiff, Nat.reducePow, Int.reducePow, Int.reduceToNat, Nat.reduceAdd]
      refine eff_call_of ?_
      simp (disch := first | omega | assumption) only [C.law3_MapReads_gos, vs, Go.Vc.vk, T.ts, ↓reduceIte, Nat.reduceEqDiff, reduceCtorEq, Nat.reduceLeDiff, Nat.reducePow, Int.reducePow, Int.reduceToNat, Nat.reduceAdd]
      refine (apart_any fs (by omega) (W34.ext x5) (fun f hf => by have := hLl f hf; omega) (Nat.le_trans hxs x5.size)).mono ?_
      intro v7 h7 hp7
      have hv7 := hp7.2
      have X7 : Ext h h7 := Fr.trans (X4.trans x5) hp7.1 (fun _ _ h => h) (fun k hk hs => by have := X.size; omega)
      simp (disch := first | omega | assumption) only [C.law3_MapReads_gos, vs, Go.Vc.vk, T.ts, ↓reduceIte, Nat.reduceEqDiff, reduceCtorEq, Nat.reduceLeDiff, Nat.reducePow, Int.reducePow, Int.reduceToNat, Nat.reduceAdd, hv7]
      exact X7
    simp (disch := first | omega | assumption) only [C.law3_MapReads_gos, vs, Go.Vc.vk, T.ts, ↓reduceIte, Nat.reduceEqDiff, reduceCtorEq, Nat.reduceLeDiff, Nat.reducePow, Int.reducePow, Int.reduceToNat, Nat.reduceAdd, hv4, hld4]
    refine And.intro ?ca ?cb
    case ca =>
      refine eff_append_slN (xs := []) T.slT_23 rfl rfl (Own.nil (base := h4.size)) (hf.ext (by decide) X4) (flatV_one _) (by omega) (by omega) (Nat.le_refl _) ?_
      intro va ha owna fra
      have xa : Ext h4 ha := Ext.app (Ext.refl h4) fra (fun k hk => by simp [Value.ownBlock] at hk)
      have ba := Fr_blk xa b4 id
      have hlda := ld_agg T.ag_25 (Rd_block (vs := mkV.cells) ba) rfl
      simp only [mkV, VT.cells] at hlda
      simp (disch := first | omega | assumption) only [C.law3_MapReads_gos, vs, Go.Vc.vk, T.ts, ↓reduceIte, Nat.reduceEqDiff, reduceCtorEq, Nat.reduceLeDiff, Nat.reducePow, Int.reducePow, Int.reduceToNat, Nat.reduceAdd, hlda]
      refine eff_lits T.slT_23 rfl rfl (by decide) ?_
      simp (disch := first | omega | assumption) only [C.law3_MapReads_gos, vs, Go.Vc.vk, T.ts, ↓reduceIte, Nat.reduceEqDiff, reduceCtorEq, Nat.reduceLeDiff, Nat.reducePow, Int.reducePow, Int.reduceToNat, Nat.reduceAdd]
      refine eff_append_own (m := 3) T.slT_23 rfl rfl (owna.push _) rfl (Rd_new (vs := flatV [mkV, mkV, mkV])) h3c (by omega) (by omega) (by have := xa.size; simp; omega) ?_
      intro vb hb ownb frb _
      have xb : Ext h4 hb := Ext.app (xa.trans (Ext.push ha (.cells (flatV [mkV, mkV, mkV]).toArray 25))) frb (fun k hk => (owna.lt k hk).1)
      have ow := Own_cast (n' := R.length) (xs' := flatV R) ownb (by omega) (by rw [hR]; simp [flatV])
      simp (disch := first | omega | assumption) only [C.law3_MapReads_gos, vs, Go.Vc.vk, T.ts, ↓reduceIte, Nat.reduceEqDiff, reduceCtorEq, Nat.reduceLeDiff, Nat.reducePow, Int.reducePow, Int.reduceToNat, Nat.reduceAdd]
      refine eff_call_of ?_
      simp (disch := first | omega | assumption) only [C.law3_MapReads_gos, vs, Go.Vc.vk, T.ts, ↓reduceIte, Nat.reduceEqDiff, reduceCtorEq, Nat.reduceLeDiff, Nat.reducePow, Int.reducePow, Int.reduceToNat, Nat.reduceAdd]
      refine (sameTypes_any R R _ _ R.length R.length rfl rfl (ow94.ext xb).slN ow.slN (by omega)).mono ?_
      rintro vc hc ⟨rfl, rfl⟩
      simp (disch := first | omega | assumption) only [C.law3_MapReads_gos, vs, Go.Vc.vk, T.ts, ↓reduceIte, Nat.reduceEqDiff, reduceCtorEq, Nat.reduceLeDiff, Nat.reducePow, Int.reducePow, Int.reduceToNat, Nat.reduceAdd, C.law3_MapReads_t0_go, decide_true]
      exact hend _ xb
    case cb =>
      refine eff_lits T.slT_23 rfl rfl (by decide) ?_
      simp (disch := first | omega | assumption) only [C.law3_MapReads_gos, vs, Go.Vc.vk, T.ts, ↓reduceIte, Nat.reduceEqDiff, reduceCtorEq, Nat.reduceLeDiff, Nat.reducePow, Int.reducePow, Int.reduceToNat, Nat.reduceAdd]
      have xl : Ext h4 (h4.push (.cells (flatV [mkV, mkV, mkV]).toArray 25)) := Ext.push _ _
      have hrl : Rd (h4.push (.cells (flatV [mkV, mkV, mkV]).toArray 25)) h4.size 0 (flatV [mkV, mkV, mkV]) := Rd_new
      have bl : (h4.push (.cells (flatV [mkV, mkV, mkV]).toArray 25))[h4.size]? = some (.cells (flatV [mkV, mkV, mkV]).toArray 25) := by simp
      refine eff_append_slN (xs := []) T.slT_23 rfl rfl (Own.nil (base := h4.size)) (hf.ext (by decide) (Ext.trans X4 xl)) (flatV_one _) (by omega) (by omega) (xl.size) ?_
      intro va ha owna fra
      have xa : Ext h4 ha := Ext.app xl fra (fun k hk => by simp [Value.ownBlock] at hk)
      have ba := Fr_blk xa b4 id
      have bl2 := Fr_blk fra bl (fun hk => by simp [Value.ownBlock] at hk)
      have hlda := ld_agg T.ag_25 (Rd_block (vs := mkV.cells) ba) rfl
      simp only [mkV, VT.cells] at hlda
      simp (disch := first | omega | assumption) only [C.law3_MapReads_gos, vs, Go.Vc.vk, T.ts, ↓reduceIte, Nat.reduceEqDiff, reduceCtorEq, Nat.reduceLeDiff, Nat.reducePow, Int.reducePow, Int.reduceToNat, Nat.reduceAdd, hlda]
      refine eff_append_own (m := 3) T.slT_23 rfl rfl owna rfl (Rd_block (vs := flatV [mkV, mkV, mkV]) bl2) h3c (by omega) (by omega) xa.size ?_
      intro vb hb ownb frb _
      have xb : Ext h4 hb := Ext.app xa frb (fun k hk => (owna.lt k hk).1)
      have ow := Own_cast (n' := R.length) (xs' := flatV R) ownb (by omega) (by rw [hR]; simp [flatV])
      simp (disch := first | omega | assumption) only [C.law3_MapReads_gos, vs, Go.Vc.vk, T.ts, ↓reduceIte, Nat.reduceEqDiff, reduceCtorEq, Nat.reduceLeDiff, Nat.reducePow, Int.reducePow, Int.reduceToNat, Nat.reduceAdd]
      refine eff_call_of ?_
      simp (disch := first | omega | assumption) only [C.law3_MapReads_gos, vs, Go.Vc.vk, T.ts, ↓reduceIte, Nat.reduceEqDiff, reduceCtorEq, Nat.reduceLeDiff, Nat.reducePow, Int.reducePow, Int.reduceToNat, Nat.reduceAdd]
      refine (sameTypes_any R R _ _ R.length R.length rfl rfl (ow94.ext xb).slN ow.slN (by omega)).mono ?_
      rintro vc hc ⟨rfl, rfl⟩
      simp (disch := first | omega | assumption) only [C.law3_MapReads_gos, vs, Go.Vc.vk, T.ts, ↓reduceIte, Nat.reduceEqDiff, reduceCtorEq, Nat.reduceLeDiff, Nat.reducePow, Int.reducePow, Int.reduceToNat, Nat.reduceAdd, C.law3_MapReads_t0_go, decide_true]
      exact hend _ xb
  simp (disch := first | omega | assumption) only [C.law3_MapReads_gos, vs, Go.Vc.vk, T.ts, ↓reduceIte, Nat.reduceEqDiff, reduceCtorEq, Nat.reduceLeDiff, Nat.reducePow, Int.reducePow, Int.reduceToNat, Nat.reduceAdd, hld2]
  refine And.intro ?ca ?cb
  case ca =>
    refine eff_append_slN (xs := []) T.slT_23 rfl rfl (Own.nil (base := h2.size)) (hf.ext (by decide) X2) (flatV_one _) (by omega) (by omega) (Nat.le_refl _) ?_
    intro va ha owna fra
    have xa : Ext h2 ha := Ext.app (Ext.refl h2) fra (fun k hk => by simp [Value.ownBlock] at hk)
    have ba := Fr_blk xa b2 id
    have hlda := ld_agg T.ag_25 (Rd_block (vs := mkV.cells) ba) rfl
    simp only [mkV, VT.cells] at hlda
    simp (disch := first | omega | assumption) only [C.law3_MapReads_gos, vs, Go.Vc.vk, T.ts, ↓reduceIte, Nat.reduceEqDiff, reduceCtorEq, Nat.reduceLeDiff, Nat.reducePow, Int.reducePow, Int.reduceToNat, Nat.reduceAdd, hlda]
    refine eff_lits T.slT_23 rfl rfl (by decide) ?_
    simp (disch := first | omega | assumption) only [C.law3_MapReads_gos, vs, Go.Vc.vk, T.ts, ↓reduceIte, Nat.reduceEqDiff, reduceCtorEq, Nat.reduceLeDiff, Nat.reducePow, Int.reducePow, Int.reduceToNat, Nat.reduceAdd]
    refine eff_append_own (m := 3) T.slT_23 rfl rfl (owna.push _) rfl (Rd_new (vs := flatV [mkV, mkV, mkV])) h3c (by omega) (by omega) (by have := xa.size; simp; omega) ?_
    intro vb hb ownb frb _
    have xb : Ext h2 hb := Ext.app (xa.trans (Ext.push ha (.cells (flatV [mkV, mkV, mkV]).toArray 25))) frb (fun k hk => (owna.lt k hk).1)
    have ow := Own_cast (n' := R.length) (xs' := flatV R) ownb (by omega) (by rw [hR]; simp [flatV])
    simp (disch := first | omega | assumption) only [C.law3_MapReads_gos, vs, Go.Vc.vk, T.ts, ↓reduceIte, Nat.reduceEqDiff, reduceCtorEq, Nat.reduceLeDiff, Nat.reducePow, Int.reducePow, Int.reduceToNat, Nat.reduceAdd]
    exact hjoin _ _ (X2.trans xb) (own2'.ext xb) (ow.mono hq2) (Fr_blk xb b2 id)
  case cb =>
    refine eff_lits T.slT_23 rfl rfl (by decide) ?_
    simp (disch := first | omega | assumption) only [C.law3_MapReads_gos, vs, Go.Vc.vk, T.ts, ↓reduceIte, Nat.reduceEqDiff, reduceCtorEq, Nat.reduceLeDiff, Nat.reducePow, Int.reducePow, Int.reduceToNat, Nat.reduceAdd]
    have xl : Ext h2 (h2.push (.cells (flatV [mkV, mkV, mkV]).toArray 25)) := Ext.push _ _
    have hrl : Rd (h2.push (.cells (flatV [mkV, mkV, mkV]).toArray 25)) h2.size 0 (flatV [mkV, mkV, mkV]) := Rd_new
    have bl : (h2.push (.cells (flatV [mkV, mkV, mkV]).toArray 25))[h2.size]? = some (.cells (flatV [mkV, mkV, mkV]).toArray 25) := by simp
    refine eff_append_slN (xs := []) T.slT_23 rfl rfl (Own.nil (base := h2.size)) (hf.ext (by decide) (Ext.trans X2 xl)) (flatV_one _) (by omega) (by omega) (xl.size) ?_
    intro va ha owna fra
    have xa : Ext h2 ha := Ext.app xl fra (fun k hk => by simp [Value.ownBlock] at hk)
    have ba := Fr_blk xa b2 id
    have bl2 := Fr_blk fra bl (fun hk => by simp [Value.ownBlock] at hk)
    have hlda := ld_agg T.ag_25 (Rd_block (vs := mkV.cells) ba) rfl
    simp only [mkV, VT.cells] at hlda
    simp (disch := first | omega | assumption) only [C.law3_MapReads_gos, vs, Go.Vc.vk, T.ts, ↓reduceIte, Nat.reduceEqDiff, reduceCtorEq, Nat.reduceLeDiff, Nat.reducePow, Int.reducePow, Int.reduceToNat, Nat.reduceAdd, hlda]
    refine eff_append_own (m := 3) T.slT_23 rfl rfl owna rfl (Rd_block (vs := flatV [mkV, mkV, mkV]) bl2) h3c (by omega) (by omega) xa.size ?_
    intro vb hb ownb frb _
    have xb : Ext h2 hb := Ext.app xa frb (fun k hk => (owna.lt k hk).1)
    have ow := Own_cast (n' := R.length) (xs' := flatV R) ownb (by omega) (by rw [hR]; simp [flatV])
    simp (disch := first | omega | assumption) only [C.law3_MapReads_gos, vs, Go.Vc.vk, T.ts, ↓reduceIte, Nat.reduceEqDiff, reduceCtorEq, Nat.reduceLeDiff, Nat.reducePow, Int.reducePow, Int.reduceToNat, Nat.reduceAdd]
    exact hjoin _ _ (X2.trans xb) (own2'.ext xb) (ow.mono hq2) (Fr_blk xb b2 id)
end Go.Proofs.Ytohkbpnblkkdgaa
