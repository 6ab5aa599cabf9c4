/- The reference's reading of classes: fields. -/
import Derived.Test.YtohkbpnblkkdgaaLT1
namespace Go.Proofs.Ytohkbpnblkkdgaa
open Go.Vc
set_option maxRecDepth 100000
set_option linter.unusedSimpArgs false
set_option linter.unusedVariables false

/-- A reading function's own blocks: its answer's place, and what it fills. -/
structure GX (h0 : Heap) (g gc rb fb : Nat) (l : List UInt8) (p : List Cst) (vp : Value) (ty : TypeId) (zs : Array Value) (cs : List Value) (t : RS) (hx : Heap) : Prop where
  rg : RG hx g gc l p vp t
  bf : hx[fb]? = some (.cells cs.toArray ty (0, 0))
  bz : hx[rb]? = some (.cells zs ty (0, 0))
  fr : FrR gc h0 hx
  o1 : h0.size ≤ rb
  o2 : h0.size ≤ fb
  o3 : rb ≠ fb
  o4 : g < h0.size ∧ gc < h0.size
  p0 : SlN h0 5 vp p.length (flatS p)
section
variable {h0 hx hy : Heap} {g gc rb fb : Nat} {l : List UInt8} {p : List Cst} {vp : Value} {ty : TypeId} {zs : Array Value} {cs : List Value} {t u : RS}
theorem GX.frR (D : GX h0 g gc rb fb l p vp ty zs cs t hx) (f : FrR gc hx hy) (r : Cutr hy gc l u) : GX h0 g gc rb fb l p vp ty zs cs u hy := by
  have o1 := D.o1
  have o2 := D.o2
  have o4 := D.o4
  exact ⟨D.rg.frR f r, Fr_blk f D.bf (by omega), Fr_blk f D.bz (by omega), FrR.trans' D.fr f, o1, o2, D.o3, o4, D.p0⟩
theorem GX.out {b : Nat} (D : GX h0 g gc rb fb l p vp ty zs cs t hx) (f : Fr (fun k => k = b) hx hy) (hb : h0.size ≤ b) (h1 : b ≠ rb) (h2 : b ≠ fb) : GX h0 g gc rb fb l p vp ty zs cs t hy := by
  have o4 := D.o4
  exact ⟨⟨Fr_blk f D.rg.q (by omega), D.rg.r.fr f (by omega), D.p0.fr (by decide) (D.fr.new f hb) (fun k _ hk hS => D.rg.nb (by rw [hk, hS])), D.rg.nb, D.rg.ne⟩, Fr_blk f D.bf (Ne.symm h2), Fr_blk f D.bz (Ne.symm h1), D.fr.new f hb, D.o1, D.o2, D.o3, o4, D.p0⟩
theorem GX.ext (D : GX h0 g gc rb fb l p vp ty zs cs t hx) (x : Ext hx hy) : GX h0 g gc rb fb l p vp ty zs cs t hy := D.frR (FrR.ext x) (D.rg.r.fr x id)
theorem GX.put (D : GX h0 g gc rb fb l p vp ty zs cs t hx) {ds : List Value} (f : Fr (fun k => k = fb) hx hy) (hb : hy[fb]? = some (.cells ds.toArray ty (0, 0))) : GX h0 g gc rb fb l p vp ty zs ds t hy := by
  have o2 := D.o2
  have o3 := D.o3
  have o4 := D.o4
  exact ⟨⟨Fr_blk f D.rg.q (by omega), D.rg.r.fr f (by omega), D.p0.fr (by decide) (D.fr.new f o2) (fun k _ hk hS => D.rg.nb (by rw [hk, hS])), D.rg.nb, D.rg.ne⟩, hb, Fr_blk f D.bz o3, D.fr.new f o2, D.o1, D.o2, D.o3, o4, D.p0⟩
theorem GX.set (D : GX h0 g gc rb fb l p vp ty zs cs t hx) (k : Nat) (v : Value) : GX h0 g gc rb fb l p vp ty zs (cs.set k v) t (setAt hx ⟨fb, k, none⟩ v) := by
  have b1 := setAt_get (o := k) D.bf v
  exact D.put (Fr.set (S := fun k => k = fb) _ _ _ fun _ => rfl) (by rw [b1]; simp)
theorem GX.cell (D : GX h0 g gc rb fb l p vp ty zs cs t hx) (k : Nat) : cellAt hx ⟨fb, k, none⟩ = cs[k]? := by
  rw [cellAt_of D.bf]; simp
theorem GX.frozen (D : GX h0 g gc rb fb l p vp ty zs cs t hx) (k : Nat) : frozenAt hx ⟨fb, k, none⟩ = false := by simp [frozenAt, D.bf]
theorem overS_no {n q : Nat} {en : Int} (he : u.e = 0) (hen : en = ((u.p + n : Nat) : Int)) : overS l false q en u = (takeS l n u).2 := by
  have : (en - (u.p : Int)).toNat = n := by omega
  unfold overS; simp [he, this]
theorem overS_yes {n pp q : Nat} {en : Int} (hen : en = ((pp + n : Nat) : Int)) : overS l true q en u = if u.p = pp + n then u else failS 12 q u := by
  unfold overS
  by_cases hh : u.p = pp + n
  · rw [if_pos rfl, if_pos (by omega), if_pos hh]
  · rw [if_pos rfl, if_neg (by omega), if_neg hh]
theorem overS_bad {q : Nat} (he : u.e ≠ 0) : overS l false q (-1) u = u := by unfold overS; simp [he]
end
section
variable {h : Heap} {g gc : Nat} {l : List UInt8} {p : List Cst} {vp : Value} {s : RS}
set_option maxHeartbeats 8000000 in
theorem rfield_any (hl : l.length ≤ 1073741824) (D : RG h g gc l p vp s) :
    HCalls Try.prog 61 #[.pointer (some ⟨g, 0, none⟩)] h fun r h' => FrR gc h h' ∧ Cutr h' gc l (fieldR p l s).2 ∧ r = .agg (fieldR p l s).1.cells.toArray := by
  refine C.rr_field_calls (args := [.pointer (some ⟨g, 0, none⟩)]) rfl ?_
  have hgc := D.r.lt
  have hg : g < h.size := (Array.getElem?_eq_some_iff.1 D.q).1
  simp (disch := first | omega | assumption) only [C.rr_field_gos, vs, Go.Vc.vk, T.ts, ↓reduceIte, Nat.reduceEqDiff, reduceCtorEq, Nat.reduceLeDiff, Nat.reducePow, Int.reducePow, Int.reduceToNat, Nat.reduceAdd]
  refine eff_alloc_z T.zr_89 ?_
  have e1 : Ext h (h.push (.cells #[.int .u16 0, .int .u16 0, .int .u16 0, .int .u16 0] 89)) := Ext.push _ _
  have b1 : (h.push (.cells #[.int .u16 0, .int .u16 0, .int .u16 0, .int .u16 0] 89))[h.size]? = some (.cells #[.int .u16 0, .int .u16 0, .int .u16 0, .int .u16 0] 89 (0, 0)) := by simp
  have s1 : (h.push (.cells #[.int .u16 0, .int .u16 0, .int .u16 0, .int .u16 0] 89)).size = h.size + 1 := by simp
  simp (disch := first | omega | assumption) only [C.rr_field_gos, vs, Go.Vc.vk, T.ts, ↓reduceIte, Nat.reduceEqDiff, reduceCtorEq, Nat.reduceLeDiff, Nat.reducePow, Int.reducePow, Int.reduceToNat, Nat.reduceAdd]
  generalize h.push (.cells #[.int .u16 0, .int .u16 0, .int .u16 0, .int .u16 0] 89) = h1 at *
  obtain ⟨rb, hrb⟩ : ∃ x, x = h.size := ⟨_, rfl⟩
  rw [← hrb] at b1 ⊢
  refine eff_alloc_z T.zr_89 ?_
  simp (disch := first | omega | assumption) only [C.rr_field_gos, vs, Go.Vc.vk, T.ts, ↓reduceIte, Nat.reduceEqDiff, reduceCtorEq, Nat.reduceLeDiff, Nat.reducePow, Int.reducePow, Int.reduceToNat, Nat.reduceAdd]
  refine eff_store_new_z T.zr_89 rfl rfl rfl (by simp [Value.cells, oneCell]) rfl ?_
  intro h2 x2 hlt2 hrd2 b2
  obtain ⟨fb, hfb⟩ : ∃ x, x = h1.size := ⟨_, rfl⟩
  rw [← hfb] at b2 ⊢
  have D2 : GX h g gc rb fb l p vp 89 #[.int .u16 0, .int .u16 0, .int .u16 0, .int .u16 0] [.int .u16 0, .int .u16 0, .int .u16 0, .int .u16 0] s h2 :=
    ⟨D.frR (FrR.ext (e1.trans x2)) (D.r.fr (e1.trans x2) id), b2, Fr_blk x2 b1 id, FrR.ext (e1.trans x2), by omega, by omega, by omega, ⟨hg, hgc⟩, D.p⟩
  clear e1 b1 s1 x2 hrd2 b2
  simp (disch := first | omega | assumption) only [C.rr_field_gos, vs, Go.Vc.vk, T.ts, ↓reduceIte, Nat.reduceEqDiff, reduceCtorEq, Nat.reduceLeDiff, Nat.reducePow, Int.reducePow, Int.reduceToNat, Nat.reduceAdd]
  refine eff_call_of ?_
  simp (disch := first | omega | assumption) only [C.rr_field_gos, vs, Go.Vc.vk, T.ts, ↓reduceIte, Nat.reduceEqDiff, reduceCtorEq, Nat.reduceLeDiff, Nat.reducePow, Int.reducePow, Int.reduceToNat, Nat.reduceAdd]
  refine (rindex_any hl D2.rg).mono ?_
  rintro _ y3 ⟨f3, r3, rfl⟩
  have E3 := D2.frR f3 r3
  have kc : cellAt y3 ⟨fb, 0, none⟩ = some (.int .u16 0) := by rw [E3.cell]; rfl
  simp (disch := first | omega | assumption) only [C.rr_field_gos, vs, Go.Vc.vk, T.ts, ↓reduceIte, Nat.reduceEqDiff, reduceCtorEq, Nat.reduceLeDiff, Nat.reducePow, Int.reducePow, Int.reduceToNat, Nat.reduceAdd]
  refine eff_store1_z T.zr_38 rfl rfl rfl rfl rfl kc (E3.frozen _) ?_
  have D3 := E3.set 0 ((.int .u16 ((numS l 2 s).1 : Int)))
  clear E3 kc f3 r3 D2
  generalize setAt y3 ⟨fb, 0, none⟩ _ = h3 at *
  simp (disch := first | omega | assumption) only [C.rr_field_gos, vs, Go.Vc.vk, T.ts, ↓reduceIte, Nat.reduceEqDiff, reduceCtorEq, Nat.reduceLeDiff, Nat.reducePow, Int.reducePow, Int.reduceToNat, Nat.reduceAdd]
  refine eff_call_of ?_
  simp (disch := first | omega | assumption) only [C.rr_field_gos, vs, Go.Vc.vk, T.ts, ↓reduceIte, Nat.reduceEqDiff, reduceCtorEq, Nat.reduceLeDiff, Nat.reducePow, Int.reducePow, Int.reduceToNat, Nat.reduceAdd]
  refine (rindex_any hl D3.rg).mono ?_
  rintro _ y4 ⟨f4, r4, rfl⟩
  have E4 := D3.frR f4 r4
  have kc : cellAt y4 ⟨fb, 1, none⟩ = some (.int .u16 0) := by rw [E4.cell]; rfl
  simp (disch := first | omega | assumption) only [C.rr_field_gos, vs, Go.Vc.vk, T.ts, ↓reduceIte, Nat.reduceEqDiff, reduceCtorEq, Nat.reduceLeDiff, Nat.reducePow, Int.reducePow, Int.reduceToNat, Nat.reduceAdd]
  refine eff_store1_z T.zr_38 rfl rfl rfl rfl rfl kc (E4.frozen _) ?_
  have D4 := E4.set 1 ((.int .u16 ((numS l 2 (numS l 2 s).2).1 : Int)))
  clear E4 kc f4 r4 D3
  generalize setAt y4 ⟨fb, 1, none⟩ _ = h4 at *
  simp (disch := first | omega | assumption) only [C.rr_field_gos, vs, Go.Vc.vk, T.ts, ↓reduceIte, Nat.reduceEqDiff, reduceCtorEq, Nat.reduceLeDiff, Nat.reducePow, Int.reducePow, Int.reduceToNat, Nat.reduceAdd]
  refine eff_call_of ?_
  simp (disch := first | omega | assumption) only [C.rr_field_gos, vs, Go.Vc.vk, T.ts, ↓reduceIte, Nat.reduceEqDiff, reduceCtorEq, Nat.reduceLeDiff, Nat.reducePow, Int.reducePow, Int.reduceToNat, Nat.reduceAdd]
  refine (rindex_any hl D4.rg).mono ?_
  rintro _ y5 ⟨f5, r5, rfl⟩
  have E5 := D4.frR f5 r5
  have kc : cellAt y5 ⟨fb, 2, none⟩ = some (.int .u16 0) := by rw [E5.cell]; rfl
  simp (disch := first | omega | assumption) only [C.rr_field_gos, vs, Go.Vc.vk, T.ts, ↓reduceIte, Nat.reduceEqDiff, reduceCtorEq, Nat.reduceLeDiff, Nat.reducePow, Int.reducePow, Int.reduceToNat, Nat.reduceAdd]
  refine eff_store1_z T.zr_38 rfl rfl rfl rfl rfl kc (E5.frozen _) ?_
  have D5 := E5.set 2 ((.int .u16 ((numS l 2 (numS l 2 (numS l 2 s).2).2).1 : Int)))
  clear E5 kc f5 r5 D4
  generalize setAt y5 ⟨fb, 2, none⟩ _ = h5 at *
  obtain ⟨f1, hf1⟩ : ∃ x, x = (numS l 2 s).1 := ⟨_, rfl⟩
  obtain ⟨f2, hf2⟩ : ∃ x, x = (numS l 2 (numS l 2 s).2).1 := ⟨_, rfl⟩
  obtain ⟨f3, hf3⟩ : ∃ x, x = (numS l 2 (numS l 2 (numS l 2 s).2).2).1 := ⟨_, rfl⟩
  obtain ⟨s3, hs3⟩ : ∃ x, x = (numS l 2 (numS l 2 (numS l 2 s).2).2).2 := ⟨_, rfl⟩
  rw [← hf1, ← hf2, ← hf3, ← hs3] at D5
  have D6 : GX h g gc rb fb l p vp 89 #[.int .u16 0, .int .u16 0, .int .u16 0, .int .u16 0] (Fld.cells ⟨f1, f2, f3, (false, 0).2⟩) s3 h5 := D5
  clear D5
  have k0 := D6.rg.k0
  simp (disch := first | omega | assumption) only [C.rr_field_gos, vs, Go.Vc.vk, T.ts, ↓reduceIte, Nat.reduceEqDiff, reduceCtorEq, Nat.reduceLeDiff, Nat.reducePow, Int.reducePow, Int.reduceToNat, Nat.reduceAdd, k0]
  refine eff_call_of ?_
  simp (disch := first | omega | assumption) only [C.rr_field_gos, vs, Go.Vc.vk, T.ts, ↓reduceIte, Nat.reduceEqDiff, reduceCtorEq, Nat.reduceLeDiff, Nat.reducePow, Int.reducePow, Int.reduceToNat, Nat.reduceAdd]
  refine (cnum_any 2 hl (by omega) D6.rg.r).mono ?_
  rintro _ w1 ⟨g1, q1, rfl⟩
  have hk := @numS_lt l 2 s3
  simp only [Nat.reducePow] at hk
  have Dw := D6.frR g1 q1
  obtain ⟨K, hK⟩ : ∃ K, K = numS l 2 s3 := ⟨_, rfl⟩
  rw [← hK] at hk Dw ⊢
  obtain ⟨R, hR⟩ : ∃ R, R = attrsR p l (fldT l) K.1 (false, 0) K.2 := ⟨_, rfl⟩
  clear k0 g1 q1 D6
  simp (disch := first | omega | assumption) only [C.rr_field_gos, vs, Go.Vc.vk, T.ts, ↓reduceIte, Nat.reduceEqDiff, reduceCtorEq, Nat.reduceLeDiff, Nat.reducePow, Int.reducePow, Int.reduceToNat, Nat.reduceAdd]
  refine loop_intro [0, 2, 3, 4, 5] (fun m ρ hc => ∃ (k : Nat) (x : Bool × Nat) (u : RS) , m = k ∧ k < 65536 ∧ ρ = [(0, .pointer (some ⟨g, 0, none⟩)), (2, .pointer (some ⟨rb, 0, none⟩)), (3, .pointer (some ⟨fb, 0, none⟩)), (4, .bool x.1), (5, .int .i64 k)] ∧ GX h g gc rb fb l p vp 89 #[.int .u16 0, .int .u16 0, .int .u16 0, .int .u16 0] (Fld.cells ⟨f1, f2, f3, x.2⟩) u hc ∧ attrsR p l (fldT l) k x u = R) ?_ ?_
  · simp (disch := first | omega | assumption) only [C.rr_field_gos, vs, Go.Vc.vk, T.ts, ↓reduceIte, Nat.reduceEqDiff, reduceCtorEq, Nat.reduceLeDiff, Nat.reducePow, Int.reducePow, Int.reduceToNat, Nat.reduceAdd]
    exact ⟨_, K.1, (false, 0), K.2, rfl, by simpa using hk, rfl, Dw, hR.symm⟩
  clear Dw
  rintro m ρ hc ⟨k, x, u, rfl, hkk, rfl, Dx, hL⟩
  have k0 := Dx.rg.k0
  have c2 := Dx.rg.r.c2
  refine Or.elim (Classical.em (0 < m ∧ u.e = 0)) (fun hgo => ?caG) (fun hgo => ?cbG)
  case caG =>
    obtain ⟨hpos, he⟩ := hgo
    obtain ⟨j, rfl⟩ : ∃ j, m = j + 1 := ⟨m - 1, by omega⟩
    have hpos' : (0 : Int) < ((j + 1 : Nat) : Int) := by omega
    have he' : (u.e : Int) = 0 := by omega
    rw [attrsR_step he] at hL
    have hw : IntKind.i64.wrap (((j + 1 : Nat) : Int) - 1) = (j : Int) := by rw [wrap_i64 (by omega) (by omega)]; omega
    simp (disch := first | omega | assumption) only [C.rr_field_gos, vs, Go.Vc.vk, T.ts, ↓reduceIte, Nat.reduceEqDiff, reduceCtorEq, Nat.reduceLeDiff, Nat.reducePow, Int.reducePow, Int.reduceToNat, Nat.reduceAdd, hpos', k0, c2, eq_true he']
    refine eff_call_of ?_
    simp (disch := first | omega | assumption) only [C.rr_field_gos, vs, Go.Vc.vk, T.ts, ↓reduceIte, Nat.reduceEqDiff, reduceCtorEq, Nat.reduceLeDiff, Nat.reducePow, Int.reducePow, Int.reduceToNat, Nat.reduceAdd]
    refine (rattribute_any hl Dx.rg).mono ?_
    rintro _ h4 ⟨f4, r4, nm, en, rfl, hA⟩
    have D4 := Dx.frR f4 r4
    have hup := Dx.rg.r.2
    clear Dx f4 r4 k0 c2
    have hb1 := hA.lt
    have hbp := D4.rg.r.2
    have hAb := hA.bad
    have hAo := hA.ok
    clear hA
    generalize attB p l u = b at *
    by_cases hbe : b.2.e = 0
    case neg =>
      obtain ⟨rfl, rfl⟩ := hAb hbe
      rw [if_pos hbe] at hL
      simp (disch := first | omega | assumption) only [C.rr_field_gos, vs, Go.Vc.vk, T.ts, ↓reduceIte, Nat.reduceEqDiff, reduceCtorEq, Nat.reduceLeDiff, Nat.reducePow, Int.reducePow, Int.reduceToNat, Nat.reduceAdd]
      refine eff_call_of ?_
      simp (disch := first | omega | assumption) only [C.rr_field_gos, vs, Go.Vc.vk, T.ts, ↓reduceIte, Nat.reduceEqDiff, reduceCtorEq, Nat.reduceLeDiff, Nat.reducePow, Int.reducePow, Int.reduceToNat, Nat.reduceAdd]
      refine (rover_any hl D4.rg false u.p (-1) (by omega) (by omega) (fun _ hh => absurd hh hbe)).mono ?_
      rintro _ h5 ⟨f5, r5⟩
      rw [overS_bad hbe] at r5
      have D5 := D4.frR f5 r5
      simp (disch := first | omega | assumption) only [C.rr_field_gos, vs, Go.Vc.vk, T.ts, ↓reduceIte, Nat.reduceEqDiff, reduceCtorEq, Nat.reduceLeDiff, Nat.reducePow, Int.reducePow, Int.reduceToNat, Nat.reduceAdd, hw]
      exact ⟨_, by omega, j, x, b.2, rfl, by omega, rfl, D5, (attrsR_bad hbe).trans hL⟩
    case pos =>
      obtain ⟨rfl, rfl⟩ := hAo hbe
      rw [if_neg (by simp [hbe])] at hL
      by_cases hnm : strS p (numS l 2 u).1 = cvN
      case neg =>
        have hT : (fldT l) (strS p (numS l 2 u).1) u.p b.1 x b.2 = none := by unfold fldT; rw [if_neg hnm]
        rw [hT] at hL
        have hn' : ¬ strS p (numS l 2 u).1 = [67, 111, 110, 115, 116, 97, 110, 116, 86, 97, 108, 117, 101] := hnm
        simp (disch := first | omega | assumption) only [C.rr_field_gos, vs, Go.Vc.vk, T.ts, ↓reduceIte, Nat.reduceEqDiff, reduceCtorEq, Nat.reduceLeDiff, Nat.reducePow, Int.reducePow, Int.reduceToNat, Nat.reduceAdd, eq_false hn']
        refine eff_call_of ?_
        simp (disch := first | omega | assumption) only [C.rr_field_gos, vs, Go.Vc.vk, T.ts, ↓reduceIte, Nat.reduceEqDiff, reduceCtorEq, Nat.reduceLeDiff, Nat.reducePow, Int.reducePow, Int.reduceToNat, Nat.reduceAdd]
        refine (rover_any hl D4.rg false u.p _ (by omega) (by omega) (fun _ _ => by omega)).mono ?_
        rintro _ h5 ⟨f5, r5⟩
        rw [overS_no hbe rfl] at r5
        have D5 := D4.frR f5 r5
        simp (disch := first | omega | assumption) only [C.rr_field_gos, vs, Go.Vc.vk, T.ts, ↓reduceIte, Nat.reduceEqDiff, reduceCtorEq, Nat.reduceLeDiff, Nat.reducePow, Int.reducePow, Int.reduceToNat, Nat.reduceAdd, hw]
        exact ⟨_, by omega, j, x, _, rfl, by omega, rfl, D5, hL⟩
      case pos =>
        obtain ⟨sn, sv⟩ := x
        obtain ⟨y0, hy0⟩ : ∃ y0, y0 = onceR sn u.p b.2 := ⟨_, rfl⟩
        have hT : (fldT l) (strS p (numS l 2 u).1) u.p b.1 (sn, sv) b.2 = some ((true, (numS l 2 y0).1), (numS l 2 y0).2) := by unfold fldT; rw [if_pos hnm, hy0]
        rw [hT] at hL
        have hn' : strS p (numS l 2 u).1 = [67, 111, 110, 115, 116, 97, 110, 116, 86, 97, 108, 117, 101] := hnm
        have hyp0 : y0.p = b.2.p := by rw [hy0]; unfold onceR failS; (repeat' split) <;> rfl <;> rfl
        clear hT hnm
        have k0 := D4.rg.k0

        refine Or.elim (show sn = true ∨ sn = false by cases sn <;> simp) (fun hs => ?caS) (fun hs => ?cbS)
        case' caS =>
          subst hs
          simp (disch := first | omega | assumption) only [C.rr_field_gos, vs, Go.Vc.vk, T.ts, ↓reduceIte, Nat.reduceEqDiff, reduceCtorEq, Nat.reduceLeDiff, Nat.reducePow, Int.reducePow, Int.reduceToNat, Nat.reduceAdd, eq_true hn', k0]
          refine eff_call_of ?_
          simp (disch := first | omega | assumption) only [C.rr_field_gos, vs, Go.Vc.vk, T.ts, ↓reduceIte, Nat.reduceEqDiff, reduceCtorEq, Nat.reduceLeDiff, Nat.reducePow, Int.reducePow, Int.reduceToNat, Nat.reduceAdd]
          refine (cfail_any 11 u.p D4.rg.r).mono ?_
          rintro _ h5 ⟨f5, r5⟩
          have D5 := D4.frR f5 (show Cutr h5 gc l y0 by rw [hy0]; exact r5)
          clear f5 r5
          simp (disch := first | omega | assumption) only [C.rr_field_gos, vs, Go.Vc.vk, T.ts, ↓reduceIte, Nat.reduceEqDiff, reduceCtorEq, Nat.reduceLeDiff, Nat.reducePow, Int.reducePow, Int.reduceToNat, Nat.reduceAdd]
        case' cbS =>
          subst hs
          have hb5 : y0 = b.2 := by rw [hy0]; rfl
          simp (disch := first | omega | assumption) only [C.rr_field_gos, vs, Go.Vc.vk, T.ts, ↓reduceIte, Nat.reduceEqDiff, reduceCtorEq, Nat.reduceLeDiff, Nat.reducePow, Int.reducePow, Int.reduceToNat, Nat.reduceAdd, eq_true hn']
          obtain ⟨h5, hh5⟩ : ∃ h5, h5 = h4 := ⟨_, rfl⟩
          rw [← hh5]
          have D5 := D4.frR (FrR.ext (Ext.refl _)) (show Cutr h4 gc l y0 by rw [hb5]; exact D4.rg.r)
          rw [← hh5] at D5
          clear hh5 hb5
        all_goals
          clear k0 D4
          refine eff_call_of ?_
          simp (disch := first | omega | assumption) only [C.rr_field_gos, vs, Go.Vc.vk, T.ts, ↓reduceIte, Nat.reduceEqDiff, reduceCtorEq, Nat.reduceLeDiff, Nat.reducePow, Int.reducePow, Int.reduceToNat, Nat.reduceAdd]
          refine (rindex_any hl D5.rg).mono ?_
          rintro _ h6 ⟨f6, r6, rfl⟩
          have D6 := D5.frR f6 r6
          have kc : cellAt h6 ⟨fb, 3, none⟩ = some (.int .u16 (sv : Int)) := by rw [D6.cell]; rfl
          simp (disch := first | omega | assumption) only [C.rr_field_gos, vs, Go.Vc.vk, T.ts, ↓reduceIte, Nat.reduceEqDiff, reduceCtorEq, Nat.reduceLeDiff, Nat.reducePow, Int.reducePow, Int.reduceToNat, Nat.reduceAdd]
          refine eff_store1_z T.zr_38 rfl rfl rfl rfl rfl kc (D6.frozen _) ?_
          have D7 := D6.set 3 (.int .u16 ((numS l 2 y0).1 : Int))
          clear D6 kc f6 r6 D5
          generalize setAt h6 ⟨fb, 3, none⟩ _ = h7 at *
          simp (disch := first | omega | assumption) only [C.rr_field_gos, vs, Go.Vc.vk, T.ts, ↓reduceIte, Nat.reduceEqDiff, reduceCtorEq, Nat.reduceLeDiff, Nat.reducePow, Int.reducePow, Int.reduceToNat, Nat.reduceAdd]
          refine eff_call_of ?_
          simp (disch := first | omega | assumption) only [C.rr_field_gos, vs, Go.Vc.vk, T.ts, ↓reduceIte, Nat.reduceEqDiff, reduceCtorEq, Nat.reduceLeDiff, Nat.reducePow, Int.reducePow, Int.reduceToNat, Nat.reduceAdd]
          refine (rover_any hl D7.rg true u.p _ (by omega) (by omega) (fun hh => by cases hh)).mono ?_
          rintro _ h8 ⟨f8, r8⟩
          rw [overS_yes rfl] at r8
          have D8 := D7.frR f8 r8
          simp (disch := first | omega | assumption) only [C.rr_field_gos, vs, Go.Vc.vk, T.ts, ↓reduceIte, Nat.reduceEqDiff, reduceCtorEq, Nat.reduceLeDiff, Nat.reducePow, Int.reducePow, Int.reduceToNat, Nat.reduceAdd, hw]
          exact ⟨_, by omega, j, (true, (numS l 2 y0).1), _, rfl, by omega, rfl, D8, hL⟩
  have hR2 : R = (x, u) := by
    rw [← hL]
    rcases Nat.eq_zero_or_pos m with h0 | h0
    · subst h0; rfl
    · exact attrsR_bad (fun he => hgo ⟨h0, he⟩)
  refine Or.elim (Classical.em (m = 0)) (fun h0 => ?ccG) (fun h0 => ?cdG)
  case' ccG =>
    have hz : ¬ (0 : Int) < (m : Int) := by omega
    simp (disch := first | omega | assumption) only [C.rr_field_gos, vs, Go.Vc.vk, T.ts, ↓reduceIte, Nat.reduceEqDiff, reduceCtorEq, Nat.reduceLeDiff, Nat.reducePow, Int.reducePow, Int.reduceToNat, Nat.reduceAdd, hz]
  case' cdG =>
    have hz : (0 : Int) < (m : Int) := by omega
    have he' : ¬ (u.e : Int) = 0 := fun he => hgo ⟨by omega, by omega⟩
    simp (disch := first | omega | assumption) only [C.rr_field_gos, vs, Go.Vc.vk, T.ts, ↓reduceIte, Nat.reduceEqDiff, reduceCtorEq, Nat.reduceLeDiff, Nat.reducePow, Int.reducePow, Int.reduceToNat, Nat.reduceAdd, hz, k0, c2, eq_false he']
  all_goals
    clear hz h0 hgo k0 c2 hL
    have hfin : fieldR p l s = ((⟨f1, f2, f3, x.2⟩ : Fld), u) := by
      unfold fieldR
      simp only [← hf1, ← hf2, ← hf3, ← hs3, ← hK, ← hR, hR2]
    rw [hfin]
    have hld := ld_agg T.ag_89 (Rd_block (vs := Fld.cells ⟨f1, f2, f3, x.2⟩) Dx.bf) rfl
    simp only [Fld.cells] at hld
    simp (disch := first | omega | assumption) only [C.rr_field_gos, vs, Go.Vc.vk, T.ts, ↓reduceIte, Nat.reduceEqDiff, reduceCtorEq, Nat.reduceLeDiff, Nat.reducePow, Int.reducePow, Int.reduceToNat, Nat.reduceAdd, hld]
    refine eff_storeN_zz T.zr_89 rfl rfl rfl (by simp [Value.cells, oneCell]) Dx.bz (by decide) (fun j _ _ => by simp) ?_
    intro h6 f6 b6
    have hrd : Rd h6 rb 0 (Fld.cells ⟨f1, f2, f3, x.2⟩) := Rd_block (by simpa [Value.cells, Fld.cells] using b6)
    have hld6 := ld_agg T.ag_89 hrd rfl
    simp only [Fld.cells] at hld6
    have o1 := Dx.o1
    have o4 := Dx.o4
    simp (disch := first | omega | assumption) only [C.rr_field_gos, vs, Go.Vc.vk, T.ts, ↓reduceIte, Nat.reduceEqDiff, reduceCtorEq, Nat.reduceLeDiff, Nat.reducePow, Int.reducePow, Int.reduceToNat, Nat.reduceAdd, hld6]
    exact ⟨Dx.fr.new f6 o1, Dx.rg.r.fr f6 (by omega), rfl⟩
end
end Go.Proofs.Ytohkbpnblkkdgaa
