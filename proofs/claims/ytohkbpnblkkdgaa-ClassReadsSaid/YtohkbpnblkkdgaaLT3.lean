/- The reference's reading of classes: code. -/
import Derived.Test.YtohkbpnblkkdgaaLT2
namespace Go.Proofs.Ytohkbpnblkkdgaa
open Go.Vc
set_option maxRecDepth 100000
set_option linter.unusedSimpArgs false
set_option linter.unusedVariables false

/-- As before, with a list of handlers of its own. -/
structure GH (h0 : Heap) (g gc rb fb : Nat) (l : List UInt8) (p : List Cst) (vp : Value) (ty : TypeId) (zs : Array Value) (cs : List Value) (w : Value) (hs : List Hnd) (t : RS) (hx : Heap) : Prop where
  x : GX h0 g gc rb fb l p vp ty zs cs t hx
  o : Own hx h0.size 132 4 w hs.length (flatH hs)
section
variable {h0 hx hy : Heap} {g gc rb fb : Nat} {l : List UInt8} {p : List Cst} {vp w : Value} {ty : TypeId} {zs : Array Value} {cs : List Value} {hs : List Hnd} {t u : RS}
theorem GH.rg (D : GH h0 g gc rb fb l p vp ty zs cs w hs t hx) : RG hx g gc l p vp t := D.x.rg
theorem GH.frR (D : GH h0 g gc rb fb l p vp ty zs cs w hs t hx) (f : FrR gc hx hy) (r : Cutr hy gc l u) : GH h0 g gc rb fb l p vp ty zs cs w hs u hy :=
  ⟨D.x.frR f r, own_keep D.o f (e := 66) (fun k _ hk => ⟨_, _, hk ▸ D.x.rg.r.1⟩) (by decide)⟩
theorem GH.ext (D : GH h0 g gc rb fb l p vp ty zs cs w hs t hx) (x : Ext hx hy) : GH h0 g gc rb fb l p vp ty zs cs w hs t hy := ⟨D.x.ext x, D.o.ext x⟩
theorem GH.put (D : GH h0 g gc rb fb l p vp ty zs cs w hs t hx) {ds : List Value} (hne : 132 ≠ ty) (f : Fr (fun k => k = fb) hx hy) (hb : hy[fb]? = some (.cells ds.toArray ty (0, 0))) : GH h0 g gc rb fb l p vp ty zs ds w hs t hy :=
  ⟨D.x.put f hb, own_keep D.o f (e := ty) (fun k _ hk => ⟨_, _, hk ▸ D.x.bf⟩) hne⟩
theorem GH.set (D : GH h0 g gc rb fb l p vp ty zs cs w hs t hx) (hne : 132 ≠ ty) (k : Nat) (v : Value) : GH h0 g gc rb fb l p vp ty zs (cs.set k v) w hs t (setAt hx ⟨fb, k, none⟩ v) := by
  have b1 := setAt_get (o := k) D.x.bf v
  exact D.put hne (Fr.set (S := fun k => k = fb) _ _ _ fun _ => rfl) (by rw [b1]; simp)
theorem GH.cell (D : GH h0 g gc rb fb l p vp ty zs cs w hs t hx) (k : Nat) : cellAt hx ⟨fb, k, none⟩ = cs[k]? := D.x.cell k
theorem GH.frozen (D : GH h0 g gc rb fb l p vp ty zs cs w hs t hx) (k : Nat) : frozenAt hx ⟨fb, k, none⟩ = false := D.x.frozen k
theorem GH.out {b : Nat} (D : GH h0 g gc rb fb l p vp ty zs cs w hs t hx) (f : Fr (fun k => k = b) hx hy) (hb : h0.size ≤ b) (h1 : b ≠ rb) (h2 : b ≠ fb) (h3 : ∀ k, w.ownBlock = some k → k ≠ b) : GH h0 g gc rb fb l p vp ty zs cs w hs t hy :=
  ⟨D.x.out f hb h1 h2, D.o.fr f (fun k hk hS => h3 k hk hS)⟩
theorem GH.app (D : GH h0 g gc rb fb l p vp ty zs cs w hs t hx) (hne : 132 ≠ ty) (f : Fr (fun k => w.ownBlock = some k) hx hy) {w' : Value} {hs' : List Hnd} (O : Own hy h0.size 132 4 w' hs'.length (flatH hs')) : GH h0 g gc rb fb l p vp ty zs cs w' hs' t hy := by
  have hS : ∀ k, k < hx.size → w.ownBlock = some k → ∃ cs fz, hx[k]? = some (.cells cs 132 fz) := fun k _ hk => (own_ty D.o k hk).2
  have hfr : FrR gc h0 hy := Fr.trans D.x.fr f (fun _ _ hh => hh) (fun k hk hS => by have := (own_ty D.o k hS).1; omega)
  exact ⟨⟨⟨blk_keep D.x.rg.q f hS (by decide), ⟨blk_keep D.x.rg.r.1 f hS (by decide), D.x.rg.r.2⟩, D.x.p0.fr (by decide) hfr (fun k _ hk hS => D.x.rg.nb (by rw [hk, hS])), D.x.rg.nb, D.x.rg.ne⟩, blk_keep D.x.bf f hS (Ne.symm hne), blk_keep D.x.bz f hS (Ne.symm hne), hfr, D.x.o1, D.x.o2, D.x.o3, D.x.o4, D.x.p0⟩, O⟩
end
section
variable {h : Heap} {g gc : Nat} {l : List UInt8} {p : List Cst} {vp : Value} {s : RS}
set_option maxHeartbeats 8000000 in
theorem rcode_any (hl : l.length ≤ 1073741824) (D : RG h g gc l p vp s) :
    HCalls Try.prog 85 #[.pointer (some ⟨g, 0, none⟩)] h fun r h' => FrR gc h h' ∧ Cutr h' gc l (codeR p l s).2 ∧ ∃ vH, r = .agg (CdeV (codeR p l s).1 vH).toArray ∧ Own h' h.size 132 4 vH (codeR p l s).1.hs.length (flatH (codeR p l s).1.hs) := by
  refine C.rr_code_calls (args := [.pointer (some ⟨g, 0, none⟩)]) rfl ?_
  have hgc := D.r.lt
  have hg : g < h.size := (Array.getElem?_eq_some_iff.1 D.q).1
  simp (disch := first | omega | assumption) only [C.rr_code_gos, vs, Go.Vc.vk, T.ts, ↓reduceIte, Nat.reduceEqDiff, reduceCtorEq, Nat.reduceLeDiff, Nat.reducePow, Int.reducePow, Int.reduceToNat, Nat.reduceAdd]
  refine eff_alloc_z T.zr_79 ?_
  have e1 : Ext h (h.push (.cells #[.int .i64 0, .int .i64 0, str [], .slice none 0 0, str []] 79)) := Ext.push _ _
  have b1 : (h.push (.cells #[.int .i64 0, .int .i64 0, str [], .slice none 0 0, str []] 79))[h.size]? = some (.cells #[.int .i64 0, .int .i64 0, str [], .slice none 0 0, str []] 79 (0, 0)) := by simp
  have s1 : (h.push (.cells #[.int .i64 0, .int .i64 0, str [], .slice none 0 0, str []] 79)).size = h.size + 1 := by simp
  simp (disch := first | omega | assumption) only [C.rr_code_gos, vs, Go.Vc.vk, T.ts, ↓reduceIte, Nat.reduceEqDiff, reduceCtorEq, Nat.reduceLeDiff, Nat.reducePow, Int.reducePow, Int.reduceToNat, Nat.reduceAdd]
  generalize h.push (.cells #[.int .i64 0, .int .i64 0, str [], .slice none 0 0, str []] 79) = h1 at *
  obtain ⟨rb, hrb⟩ : ∃ x, x = h.size := ⟨_, rfl⟩
  rw [← hrb] at b1 ⊢
  refine eff_alloc_z T.zr_79 ?_
  simp (disch := first | omega | assumption) only [C.rr_code_gos, vs, Go.Vc.vk, T.ts, ↓reduceIte, Nat.reduceEqDiff, reduceCtorEq, Nat.reduceLeDiff, Nat.reducePow, Int.reducePow, Int.reduceToNat, Nat.reduceAdd]
  refine eff_store_new_z T.zr_79 rfl rfl rfl (by simp [Value.cells, oneCell, str]) rfl ?_
  intro h2 x2 hlt2 hrd2 b2
  obtain ⟨fb, hfb⟩ : ∃ x, x = h1.size := ⟨_, rfl⟩
  rw [← hfb] at b2 ⊢
  have D2 : GX h g gc rb fb l p vp 79 #[.int .i64 0, .int .i64 0, str [], .slice none 0 0, str []] [.int .i64 0, .int .i64 0, str [], .slice none 0 0, str []] s h2 :=
    ⟨D.frR (FrR.ext (e1.trans x2)) (D.r.fr (e1.trans x2) id), b2, Fr_blk x2 b1 id, FrR.ext (e1.trans x2), by omega, by omega, by omega, ⟨hg, hgc⟩, D.p⟩
  clear e1 b1 s1 x2 hrd2 b2
  have k0 := D2.rg.k0
  simp (disch := first | omega | assumption) only [C.rr_code_gos, vs, Go.Vc.vk, T.ts, ↓reduceIte, Nat.reduceEqDiff, reduceCtorEq, Nat.reduceLeDiff, Nat.reducePow, Int.reducePow, Int.reduceToNat, Nat.reduceAdd, k0]
  refine eff_call_of ?_
  simp (disch := first | omega | assumption) only [C.rr_code_gos, vs, Go.Vc.vk, T.ts, ↓reduceIte, Nat.reduceEqDiff, reduceCtorEq, Nat.reduceLeDiff, Nat.reducePow, Int.reducePow, Int.reduceToNat, Nat.reduceAdd]
  refine (cnum_any 2 hl (by omega) D2.rg.r).mono ?_
  rintro _ y3 ⟨f3, r3, rfl⟩
  have E3 := D2.frR f3 r3
  have kc : cellAt y3 ⟨fb, 0, none⟩ = some (.int .i64 0) := by rw [E3.cell]; rfl
  simp (disch := first | omega | assumption) only [C.rr_code_gos, vs, Go.Vc.vk, T.ts, ↓reduceIte, Nat.reduceEqDiff, reduceCtorEq, Nat.reduceLeDiff, Nat.reducePow, Int.reducePow, Int.reduceToNat, Nat.reduceAdd]
  refine eff_store1_z T.zr_3 rfl rfl rfl rfl rfl kc (E3.frozen _) ?_
  have D3 := E3.set 0 ((.int .i64 ((numS l 2 s).1 : Int)))
  clear E3 kc k0 f3 r3 D2
  generalize setAt y3 ⟨fb, 0, none⟩ _ = h3 at *
  have k0 := D3.rg.k0
  simp (disch := first | omega | assumption) only [C.rr_code_gos, vs, Go.Vc.vk, T.ts, ↓reduceIte, Nat.reduceEqDiff, reduceCtorEq, Nat.reduceLeDiff, Nat.reducePow, Int.reducePow, Int.reduceToNat, Nat.reduceAdd, k0]
  refine eff_call_of ?_
  simp (disch := first | omega | assumption) only [C.rr_code_gos, vs, Go.Vc.vk, T.ts, ↓reduceIte, Nat.reduceEqDiff, reduceCtorEq, Nat.reduceLeDiff, Nat.reducePow, Int.reducePow, Int.reduceToNat, Nat.reduceAdd]
  refine (cnum_any 2 hl (by omega) D3.rg.r).mono ?_
  rintro _ y4 ⟨f4, r4, rfl⟩
  have E4 := D3.frR f4 r4
  have kc : cellAt y4 ⟨fb, 1, none⟩ = some (.int .i64 0) := by rw [E4.cell]; rfl
  simp (disch := first | omega | assumption) only [C.rr_code_gos, vs, Go.Vc.vk, T.ts, ↓reduceIte, Nat.reduceEqDiff, reduceCtorEq, Nat.reduceLeDiff, Nat.reducePow, Int.reducePow, Int.reduceToNat, Nat.reduceAdd]
  refine eff_store1_z T.zr_3 rfl rfl rfl rfl rfl kc (E4.frozen _) ?_
  have D4 := E4.set 1 ((.int .i64 ((numS l 2 (numS l 2 s).2).1 : Int)))
  clear E4 kc k0 f4 r4 D3
  generalize setAt y4 ⟨fb, 1, none⟩ _ = h4 at *
  obtain ⟨a, ha⟩ : ∃ x, x = (numS l 2 s).1 := ⟨_, rfl⟩
  obtain ⟨b0, hb0⟩ : ∃ x, x = (numS l 2 (numS l 2 s).2).1 := ⟨_, rfl⟩
  obtain ⟨s2, hs2⟩ : ∃ x, x = (numS l 2 (numS l 2 s).2).2 := ⟨_, rfl⟩
  rw [← ha, ← hb0, ← hs2] at D4
  have k0 := D4.rg.k0
  simp (disch := first | omega | assumption) only [C.rr_code_gos, vs, Go.Vc.vk, T.ts, ↓reduceIte, Nat.reduceEqDiff, reduceCtorEq, Nat.reduceLeDiff, Nat.reducePow, Int.reducePow, Int.reduceToNat, Nat.reduceAdd, k0]
  refine eff_call_of ?_
  simp (disch := first | omega | assumption) only [C.rr_code_gos, vs, Go.Vc.vk, T.ts, ↓reduceIte, Nat.reduceEqDiff, reduceCtorEq, Nat.reduceLeDiff, Nat.reducePow, Int.reducePow, Int.reduceToNat, Nat.reduceAdd]
  refine (cnum_any 4 hl (by omega) D4.rg.r).mono ?_
  rintro _ y5 ⟨f5, r5, rfl⟩
  have D5 := D4.frR f5 r5
  have hn4 := @numS_lt l 4 s2
  simp only [Nat.reducePow] at hn4
  clear k0 D4 f5 r5
  have k0 := D5.rg.k0
  simp (disch := first | omega | assumption) only [C.rr_code_gos, vs, Go.Vc.vk, T.ts, ↓reduceIte, Nat.reduceEqDiff, reduceCtorEq, Nat.reduceLeDiff, Nat.reducePow, Int.reducePow, Int.reduceToNat, Nat.reduceAdd, k0]
  refine eff_call_of ?_
  simp (disch := first | omega | assumption) only [C.rr_code_gos, vs, Go.Vc.vk, T.ts, ↓reduceIte, Nat.reduceEqDiff, reduceCtorEq, Nat.reduceLeDiff, Nat.reducePow, Int.reducePow, Int.reduceToNat, Nat.reduceAdd]
  refine (ctake_any (numS l 4 s2).1 hl (by omega) D5.rg.r).mono ?_
  rintro _ y6 ⟨f6, r6, rfl⟩
  have E6 := D5.frR f6 r6
  obtain ⟨M, hM⟩ : ∃ M, M = takeS l (numS l 4 s2).1 (numS l 4 s2).2 := ⟨_, rfl⟩
  rw [← hM] at E6 ⊢
  have kc : cellAt y6 ⟨fb, 2, none⟩ = some (str []) := by rw [E6.cell]; rfl
  simp (disch := first | omega | assumption) only [C.rr_code_gos, vs, Go.Vc.vk, T.ts, ↓reduceIte, Nat.reduceEqDiff, reduceCtorEq, Nat.reduceLeDiff, Nat.reducePow, Int.reducePow, Int.reduceToNat, Nat.reduceAdd]
  refine eff_store1_z T.zr_9 rfl rfl rfl rfl rfl kc (E6.frozen _) ?_
  have D6' := E6.set 2 (str M.1)
  clear E6 kc f6 r6 D5 k0
  generalize setAt y6 ⟨fb, 2, none⟩ _ = h6 at *
  have D6 : GH h g gc rb fb l p vp 79 #[.int .i64 0, .int .i64 0, str [], .slice none 0 0, str []] (CdeV ⟨(a : Int), (b0 : Int), M.1, [], []⟩ (.slice none 0 0)) (.slice none 0 0) [] M.2 h6 := ⟨D6', Own.nil⟩
  clear D6'
  have k0 := D6.rg.k0
  simp (disch := first | omega | assumption) only [C.rr_code_gos, vs, Go.Vc.vk, T.ts, ↓reduceIte, Nat.reduceEqDiff, reduceCtorEq, Nat.reduceLeDiff, Nat.reducePow, Int.reducePow, Int.reduceToNat, Nat.reduceAdd, k0]
  refine eff_call_of ?_
  simp (disch := first | omega | assumption) only [C.rr_code_gos, vs, Go.Vc.vk, T.ts, ↓reduceIte, Nat.reduceEqDiff, reduceCtorEq, Nat.reduceLeDiff, Nat.reducePow, Int.reducePow, Int.reduceToNat, Nat.reduceAdd]
  refine (cnum_any 2 hl (by omega) D6.rg.r).mono ?_
  rintro _ w1 ⟨g1, q1, rfl⟩
  have hk := @numS_lt l 2 M.2
  simp only [Nat.reducePow] at hk
  have Dw := D6.frR g1 q1
  obtain ⟨K0, hK0⟩ : ∃ K, K = numS l 2 M.2 := ⟨_, rfl⟩
  rw [← hK0] at hk Dw ⊢
  obtain ⟨R0, hR0⟩ : ∃ R, R = loopS (hndR l) K0.1 [] K0.2 := ⟨_, rfl⟩
  clear k0 g1 q1 D6
  simp (disch := first | omega | assumption) only [C.rr_code_gos, vs, Go.Vc.vk, T.ts, ↓reduceIte, Nat.reduceEqDiff, reduceCtorEq, Nat.reduceLeDiff, Nat.reducePow, Int.reducePow, Int.reduceToNat, Nat.reduceAdd]
  refine loop_intro [0, 2, 3, 4] (fun m ρ hc => ∃ (k : Nat) (hs : List Hnd) (w : Value) (u : RS), m = k ∧ hs.length + k ≤ 65535 ∧ ρ = [(0, .pointer (some ⟨g, 0, none⟩)), (2, .pointer (some ⟨rb, 0, none⟩)), (3, .pointer (some ⟨fb, 0, none⟩)), (4, .int .i64 k)] ∧ GH h g gc rb fb l p vp 79 #[.int .i64 0, .int .i64 0, str [], .slice none 0 0, str []] (CdeV ⟨(a : Int), (b0 : Int), M.1, hs, []⟩ w) w hs u hc ∧ loopS (hndR l) k hs u = R0) ?_ ?_
  · simp (disch := first | omega | assumption) only [C.rr_code_gos, vs, Go.Vc.vk, T.ts, ↓reduceIte, Nat.reduceEqDiff, reduceCtorEq, Nat.reduceLeDiff, Nat.reducePow, Int.reducePow, Int.reduceToNat, Nat.reduceAdd]
    exact ⟨_, K0.1, [], _, K0.2, rfl, by simp; omega, rfl, Dw, hR0.symm⟩
  clear Dw
  rintro m ρ hc ⟨k, hs, w, u, rfl, hkk, rfl, Dx, hL⟩
  have k0 := Dx.rg.k0
  have c2 := Dx.rg.r.c2
  refine Or.elim (Classical.em (0 < m ∧ u.e = 0)) (fun hgo => ?caG) (fun hgo => ?cbG)
  case caG =>
    obtain ⟨hpos, he⟩ := hgo
    obtain ⟨j, rfl⟩ : ∃ j, m = j + 1 := ⟨m - 1, by omega⟩
    have hpos' : (0 : Int) < ((j + 1 : Nat) : Int) := by omega
    have he' : (u.e : Int) = 0 := by omega
    rw [loopS, if_neg (by simp [he])] at hL
    have hw : IntKind.i64.wrap (((j + 1 : Nat) : Int) - 1) = (j : Int) := by rw [wrap_i64 (by omega) (by omega)]; omega
    simp (disch := first | omega | assumption) only [C.rr_code_gos, vs, Go.Vc.vk, T.ts, ↓reduceIte, Nat.reduceEqDiff, reduceCtorEq, Nat.reduceLeDiff, Nat.reducePow, Int.reducePow, Int.reduceToNat, Nat.reduceAdd, hpos', k0, c2, eq_true he']
    refine eff_alloc_z T.zr_132 ?_
    simp (disch := first | omega | assumption) only [C.rr_code_gos, vs, Go.Vc.vk, T.ts, ↓reduceIte, Nat.reduceEqDiff, reduceCtorEq, Nat.reduceLeDiff, Nat.reducePow, Int.reducePow, Int.reduceToNat, Nat.reduceAdd]
    refine eff_store_new_z T.zr_132 rfl rfl rfl (by simp [Value.cells, oneCell]) rfl ?_
    intro z2 x2 hlt2 hrd2 B19
    have hfbl := (Array.getElem?_eq_some_iff.1 Dx.x.bf).1
    have hrbl := (Array.getElem?_eq_some_iff.1 Dx.x.bz).1
    have hwb : ∀ k, w.ownBlock = some k → k < hc.size := fun k hk => (Dx.o.lt k hk).2
    have hsz := Dx.x.fr.size
    have hgcl := Dx.x.o4.2
    have E0 := Dx.ext x2
    obtain ⟨hb, hhb⟩ : ∃ x, x = hc.size := ⟨_, rfl⟩
    rw [← hhb] at B19 hfbl hrbl hwb hsz ⊢
    clear k0 c2 Dx x2 hlt2 hrd2 hhb
    have k0 := E0.rg.k0
    simp (disch := first | omega | assumption) only [C.rr_code_gos, vs, Go.Vc.vk, T.ts, ↓reduceIte, Nat.reduceEqDiff, reduceCtorEq, Nat.reduceLeDiff, Nat.reducePow, Int.reducePow, Int.reduceToNat, Nat.reduceAdd, k0]
    refine eff_call_of ?_
    simp (disch := first | omega | assumption) only [C.rr_code_gos, vs, Go.Vc.vk, T.ts, ↓reduceIte, Nat.reduceEqDiff, reduceCtorEq, Nat.reduceLeDiff, Nat.reducePow, Int.reducePow, Int.reduceToNat, Nat.reduceAdd]
    refine (cnum_any 2 hl (by omega) E0.rg.r).mono ?_
    rintro _ y20 ⟨f20, r20, rfl⟩
    have E20 := E0.frR f20 r20
    have B20 := Fr_blk f20 B19 (show ¬ hb = gc by omega)
    have kc : cellAt y20 ⟨hb, 0, none⟩ = some (.int .i64 0) := by rw [cellAt_of B20]; rfl
    have kz : frozenAt y20 ⟨hb, 0, none⟩ = false := by simp [frozenAt, B20]
    simp (disch := first | omega | assumption) only [C.rr_code_gos, vs, Go.Vc.vk, T.ts, ↓reduceIte, Nat.reduceEqDiff, reduceCtorEq, Nat.reduceLeDiff, Nat.reducePow, Int.reducePow, Int.reduceToNat, Nat.reduceAdd]
    refine eff_store1_z T.zr_3 rfl rfl rfl rfl rfl kc kz ?_
    have F20 : Fr (fun k => k = hb) y20 (setAt y20 ⟨hb, 0, none⟩ (.int .i64 ((numS l 2 u).1 : Int))) := Fr.set (S := fun k => k = hb) _ _ _ fun _ => rfl
    have D20 := E20.out F20 (by omega) (by omega) (by omega) (fun k hk => by have := hwb k hk; omega)
    have C20 := setAt_get (o := 0) B20 (.int .i64 ((numS l 2 u).1 : Int))
    have C20 : (setAt y20 ⟨hb, 0, none⟩ (.int .i64 ((numS l 2 u).1 : Int)))[hb]? = some (.cells #[.int .i64 ((numS l 2 u).1 : Int), .int .i64 0, .int .i64 0, .int .u16 0] 132 (0, 0)) := C20
    generalize setAt y20 ⟨hb, 0, none⟩ _ = z20 at *
    have B21 := C20
    clear E20 B19 kc kz f20 r20 F20 C20 E0
    have k0 := D20.rg.k0
    simp (disch := first | omega | assumption) only [C.rr_code_gos, vs, Go.Vc.vk, T.ts, ↓reduceIte, Nat.reduceEqDiff, reduceCtorEq, Nat.reduceLeDiff, Nat.reducePow, Int.reducePow, Int.reduceToNat, Nat.reduceAdd, k0]
    refine eff_call_of ?_
    simp (disch := first | omega | assumption) only [C.rr_code_gos, vs, Go.Vc.vk, T.ts, ↓reduceIte, Nat.reduceEqDiff, reduceCtorEq, Nat.reduceLeDiff, Nat.reducePow, Int.reducePow, Int.reduceToNat, Nat.reduceAdd]
    refine (cnum_any 2 hl (by omega) D20.rg.r).mono ?_
    rintro _ y22 ⟨f22, r22, rfl⟩
    have E22 := D20.frR f22 r22
    have B22 := Fr_blk f22 B21 (show ¬ hb = gc by omega)
    have kc : cellAt y22 ⟨hb, 1, none⟩ = some (.int .i64 0) := by rw [cellAt_of B22]; rfl
    have kz : frozenAt y22 ⟨hb, 1, none⟩ = false := by simp [frozenAt, B22]
    simp (disch := first | omega | assumption) only [C.rr_code_gos, vs, Go.Vc.vk, T.ts, ↓reduceIte, Nat.reduceEqDiff, reduceCtorEq, Nat.reduceLeDiff, Nat.reducePow, Int.reducePow, Int.reduceToNat, Nat.reduceAdd]
    refine eff_store1_z T.zr_3 rfl rfl rfl rfl rfl kc kz ?_
    have F22 : Fr (fun k => k = hb) y22 (setAt y22 ⟨hb, 1, none⟩ (.int .i64 ((numS l 2 (numS l 2 u).2).1 : Int))) := Fr.set (S := fun k => k = hb) _ _ _ fun _ => rfl
    have D22 := E22.out F22 (by omega) (by omega) (by omega) (fun k hk => by have := hwb k hk; omega)
    have C22 := setAt_get (o := 1) B22 (.int .i64 ((numS l 2 (numS l 2 u).2).1 : Int))
    have C22 : (setAt y22 ⟨hb, 1, none⟩ (.int .i64 ((numS l 2 (numS l 2 u).2).1 : Int)))[hb]? = some (.cells #[.int .i64 ((numS l 2 u).1 : Int), .int .i64 ((numS l 2 (numS l 2 u).2).1 : Int), .int .i64 0, .int .u16 0] 132 (0, 0)) := C22
    generalize setAt y22 ⟨hb, 1, none⟩ _ = z22 at *
    have B23 := C22
    clear E22 B21 kc kz f22 r22 F22 C22 D20
    have k0 := D22.rg.k0
    simp (disch := first | omega | assumption) only [C.rr_code_gos, vs, Go.Vc.vk, T.ts, ↓reduceIte, Nat.reduceEqDiff, reduceCtorEq, Nat.reduceLeDiff, Nat.reducePow, Int.reducePow, Int.reduceToNat, Nat.reduceAdd, k0]
    refine eff_call_of ?_
    simp (disch := first | omega | assumption) only [C.rr_code_gos, vs, Go.Vc.vk, T.ts, ↓reduceIte, Nat.reduceEqDiff, reduceCtorEq, Nat.reduceLeDiff, Nat.reducePow, Int.reducePow, Int.reduceToNat, Nat.reduceAdd]
    refine (cnum_any 2 hl (by omega) D22.rg.r).mono ?_
    rintro _ y24 ⟨f24, r24, rfl⟩
    have E24 := D22.frR f24 r24
    have B24 := Fr_blk f24 B23 (show ¬ hb = gc by omega)
    have kc : cellAt y24 ⟨hb, 2, none⟩ = some (.int .i64 0) := by rw [cellAt_of B24]; rfl
    have kz : frozenAt y24 ⟨hb, 2, none⟩ = false := by simp [frozenAt, B24]
    simp (disch := first | omega | assumption) only [C.rr_code_gos, vs, Go.Vc.vk, T.ts, ↓reduceIte, Nat.reduceEqDiff, reduceCtorEq, Nat.reduceLeDiff, Nat.reducePow, Int.reducePow, Int.reduceToNat, Nat.reduceAdd]
    refine eff_store1_z T.zr_3 rfl rfl rfl rfl rfl kc kz ?_
    have F24 : Fr (fun k => k = hb) y24 (setAt y24 ⟨hb, 2, none⟩ (.int .i64 ((numS l 2 (numS l 2 (numS l 2 u).2).2).1 : Int))) := Fr.set (S := fun k => k = hb) _ _ _ fun _ => rfl
    have D24 := E24.out F24 (by omega) (by omega) (by omega) (fun k hk => by have := hwb k hk; omega)
    have C24 := setAt_get (o := 2) B24 (.int .i64 ((numS l 2 (numS l 2 (numS l 2 u).2).2).1 : Int))
    have C24 : (setAt y24 ⟨hb, 2, none⟩ (.int .i64 ((numS l 2 (numS l 2 (numS l 2 u).2).2).1 : Int)))[hb]? = some (.cells #[.int .i64 ((numS l 2 u).1 : Int), .int .i64 ((numS l 2 (numS l 2 u).2).1 : Int), .int .i64 ((numS l 2 (numS l 2 (numS l 2 u).2).2).1 : Int), .int .u16 0] 132 (0, 0)) := C24
    generalize setAt y24 ⟨hb, 2, none⟩ _ = z24 at *
    have B25 := C24
    clear E24 B23 kc kz f24 r24 F24 C24 D22
    simp (disch := first | omega | assumption) only [C.rr_code_gos, vs, Go.Vc.vk, T.ts, ↓reduceIte, Nat.reduceEqDiff, reduceCtorEq, Nat.reduceLeDiff, Nat.reducePow, Int.reducePow, Int.reduceToNat, Nat.reduceAdd]
    refine eff_call_of ?_
    simp (disch := first | omega | assumption) only [C.rr_code_gos, vs, Go.Vc.vk, T.ts, ↓reduceIte, Nat.reduceEqDiff, reduceCtorEq, Nat.reduceLeDiff, Nat.reducePow, Int.reducePow, Int.reduceToNat, Nat.reduceAdd]
    refine (rindex_any hl D24.rg).mono ?_
    rintro _ y26 ⟨f26, r26, rfl⟩
    have E26 := D24.frR f26 r26
    have B26 := Fr_blk f26 B25 (show ¬ hb = gc by omega)
    have kc : cellAt y26 ⟨hb, 3, none⟩ = some (.int .u16 0) := by rw [cellAt_of B26]; rfl
    have kz : frozenAt y26 ⟨hb, 3, none⟩ = false := by simp [frozenAt, B26]
    simp (disch := first | omega | assumption) only [C.rr_code_gos, vs, Go.Vc.vk, T.ts, ↓reduceIte, Nat.reduceEqDiff, reduceCtorEq, Nat.reduceLeDiff, Nat.reducePow, Int.reducePow, Int.reduceToNat, Nat.reduceAdd]
    refine eff_store1_z T.zr_38 rfl rfl rfl rfl rfl kc kz ?_
    have F26 : Fr (fun k => k = hb) y26 (setAt y26 ⟨hb, 3, none⟩ (.int .u16 ((numS l 2 (numS l 2 (numS l 2 (numS l 2 u).2).2).2).1 : Int))) := Fr.set (S := fun k => k = hb) _ _ _ fun _ => rfl
    have D26 := E26.out F26 (by omega) (by omega) (by omega) (fun k hk => by have := hwb k hk; omega)
    have C26 := setAt_get (o := 3) B26 (.int .u16 ((numS l 2 (numS l 2 (numS l 2 (numS l 2 u).2).2).2).1 : Int))
    have C26 : (setAt y26 ⟨hb, 3, none⟩ (.int .u16 ((numS l 2 (numS l 2 (numS l 2 (numS l 2 u).2).2).2).1 : Int)))[hb]? = some (.cells #[.int .i64 ((numS l 2 u).1 : Int), .int .i64 ((numS l 2 (numS l 2 u).2).1 : Int), .int .i64 ((numS l 2 (numS l 2 (numS l 2 u).2).2).1 : Int), .int .u16 ((numS l 2 (numS l 2 (numS l 2 (numS l 2 u).2).2).2).1 : Int)] 132 (0, 0)) := C26
    generalize setAt y26 ⟨hb, 3, none⟩ _ = z26 at *
    have B27 := C26
    clear E26 B25 kc kz f26 r26 F26 C26 D24
    change loopS (hndR l) j (hs ++ [(hndR l u).1]) (hndR l u).2 = R0 at hL
    obtain ⟨y, hy⟩ : ∃ y, y = (hndR l u).1 := ⟨_, rfl⟩
    have B28 : z26[hb]? = some (.cells y.cells.toArray 132 (0, 0)) := by rw [hy]; exact B27
    have D28 : GH h g gc rb fb l p vp 79 #[.int .i64 0, .int .i64 0, str [], .slice none 0 0, str []] (CdeV ⟨(a : Int), (b0 : Int), M.1, hs, []⟩ w) w hs (hndR l u).2 z26 := D26
    rw [← hy] at hL
    clear B27 D26
    have hld := ld_agg T.ag_132 (Rd_block B28) rfl
    simp only [Hnd.cells] at hld
    have k3 : cellAt z26 ⟨fb, 3, none⟩ = some w := by rw [D28.cell]; rfl
    simp (disch := first | omega | assumption) only [C.rr_code_gos, vs, Go.Vc.vk, T.ts, ↓reduceIte, Nat.reduceEqDiff, reduceCtorEq, Nat.reduceLeDiff, Nat.reducePow, Int.reducePow, Int.reduceToNat, Nat.reduceAdd, k3, hld]
    refine eff_lits T.slT_77 rfl rfl (by decide) ?_
    have hyc : y.cells = [.int .i64 y.from', .int .i64 y.to, .int .i64 y.target, .int .u16 (y.type : Int)] := rfl
    have ex : Ext z26 (z26.push (.cells y.cells.toArray 132)) := Ext.push _ _
    have ba : (z26.push (.cells y.cells.toArray 132))[z26.size]? = some (.cells y.cells.toArray 132 (0, 0)) := by simp
    have D29 := D28.ext ex
    rw [hyc] at ex ba D29
    simp (disch := first | omega | assumption) only [C.rr_code_gos, vs, Go.Vc.vk, T.ts, ↓reduceIte, Nat.reduceEqDiff, reduceCtorEq, Nat.reduceLeDiff, Nat.reducePow, Int.reducePow, Int.reduceToNat, Nat.reduceAdd]
    generalize z26.push _ = z5 at *
    generalize z26.size = lb at *
    rw [← hyc] at ba
    have hsl : SlN z5 4 (.slice (some ⟨lb, 0, none⟩) 1 1) 1 y.cells := ⟨rfl, _, _, rfl, .inr ⟨lb, 0, rfl, Rd_block ba⟩⟩
    have hone : ∀ w ∈ y.cells, oneCell w = true := fun w hw => one_H [y] w (by simpa [flatH] using hw)
    refine eff_append_slN (m := 1) (news := y.cells) T.slT_77 rfl rfl D29.o hsl hone (by first | omega | (simp only; omega)) (by first | omega | (simp only; omega)) D29.x.fr.size ?_
    intro w6 z6 own6 f6
    have D30 := D29.app (by decide) f6 (hs' := hs ++ [y]) (Own_cast own6 (by simp) (by simp [flatH]))
    obtain ⟨a6, c6, rfl, _⟩ := own6.slN.2
    have k36 : cellAt z6 ⟨fb, 3, none⟩ = some w := by rw [D30.cell]; rfl
    simp (disch := first | omega | assumption) only [C.rr_code_gos, vs, Go.Vc.vk, T.ts, ↓reduceIte, Nat.reduceEqDiff, reduceCtorEq, Nat.reduceLeDiff, Nat.reducePow, Int.reducePow, Int.reduceToNat, Nat.reduceAdd]
    refine eff_store1_z T.zr_77 rfl rfl rfl rfl rfl k36 (D30.frozen _) ?_
    have D31 := D30.set (by decide) 3 (.slice a6 (hs.length + 1) c6)
    simp (disch := first | omega | assumption) only [C.rr_code_gos, vs, Go.Vc.vk, T.ts, ↓reduceIte, Nat.reduceEqDiff, reduceCtorEq, Nat.reduceLeDiff, Nat.reducePow, Int.reducePow, Int.reduceToNat, Nat.reduceAdd, hw]
    exact ⟨_, by omega, j, hs ++ [y], _, _, rfl, by simp; omega, rfl, D31, hL⟩
  have hR02 : R0 = (hs, u) := by
    rw [← hL]
    rcases Nat.eq_zero_or_pos m with h0 | h0
    · subst h0; rfl
    · exact loopS_bad (fun he => hgo ⟨h0, he⟩)
  have hjoin : ∀ x52 : Value, Cd.vc Try.prog C.rr_code_t0 (retQ Try.prog [(2, some 79)] fun r h' => FrR gc h h' ∧ Cutr h' gc l (codeR p l s).2 ∧ ∃ vH, r = .agg (CdeV (codeR p l s).1 vH).toArray ∧ Own h' rb 132 4 vH (codeR p l s).1.hs.length (flatH (codeR p l s).1.hs)) [(0, .pointer (some ⟨g, 0, none⟩)), (2, .pointer (some ⟨rb, 0, none⟩)), (3, .pointer (some ⟨fb, 0, none⟩)), (4, .int .i64 (m : Int)), (52, x52)] hc := by
    intro x52
    rw [C.rr_code_t0_go]
    clear k0 c2 hgo hL
    have D6 : GH h g gc rb fb l p vp 79 #[.int .i64 0, .int .i64 0, str [], .slice none 0 0, str []] (CdeV ⟨(a : Int), (b0 : Int), M.1, hs, (false, ([] : List UInt8)).2⟩ w) w hs u hc := Dx
    clear Dx hkk
    have k0 := D6.rg.k0
    simp (disch := first | omega | assumption) only [C.rr_code_gos, vs, Go.Vc.vk, T.ts, ↓reduceIte, Nat.reduceEqDiff, reduceCtorEq, Nat.reduceLeDiff, Nat.reducePow, Int.reducePow, Int.reduceToNat, Nat.reduceAdd, k0]
    refine eff_call_of ?_
    simp (disch := first | omega | assumption) only [C.rr_code_gos, vs, Go.Vc.vk, T.ts, ↓reduceIte, Nat.reduceEqDiff, reduceCtorEq, Nat.reduceLeDiff, Nat.reducePow, Int.reducePow, Int.reduceToNat, Nat.reduceAdd]
    refine (cnum_any 2 hl (by omega) D6.rg.r).mono ?_
    rintro _ w1 ⟨g1, q1, rfl⟩
    have hk := @numS_lt l 2 u
    simp only [Nat.reducePow] at hk
    have Dw := D6.frR g1 q1
    obtain ⟨K, hK⟩ : ∃ K, K = numS l 2 u := ⟨_, rfl⟩
    rw [← hK] at hk Dw ⊢
    obtain ⟨R, hR⟩ : ∃ R, R = attrsR p l (smT l) K.1 (false, []) K.2 := ⟨_, rfl⟩
    clear k0 g1 q1 D6
    simp (disch := first | omega | assumption) only [C.rr_code_gos, vs, Go.Vc.vk, T.ts, ↓reduceIte, Nat.reduceEqDiff, reduceCtorEq, Nat.reduceLeDiff, Nat.reducePow, Int.reducePow, Int.reduceToNat, Nat.reduceAdd]
    refine loop_intro [0, 2, 3, 6, 7] (fun m ρ hc => ∃ (k : Nat) (x : Bool × List UInt8) (u : RS) , m = k ∧ k < 65536 ∧ ρ = [(0, .pointer (some ⟨g, 0, none⟩)), (2, .pointer (some ⟨rb, 0, none⟩)), (3, .pointer (some ⟨fb, 0, none⟩)), (6, .bool x.1), (7, .int .i64 k)] ∧ GH h g gc rb fb l p vp 79 #[.int .i64 0, .int .i64 0, str [], .slice none 0 0, str []] (CdeV ⟨(a : Int), (b0 : Int), M.1, hs, x.2⟩ w) w hs u hc ∧ attrsR p l (smT l) k x u = R) ?_ ?_
    · simp (disch := first | omega | assumption) only [C.rr_code_gos, vs, Go.Vc.vk, T.ts, ↓reduceIte, Nat.reduceEqDiff, reduceCtorEq, Nat.reduceLeDiff, Nat.reducePow, Int.reducePow, Int.reduceToNat, Nat.reduceAdd]
      exact ⟨_, K.1, (false, []), K.2, rfl, by simpa using hk, rfl, Dw, hR.symm⟩
    clear Dw
    rintro m ρ hc ⟨k, x, u, rfl, hkk, rfl, Dx, hL⟩
    have k0 := Dx.rg.k0
    have c2 := Dx.rg.r.c2
    refine Or.elim (Classical.em (0 < m ∧ u.e = 0)) (fun hgo => ?jcaG) (fun hgo => ?jcbG)
    case jcaG =>
      obtain ⟨hpos, he⟩ := hgo
      obtain ⟨j, rfl⟩ : ∃ j, m = j + 1 := ⟨m - 1, by omega⟩
      have hpos' : (0 : Int) < ((j + 1 : Nat) : Int) := by omega
      have he' : (u.e : Int) = 0 := by omega
      rw [attrsR_step he] at hL
      have hw : IntKind.i64.wrap (((j + 1 : Nat) : Int) - 1) = (j : Int) := by rw [wrap_i64 (by omega) (by omega)]; omega
      simp (disch := first | omega | assumption) only [C.rr_code_gos, vs, Go.Vc.vk, T.ts, ↓reduceIte, Nat.reduceEqDiff, reduceCtorEq, Nat.reduceLeDiff, Nat.reducePow, Int.reducePow, Int.reduceToNat, Nat.reduceAdd, hpos', k0, c2, eq_true he']
      refine eff_call_of ?_
      simp (disch := first | omega | assumption) only [C.rr_code_gos, vs, Go.Vc.vk, T.ts, ↓reduceIte, Nat.reduceEqDiff, reduceCtorEq, Nat.reduceLeDiff, Nat.reducePow, Int.reducePow, Int.reduceToNat, Nat.reduceAdd]
      refine (rattribute_any hl Dx.rg).mono ?_
      rintro _ h4 ⟨f4, r4, nm, en, rfl, hA⟩
      have D4 := Dx.frR f4 r4
      have hup := Dx.rg.r.2
      clear Dx f4 r4 k0 c2
      have hb1 := hA.lt
      have hbp := D4.rg.r.2
      have hAb := hA.bad
      have hAo := hA.ok
      clear hA
      generalize attB p l u = b at *
      by_cases hbe : b.2.e = 0
      case neg =>
        obtain ⟨rfl, rfl⟩ := hAb hbe
        rw [if_pos hbe] at hL
        simp (disch := first | omega | assumption) only [C.rr_code_gos, vs, Go.Vc.vk, T.ts, ↓reduceIte, Nat.reduceEqDiff, reduceCtorEq, Nat.reduceLeDiff, Nat.reducePow, Int.reducePow, Int.reduceToNat, Nat.reduceAdd]
        refine eff_call_of ?_
        simp (disch := first | omega | assumption) only [C.rr_code_gos, vs, Go.Vc.vk, T.ts, ↓reduceIte, Nat.reduceEqDiff, reduceCtorEq, Nat.reduceLeDiff, Nat.reducePow, Int.reducePow, Int.reduceToNat, Nat.reduceAdd]
        refine (rover_any hl D4.rg false u.p (-1) (by omega) (by omega) (fun _ hh => absurd hh hbe)).mono ?_
        rintro _ h5 ⟨f5, r5⟩
        rw [overS_bad hbe] at r5
        have D5 := D4.frR f5 r5
        simp (disch := first | omega | assumption) only [C.rr_code_gos, vs, Go.Vc.vk, T.ts, ↓reduceIte, Nat.reduceEqDiff, reduceCtorEq, Nat.reduceLeDiff, Nat.reducePow, Int.reducePow, Int.reduceToNat, Nat.reduceAdd, hw]
        exact ⟨_, by omega, j, x, b.2, rfl, by omega, rfl, D5, (attrsR_bad hbe).trans hL⟩
      case pos =>
        obtain ⟨rfl, rfl⟩ := hAo hbe
        rw [if_neg (by simp [hbe])] at hL
        by_cases hnm : strS p (numS l 2 u).1 = smN
        case neg =>
          have hT : (smT l) (strS p (numS l 2 u).1) u.p b.1 x b.2 = none := by unfold smT; rw [if_neg hnm]
          rw [hT] at hL
          have hn' : ¬ strS p (numS l 2 u).1 = [83, 116, 97, 99, 107, 77, 97, 112, 84, 97, 98, 108, 101] := hnm
          simp (disch := first | omega | assumption) only [C.rr_code_gos, vs, Go.Vc.vk, T.ts, ↓reduceIte, Nat.reduceEqDiff, reduceCtorEq, Nat.reduceLeDiff, Nat.reducePow, Int.reducePow, Int.reduceToNat, Nat.reduceAdd, eq_false hn']
          refine eff_call_of ?_
          simp (disch := first | omega | assumption) only [C.rr_code_gos, vs, Go.Vc.vk, T.ts, ↓reduceIte, Nat.reduceEqDiff, reduceCtorEq, Nat.reduceLeDiff, Nat.reducePow, Int.reducePow, Int.reduceToNat, Nat.reduceAdd]
          refine (rover_any hl D4.rg false u.p _ (by omega) (by omega) (fun _ _ => by omega)).mono ?_
          rintro _ h5 ⟨f5, r5⟩
          rw [overS_no hbe rfl] at r5
          have D5 := D4.frR f5 r5
          simp (disch := first | omega | assumption) only [C.rr_code_gos, vs, Go.Vc.vk, T.ts, ↓reduceIte, Nat.reduceEqDiff, reduceCtorEq, Nat.reduceLeDiff, Nat.reducePow, Int.reducePow, Int.reduceToNat, Nat.reduceAdd, hw]
          exact ⟨_, by omega, j, x, _, rfl, by omega, rfl, D5, hL⟩
        case pos =>
          obtain ⟨sn, sv⟩ := x
          obtain ⟨y0, hy0⟩ : ∃ y0, y0 = onceR sn u.p b.2 := ⟨_, rfl⟩
          have hT : (smT l) (strS p (numS l 2 u).1) u.p b.1 (sn, sv) b.2 = some ((true, (takeS l b.1 y0).1), (takeS l b.1 y0).2) := by unfold smT; rw [if_pos hnm, hy0]
          rw [hT] at hL
          have hn' : strS p (numS l 2 u).1 = [83, 116, 97, 99, 107, 77, 97, 112, 84, 97, 98, 108, 101] := hnm
          have hyp0 : y0.p = b.2.p := by rw [hy0]; unfold onceR failS; (repeat' split) <;> rfl <;> rfl
          clear hT hnm
          have k0 := D4.rg.k0

          refine Or.elim (show sn = true ∨ sn = false by cases sn <;> simp) (fun hs => ?jcaS) (fun hs => ?jcbS)
          case' jcaS =>
            subst hs
            simp (disch := first | omega | assumption) only [C.rr_code_gos, vs, Go.Vc.vk, T.ts, ↓reduceIte, Nat.reduceEqDiff, reduceCtorEq, Nat.reduceLeDiff, Nat.reducePow, Int.reducePow, Int.reduceToNat, Nat.reduceAdd, eq_true hn', k0]
            refine eff_call_of ?_
            simp (disch := first | omega | assumption) only [C.rr_code_gos, vs, Go.Vc.vk, T.ts, ↓reduceIte, Nat.reduceEqDiff, reduceCtorEq, Nat.reduceLeDiff, Nat.reducePow, Int.reducePow, Int.reduceToNat, Nat.reduceAdd]
            refine (cfail_any 11 u.p D4.rg.r).mono ?_
            rintro _ h5 ⟨f5, r5⟩
            have D5 := D4.frR f5 (show Cutr h5 gc l y0 by rw [hy0]; exact r5)
            clear f5 r5
            simp (disch := first | omega | assumption) only [C.rr_code_gos, vs, Go.Vc.vk, T.ts, ↓reduceIte, Nat.reduceEqDiff, reduceCtorEq, Nat.reduceLeDiff, Nat.reducePow, Int.reducePow, Int.reduceToNat, Nat.reduceAdd]
          case' jcbS =>
            subst hs
            have hb5 : y0 = b.2 := by rw [hy0]; rfl
            simp (disch := first | omega | assumption) only [C.rr_code_gos, vs, Go.Vc.vk, T.ts, ↓reduceIte, Nat.reduceEqDiff, reduceCtorEq, Nat.reduceLeDiff, Nat.reducePow, Int.reducePow, Int.reduceToNat, Nat.reduceAdd, eq_true hn']
            obtain ⟨h5, hh5⟩ : ∃ h5, h5 = h4 := ⟨_, rfl⟩
            rw [← hh5]
            have D5 := D4.frR (FrR.ext (Ext.refl _)) (show Cutr h4 gc l y0 by rw [hb5]; exact D4.rg.r)
            rw [← hh5] at D5
            clear hh5 hb5
          all_goals
            clear k0 D4
            have k0 := D5.rg.k0
            have c1 := D5.rg.r.c1
            have hwt : IntKind.i64.wrap (((b.2.p + b.1 : Nat) : Int) - (y0.p : Int)) = (b.1 : Int) := by rw [hyp0, wrap_i64 (by omega) (by omega)]; omega
            simp (disch := first | omega | assumption) only [C.rr_code_gos, vs, Go.Vc.vk, T.ts, ↓reduceIte, Nat.reduceEqDiff, reduceCtorEq, Nat.reduceLeDiff, Nat.reducePow, Int.reducePow, Int.reduceToNat, Nat.reduceAdd, k0, c1, hwt]
            refine eff_call_of ?_
            simp (disch := first | omega | assumption) only [C.rr_code_gos, vs, Go.Vc.vk, T.ts, ↓reduceIte, Nat.reduceEqDiff, reduceCtorEq, Nat.reduceLeDiff, Nat.reducePow, Int.reducePow, Int.reduceToNat, Nat.reduceAdd]
            refine (ctake_any b.1 hl (by omega) D5.rg.r).mono ?_
            rintro _ h6 ⟨f6, r6, rfl⟩
            have D6 := D5.frR f6 r6
            have kc : cellAt h6 ⟨fb, 4, none⟩ = some (str sv) := by rw [D6.cell]; rfl
            simp (disch := first | omega | assumption) only [C.rr_code_gos, vs, Go.Vc.vk, T.ts, ↓reduceIte, Nat.reduceEqDiff, reduceCtorEq, Nat.reduceLeDiff, Nat.reducePow, Int.reducePow, Int.reduceToNat, Nat.reduceAdd]
            refine eff_store1_z T.zr_9 rfl rfl rfl rfl rfl kc (D6.frozen _) ?_
            have D7 := D6.set (by decide) 4 (str (takeS l b.1 y0).1)
            clear D6 kc f6 r6 D5 k0 c1 hwt
            generalize setAt h6 ⟨fb, 4, none⟩ _ = h7 at *
            simp (disch := first | omega | assumption) only [C.rr_code_gos, vs, Go.Vc.vk, T.ts, ↓reduceIte, Nat.reduceEqDiff, reduceCtorEq, Nat.reduceLeDiff, Nat.reducePow, Int.reducePow, Int.reduceToNat, Nat.reduceAdd]
            refine eff_call_of ?_
            simp (disch := first | omega | assumption) only [C.rr_code_gos, vs, Go.Vc.vk, T.ts, ↓reduceIte, Nat.reduceEqDiff, reduceCtorEq, Nat.reduceLeDiff, Nat.reducePow, Int.reducePow, Int.reduceToNat, Nat.reduceAdd]
            refine (rover_any hl D7.rg true u.p _ (by omega) (by omega) (fun hh => by cases hh)).mono ?_
            rintro _ h8 ⟨f8, r8⟩
            rw [overS_yes rfl] at r8
            have D8 := D7.frR f8 r8
            simp (disch := first | omega | assumption) only [C.rr_code_gos, vs, Go.Vc.vk, T.ts, ↓reduceIte, Nat.reduceEqDiff, reduceCtorEq, Nat.reduceLeDiff, Nat.reducePow, Int.reducePow, Int.reduceToNat, Nat.reduceAdd, hw]
            exact ⟨_, by omega, j, (true, (takeS l b.1 y0).1), _, rfl, by omega, rfl, D8, hL⟩
    have hR2 : R = (x, u) := by
      rw [← hL]
      rcases Nat.eq_zero_or_pos m with h0 | h0
      · subst h0; rfl
      · exact attrsR_bad (fun he => hgo ⟨h0, he⟩)
    refine Or.elim (Classical.em (m = 0)) (fun h0 => ?jccG) (fun h0 => ?jcdG)
    case' jccG =>
      have hz : ¬ (0 : Int) < (m : Int) := by omega
      simp (disch := first | omega | assumption) only [C.rr_code_gos, vs, Go.Vc.vk, T.ts, ↓reduceIte, Nat.reduceEqDiff, reduceCtorEq, Nat.reduceLeDiff, Nat.reducePow, Int.reducePow, Int.reduceToNat, Nat.reduceAdd, hz]
    case' jcdG =>
      have hz : (0 : Int) < (m : Int) := by omega
      have he' : ¬ (u.e : Int) = 0 := fun he => hgo ⟨by omega, by omega⟩
      simp (disch := first | omega | assumption) only [C.rr_code_gos, vs, Go.Vc.vk, T.ts, ↓reduceIte, Nat.reduceEqDiff, reduceCtorEq, Nat.reduceLeDiff, Nat.reducePow, Int.reducePow, Int.reduceToNat, Nat.reduceAdd, hz, k0, c2, eq_false he']
    all_goals
      clear hz h0 hgo k0 c2 hL
      have hfin : codeR p l s = ((⟨(a : Int), (b0 : Int), M.1, hs, x.2⟩ : Cde), u) := by
        unfold codeR
        simp only [← ha, ← hb0, ← hs2, ← hM, ← hK0, ← hR0, hR02, ← hK, ← hR, hR2]
      rw [hfin]
      obtain ⟨aH, cH, rfl, _⟩ := Dx.o.slN.2
      have hld := ld_agg T.ag_79 (Rd_block Dx.x.bf) rfl
      simp only [CdeV] at hld
      simp (disch := first | omega | assumption) only [C.rr_code_gos, vs, Go.Vc.vk, T.ts, ↓reduceIte, Nat.reduceEqDiff, reduceCtorEq, Nat.reduceLeDiff, Nat.reducePow, Int.reducePow, Int.reduceToNat, Nat.reduceAdd, hld]
      refine eff_storeN_zz T.zr_79 rfl rfl rfl (by simp [Value.cells, oneCell, str]) Dx.x.bz (by decide) (fun j _ _ => by simp) ?_
      intro h6 f6 b6
      have hrd : Rd h6 rb 0 (CdeV ⟨(a : Int), (b0 : Int), M.1, hs, x.2⟩ (.slice aH hs.length cH)) := Rd_block (by simpa [Value.cells, CdeV] using b6)
      have hld6 := ld_agg T.ag_79 hrd rfl
      simp only [CdeV] at hld6
      have o1 := Dx.x.o1
      have o4 := Dx.x.o4
      simp (disch := first | omega | assumption) only [C.rr_code_gos, vs, Go.Vc.vk, T.ts, ↓reduceIte, Nat.reduceEqDiff, reduceCtorEq, Nat.reduceLeDiff, Nat.reducePow, Int.reducePow, Int.reduceToNat, Nat.reduceAdd, hld6]
      refine ⟨Dx.x.fr.new f6 o1, Dx.rg.r.fr f6 (by omega), .slice aH hs.length cH, rfl, ?_⟩
      rw [hrb]
      exact own_keep Dx.o f6 (e := 79) (fun k _ hk => ⟨_, _, hk ▸ Dx.x.bz⟩) (by decide)
  refine Or.elim (Classical.em (m = 0)) (fun h0 => ?ccG) (fun h0 => ?cdG)
  case' ccG =>
    have hz : ¬ (0 : Int) < (m : Int) := by omega
    simp (disch := first | omega | assumption) only [C.rr_code_gos, vs, Go.Vc.vk, T.ts, ↓reduceIte, Nat.reduceEqDiff, reduceCtorEq, Nat.reduceLeDiff, Nat.reducePow, Int.reducePow, Int.reduceToNat, Nat.reduceAdd, hz]
  case' cdG =>
    have hz : (0 : Int) < (m : Int) := by omega
    have he' : ¬ (u.e : Int) = 0 := fun he => hgo ⟨by omega, by omega⟩
    simp (disch := first | omega | assumption) only [C.rr_code_gos, vs, Go.Vc.vk, T.ts, ↓reduceIte, Nat.reduceEqDiff, reduceCtorEq, Nat.reduceLeDiff, Nat.reducePow, Int.reducePow, Int.reduceToNat, Nat.reduceAdd, hz, k0, c2, eq_false he']
  all_goals
    exact hjoin _
end
end Go.Proofs.Ytohkbpnblkkdgaa
