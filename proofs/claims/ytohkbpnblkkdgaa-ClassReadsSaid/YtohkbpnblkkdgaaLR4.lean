/- The reader of classes: methods. -/
import Derived.Test.YtohkbpnblkkdgaaLR3
namespace Go.Proofs.Ytohkbpnblkkdgaa
open Go.Vc
set_option maxRecDepth 100000
set_option linter.unusedSimpArgs false
set_option linter.unusedVariables false

/-- A method under way. -/
structure MM (h : Heap) (g gr : Nat) (rc : List Value) (p : List Cst) (vp : Value) (rb fb2 fb f1 f2 f3 : Nat) (x : Bool × Cde) (vH : Value) (hx : Heap) : Prop where
  t : FT h g gr rc p vp rb fb2 81 #[.int .u16 0, .int .u16 0, .int .u16 0, .bool false, .int .i64 0, .int .i64 0, str [], .slice none 0 0, str []] hx
  bf : hx[fb]? = some (.cells (MthV ⟨f1, f2, f3, x.1, x.2⟩ vH).toArray 81 (0, 0))
  own : Own hx h.size 132 4 vH x.2.hs.length (flatH x.2.hs)
  o1 : h.size ≤ rb
  o2 : rb < fb2 ∧ fb2 < fb
  o3 : g < h.size ∧ gr < h.size
section
variable {h hx hy : Heap} {g gr rb fb fb2 f1 f2 f3 : Nat} {rc : List Value} {p : List Cst} {vp : Value} {l : List UInt8} {s : RS} {x : Bool × Cde} {vH : Value}
theorem MM.frR (D : MM h g gr rc p vp rb fb2 fb f1 f2 f3 x vH hx) (f : FrR gr hx hy) : MM h g gr rc p vp rb fb2 fb f1 f2 f3 x vH hy := by
  have o1 := D.o1
  have o2 := D.o2
  have o3 := D.o3
  exact ⟨D.t.frR f, Fr_blk f D.bf (by omega), D.own.fr f (fun k hk hS => by have := (D.own.lt k hk).1; omega), D.o1, D.o2, D.o3⟩
theorem MM.set (D : MM h g gr rc p vp rb fb2 fb f1 f2 f3 x vH hx) (D0 : CR h g gr rc p vp) {y : Bool × Cde} {w : Value} (f : Fr (fun k => k = fb) hx hy) (hb : hy[fb]? = some (.cells (MthV ⟨f1, f2, f3, y.1, y.2⟩ w).toArray 81 (0, 0))) (ho : Own hx h.size 132 4 w y.2.hs.length (flatH y.2.hs)) : MM h g gr rc p vp rb fb2 fb f1 f2 f3 y w hy := by
  have o1 := D.o1
  have o2 := D.o2
  have o3 := D.o3
  exact ⟨⟨D.t.cr.old D0 f D.t.fr o3.1 (by omega), Fr_blk f D.t.br (by omega), Fr_blk f D.t.b2 (by omega), D.t.fr.new f (by omega), D.t.n1, D.t.n2⟩, hb, ho.fr f (fun k hk hS => by
    subst hS
    exact Own_ne ho D.bf (by decide) hk), D.o1, D.o2, D.o3⟩
set_option maxHeartbeats 4000000 in
theorem method1_any (hl : l.length ≤ 1073741824) (D0 : CR h g gr rc p vp) (name : List UInt8) (q n : Nat) (D : MM h g gr rc p vp rb fb2 fb f1 f2 f3 x vH hx) (H : Rdr hx gr l s) :
    HCalls Try.prog 81 #[str name, .int .i64 q, .int .i64 n, .pointer (some ⟨rb, 0, none⟩), .pointer (some ⟨fb, 0, none⟩)] hx (TkP gr l (fun y hh => ∃ w, MM h g gr rc p vp rb fb2 fb f1 f2 f3 y w hh) x s (cdT p l name q n x s)) := by
  refine C.cr_method_1_calls (args := [str name, .int .i64 q, .int .i64 n, .pointer (some ⟨rb, 0, none⟩), .pointer (some ⟨fb, 0, none⟩)]) rfl ?_
  have o1 := D.o1
  have o2 := D.o2
  have o3 := D.o3
  by_cases hnm : name = cdN
  case neg =>
    have hn' : ¬ name = [67, 111, 100, 101] := hnm
    have hT : cdT p l name q n x s = none := by unfold cdT; rw [if_neg hnm]
    rw [hT]
    simp (disch := first | omega | assumption) only [C.cr_method_1_gos, vs, Go.Vc.vk, T.ts, ↓reduceIte, Nat.reduceEqDiff, reduceCtorEq, Nat.reduceLeDiff, Nat.reducePow, Int.reducePow, Int.reduceToNat, Nat.reduceAdd, eq_false hn']
    exact ⟨rfl, ⟨vH, D⟩, H⟩
  have hn' : name = [67, 111, 100, 101] := hnm
  have hT : cdT p l name q n x s = some ((true, (codeR p l (onceR x.1 q s)).1), (codeR p l (onceR x.1 q s)).2) := by unfold cdT; rw [if_pos hnm]
  rw [hT]
  have kr := D.t.kr
  have ks : cellAt hx ⟨fb, 3, none⟩ = some (.bool x.1) := by rw [cellAt_of D.bf]; rfl
  have kz : frozenAt hx ⟨fb, 3, none⟩ = false := by simp [frozenAt, D.bf]
  simp (disch := first | omega | assumption) only [C.cr_method_1_gos, vs, Go.Vc.vk, T.ts, ↓reduceIte, Nat.reduceEqDiff, reduceCtorEq, Nat.reduceLeDiff, Nat.reducePow, Int.reducePow, Int.reduceToNat, Nat.reduceAdd, eq_true hn', kr]
  refine eff_call_of ?_
  simp (disch := first | omega | assumption) only [C.cr_method_1_gos, vs, Go.Vc.vk, T.ts, ↓reduceIte, Nat.reduceEqDiff, reduceCtorEq, Nat.reduceLeDiff, Nat.reducePow, Int.reducePow, Int.reduceToNat, Nat.reduceAdd]
  refine (once_any x.1 fb 3 q D.t.cr.rd ks kz (by omega) H).mono ?_
  rintro _ _ ⟨h2, y2, r2, rfl, c2⟩
  have D2 := D.frR y2
  clear kr ks kz D H
  have y3 : Fr (fun k => k = fb) h2 (setAt h2 ⟨fb, 3, none⟩ (.bool true)) := Fr.set (S := fun k => k = fb) _ _ _ fun _ => rfl
  have b3 := setAt_get (o := 3) D2.bf (.bool true)
  have D3 : MM h g gr rc p vp rb fb2 fb f1 f2 f3 (true, x.2) vH (setAt h2 ⟨fb, 3, none⟩ (.bool true)) := D2.set D0 (y := (true, x.2)) y3 (by rw [b3]; simp [MthV, CdeV]) D2.own
  have r3 : Rdr (setAt h2 ⟨fb, 3, none⟩ (.bool true)) gr l _ := r2.fr y3 (by omega)
  generalize setAt h2 ⟨fb, 3, none⟩ (.bool true) = h3 at *
  clear b3 y3 c2 r2 D2 y2
  have kr := D3.t.kr
  simp (disch := first | omega | assumption) only [C.cr_method_1_gos, vs, Go.Vc.vk, T.ts, ↓reduceIte, Nat.reduceEqDiff, reduceCtorEq, Nat.reduceLeDiff, Nat.reducePow, Int.reducePow, Int.reduceToNat, Nat.reduceAdd, kr]
  refine eff_call_of ?_
  simp (disch := first | omega | assumption) only [C.cr_method_1_gos, vs, Go.Vc.vk, T.ts, ↓reduceIte, Nat.reduceEqDiff, reduceCtorEq, Nat.reduceLeDiff, Nat.reducePow, Int.reducePow, Int.reduceToNat, Nat.reduceAdd]
  refine (code_any hl D3.t.cr r3).mono ?_
  rintro _ h4 ⟨y4, r4, w, rfl, own4⟩
  have D4 := D3.frR y4
  generalize codeR p l (onceR x.1 q s) = v at *
  have ownh := own4.mono D3.t.fr.size
  obtain ⟨aH, cH, rfl, _⟩ := own4.slN.2
  simp only [CdeV]
  simp (disch := first | omega | assumption) only [C.cr_method_1_gos, vs, Go.Vc.vk, T.ts, ↓reduceIte, Nat.reduceEqDiff, reduceCtorEq, Nat.reduceLeDiff, Nat.reducePow, Int.reducePow, Int.reduceToNat, Nat.reduceAdd]
  refine eff_storeN_zz T.zr_79 rfl rfl rfl (by simp [Value.cells, oneCell, str]) D4.bf (by simp [MthV, CdeV]) (fun j _ _ => by simp) ?_
  intro h5 y5 b5
  have D5 : MM h g gr rc p vp rb fb2 fb f1 f2 f3 (true, v.1) _ h5 := D4.set D0 (y := (true, v.1)) y5 (by rw [b5]; simp [MthV, CdeV, Value.cells]) ownh
  have r5 := r4.fr y5 (show ¬ gr = fb by omega)
  simp (disch := first | omega | assumption) only [C.cr_method_1_gos, vs, Go.Vc.vk, T.ts, ↓reduceIte, Nat.reduceEqDiff, reduceCtorEq, Nat.reduceLeDiff, Nat.reducePow, Int.reducePow, Int.reduceToNat, Nat.reduceAdd]
  exact ⟨rfl, ⟨_, D5⟩, r5⟩
set_option maxHeartbeats 8000000 in
theorem method_any (hl : l.length ≤ 1073741824) (D0 : CR h g gr rc p vp) (H : Rdr h gr l s) :
    HCalls Try.prog 55 #[.pointer (some ⟨g, 0, none⟩)] h fun r h' => FrR gr h h' ∧ Rdr h' gr l (methodR p l s).2 ∧ ∃ vH, r = .agg (MthV (methodR p l s).1 vH).toArray ∧ Own h' h.size 132 4 vH (methodR p l s).1.code.hs.length (flatH (methodR p l s).1.code.hs) := by
  refine C.cr_method_calls (args := [.pointer (some ⟨g, 0, none⟩)]) rfl ?_
  have hgr := H.lt
  have hg : g < h.size := (Array.getElem?_eq_some_iff.1 D0.rd).1
  simp (disch := first | omega | assumption) only [C.cr_method_gos, vs, Go.Vc.vk, T.ts, ↓reduceIte, Nat.reduceEqDiff, reduceCtorEq, Nat.reduceLeDiff, Nat.reducePow, Int.reducePow, Int.reduceToNat, Nat.reduceAdd]
  refine eff_box ?_
  have e1 : Ext h (h.push (.cells #[.pointer (some ⟨g, 0, none⟩)] 100)) := Ext.push _ _
  have b1 : (h.push (.cells #[.pointer (some ⟨g, 0, none⟩)] 100))[h.size]? = some (.cells #[.pointer (some ⟨g, 0, none⟩)] 100 (0, 0)) := by simp
  have s1 : (h.push (.cells #[.pointer (some ⟨g, 0, none⟩)] 100)).size = h.size + 1 := by simp
  simp (disch := first | omega | assumption) only [C.cr_method_gos, vs, Go.Vc.vk, T.ts, ↓reduceIte, Nat.reduceEqDiff, reduceCtorEq, Nat.reduceLeDiff, Nat.reducePow, Int.reducePow, Int.reduceToNat, Nat.reduceAdd]
  generalize h.push (.cells #[.pointer (some ⟨g, 0, none⟩)] 100) = h1 at *
  obtain ⟨rb, hrb⟩ : ∃ x, x = h.size := ⟨_, rfl⟩
  rw [← hrb] at b1 ⊢
  refine eff_alloc_z T.zr_81 ?_
  have e2 : Ext h1 (h1.push (.cells #[.int .u16 0, .int .u16 0, .int .u16 0, .bool false, .int .i64 0, .int .i64 0, str [], .slice none 0 0, str []] 81)) := Ext.push _ _
  have b2 : (h1.push (.cells #[.int .u16 0, .int .u16 0, .int .u16 0, .bool false, .int .i64 0, .int .i64 0, str [], .slice none 0 0, str []] 81))[h1.size]? = some (.cells #[.int .u16 0, .int .u16 0, .int .u16 0, .bool false, .int .i64 0, .int .i64 0, str [], .slice none 0 0, str []] 81 (0, 0)) := by simp
  have b12 := Fr_blk e2 b1 id
  have s2 : (h1.push (.cells #[.int .u16 0, .int .u16 0, .int .u16 0, .bool false, .int .i64 0, .int .i64 0, str [], .slice none 0 0, str []] 81)).size = h1.size + 1 := by simp
  obtain ⟨fb2, hfb2⟩ : ∃ x, x = h1.size := ⟨_, rfl⟩
  rw [← hfb2] at b2
  have X : FrR gr h (h1.push (.cells #[.int .u16 0, .int .u16 0, .int .u16 0, .bool false, .int .i64 0, .int .i64 0, str [], .slice none 0 0, str []] 81)) := FrR.ext (e1.trans e2)
  have hjoin : ∀ (h3 : Heap) (fb f1 f2 f3 : Nat) (t : RS), CR h3 g gr rc p vp → h3[rb]? = some (.cells #[.pointer (some ⟨g, 0, none⟩)] 100 (0, 0)) → h3[fb2]? = some (.cells #[.int .u16 0, .int .u16 0, .int .u16 0, .bool false, .int .i64 0, .int .i64 0, str [], .slice none 0 0, str []] 81 (0, 0)) →
      h3[fb]? = some (.cells (MthV ⟨f1, f2, f3, false, ⟨0, 0, [], [], []⟩⟩ (.slice none 0 0)).toArray 81 (0, 0)) → FrR gr h h3 → fb2 < fb → Rdr h3 gr l t → (f1, f2, f3, t) = ((numS l 2 s).1, (numS l 2 (numS l 2 s).2).1, (numS l 2 (numS l 2 (numS l 2 s).2).2).1, (numS l 2 (numS l 2 (numS l 2 s).2).2).2) →
      Cd.vc Try.prog C.cr_method_t0 (retQ Try.prog [(2, some 81)] fun r h' => FrR gr h h' ∧ Rdr h' gr l (methodR p l s).2 ∧ ∃ vH, r = .agg (MthV (methodR p l s).1 vH).toArray ∧ Own h' rb 132 4 vH (methodR p l s).1.code.hs.length (flatH (methodR p l s).1.code.hs)) [(0, .pointer (some ⟨g, 0, none⟩)), (1, .pointer (some ⟨rb, 0, none⟩)), (2, .pointer (some ⟨fb2, 0, none⟩)), (3, .pointer (some ⟨fb, 0, none⟩))] h3 := by
    intro h3 fb f1 f2 f3 t D3 br3 b23 bf3 x3 hlt r3 hR
    rw [C.cr_method_t0_go]
    have hb2 : fb2 < fb := hlt
    have C3 : MM h g gr rc p vp rb fb2 fb f1 f2 f3 (false, cde0) (.slice none 0 0) h3 := ⟨⟨D3, br3, b23, x3, by omega, by omega⟩, bf3, Own.nil, by omega, ⟨by omega, hlt⟩, ⟨hg, hgr⟩⟩
    clear D3 br3 b23 bf3 x3
    have kr := C3.t.kr
    simp (disch := first | omega | assumption) only [C.cr_method_gos, vs, Go.Vc.vk, T.ts, ↓reduceIte, Nat.reduceEqDiff, reduceCtorEq, Nat.reduceLeDiff, Nat.reducePow, Int.reducePow, Int.reduceToNat, Nat.reduceAdd, kr]
    refine eff_call_of ?_
    simp (disch := first | omega | assumption) only [C.cr_method_gos, vs, Go.Vc.vk, T.ts, ↓reduceIte, Nat.reduceEqDiff, reduceCtorEq, Nat.reduceLeDiff, Nat.reducePow, Int.reducePow, Int.reduceToNat, Nat.reduceAdd]
    refine (attributes_any p vp (cdT p l) 81 #[.pointer (some ⟨rb, 0, none⟩), .pointer (some ⟨fb, 0, none⟩)]
      (fun x hh => ∃ w, MM h g gr rc p vp rb fb2 fb f1 f2 f3 x w hh) hl (by decide +kernel) D0.v5 (fun x hh ⟨w, hx⟩ => ⟨hx.t.cr.rd, hx.t.cr.pl⟩) (fun x hh hh' ⟨w, hx⟩ f => ⟨w, hx.frR f⟩) ?_ (false, cde0) ⟨_, C3⟩ r3).mono ?_
    · rintro hh name q n x s1 ⟨w, hx⟩ hr he hq hn
      exact method1_any hl D0 name q n hx hr
    rintro _ h9 ⟨⟨w, I9⟩, r9⟩
    have hmd : methodR p l s = ((⟨f1, f2, f3, (attrsR p l (cdT p l) (numS l 2 t).1 (false, cde0) (numS l 2 t).2).1.1, (attrsR p l (cdT p l) (numS l 2 t).1 (false, cde0) (numS l 2 t).2).1.2⟩ : Mth), (attrsR p l (cdT p l) (numS l 2 t).1 (false, cde0) (numS l 2 t).2).2) := by
      simp only [Prod.mk.injEq] at hR
      unfold methodR
      simp only [hR.1, hR.2.1, hR.2.2.1, hR.2.2.2]
    generalize attrsR p l (cdT p l) (numS l 2 t).1 (false, cde0) (numS l 2 t).2 = Y at *
    rw [hmd]
    obtain ⟨aH, cH, rfl, _⟩ := I9.own.slN.2
    have hld := ld_agg T.ag_81 (Rd_block I9.bf) rfl
    simp only [MthV, CdeV, List.cons_append, List.nil_append] at hld
    simp (disch := first | omega | assumption) only [C.cr_method_gos, vs, Go.Vc.vk, T.ts, ↓reduceIte, Nat.reduceEqDiff, reduceCtorEq, Nat.reduceLeDiff, Nat.reducePow, Int.reducePow, Int.reduceToNat, Nat.reduceAdd, hld]
    refine eff_storeN_zz T.zr_81 rfl rfl rfl (by simp [Value.cells, oneCell, str]) I9.t.b2 (by decide) (fun j _ _ => by simp) ?_
    intro h10 f10 b10
    have hrd : Rd h10 fb2 0 (MthV ⟨f1, f2, f3, Y.1.1, Y.1.2⟩ (.slice aH Y.1.2.hs.length cH)) := Rd_block (by simpa [Value.cells, MthV, CdeV] using b10)
    have hld10 := ld_agg T.ag_81 hrd rfl
    simp only [MthV, CdeV, List.cons_append, List.nil_append] at hld10
    have o10 := I9.o1
    have o2 := I9.o2
    simp (disch := first | omega | assumption) only [C.cr_method_gos, vs, Go.Vc.vk, T.ts, ↓reduceIte, Nat.reduceEqDiff, reduceCtorEq, Nat.reduceLeDiff, Nat.reducePow, Int.reducePow, Int.reduceToNat, Nat.reduceAdd, hld10]
    refine ⟨I9.t.fr.new f10 (by omega), r9.fr f10 (by omega), .slice aH Y.1.2.hs.length cH, rfl, ?_⟩
    rw [hrb]
    exact I9.own.fr f10 (fun k hk hS => by
      subst hS
      exact Own_ne I9.own I9.t.b2 (by decide) hk)
  have r2 := H.fr (e1.trans e2) id
  have c2 := D0.frR X
  generalize h1.push (.cells #[.int .u16 0, .int .u16 0, .int .u16 0, .bool false, .int .i64 0, .int .i64 0, str [], .slice none 0 0, str []] 81) = h2 at *
  rw [← hfb2]
  clear b1 e1 e2
  have hlt2 : fb2 < h2.size := by omega
  have kr : cellAt h2 ⟨rb, 0, none⟩ = some (.pointer (some ⟨g, 0, none⟩)) := by rw [cellAt_of b12]; rfl
  have k0 := c2.rd.k0
  simp (disch := first | omega | assumption) only [C.cr_method_gos, vs, Go.Vc.vk, T.ts, ↓reduceIte, Nat.reduceEqDiff, reduceCtorEq, Nat.reduceLeDiff, Nat.reducePow, Int.reducePow, Int.reduceToNat, Nat.reduceAdd, kr, k0]
  have D2 : FT h g gr rc p vp rb fb2 81 #[.int .u16 0, .int .u16 0, .int .u16 0, .bool false, .int .i64 0, .int .i64 0, str [], .slice none 0 0, str []] h2 := ⟨c2, b12, b2, X, by omega, by omega⟩
  clear b12 b2 X c2 s2
  refine ⟨?_, ?_⟩
  · refine eff_call_of ?_
    simp (disch := first | omega | assumption) only [C.cr_method_gos, vs, Go.Vc.vk, T.ts, ↓reduceIte, Nat.reduceEqDiff, reduceCtorEq, Nat.reduceLeDiff, Nat.reducePow, Int.reducePow, Int.reduceToNat, Nat.reduceAdd]
    refine (index_any hl r2).mono ?_
    rintro _ y1 ⟨f1, r1, rfl⟩
    have D1 := D2.frR f1
    clear kr k0
    have kr := D1.kr
    have k0 := D1.cr.rd.k0
    simp (disch := first | omega | assumption) only [C.cr_method_gos, vs, Go.Vc.vk, T.ts, ↓reduceIte, Nat.reduceEqDiff, reduceCtorEq, Nat.reduceLeDiff, Nat.reducePow, Int.reducePow, Int.reduceToNat, Nat.reduceAdd, kr, k0]
    refine ⟨?_, ?_⟩
    · refine eff_call_of ?_
      simp (disch := first | omega | assumption) only [C.cr_method_gos, vs, Go.Vc.vk, T.ts, ↓reduceIte, Nat.reduceEqDiff, reduceCtorEq, Nat.reduceLeDiff, Nat.reducePow, Int.reducePow, Int.reduceToNat, Nat.reduceAdd]
      refine (index_any hl r1).mono ?_
      rintro _ y2 ⟨f2, r2, rfl⟩
      have D2 := D1.frR f2
      clear kr k0
      have kr := D2.kr
      have k0 := D2.cr.rd.k0
      simp (disch := first | omega | assumption) only [C.cr_method_gos, vs, Go.Vc.vk, T.ts, ↓reduceIte, Nat.reduceEqDiff, reduceCtorEq, Nat.reduceLeDiff, Nat.reducePow, Int.reducePow, Int.reduceToNat, Nat.reduceAdd, kr, k0]
      refine ⟨?_, ?_⟩
      · refine eff_call_of ?_
        simp (disch := first | omega | assumption) only [C.cr_method_gos, vs, Go.Vc.vk, T.ts, ↓reduceIte, Nat.reduceEqDiff, reduceCtorEq, Nat.reduceLeDiff, Nat.reducePow, Int.reducePow, Int.reduceToNat, Nat.reduceAdd]
        refine (index_any hl r2).mono ?_
        rintro _ y3 ⟨f3, r3, rfl⟩
        have D3 := D2.frR f3
        clear kr k0
        have kr := D3.kr
        have k0 := D3.cr.rd.k0
        simp (disch := first | omega | assumption) only [C.cr_method_gos, vs, Go.Vc.vk, T.ts, ↓reduceIte, Nat.reduceEqDiff, reduceCtorEq, Nat.reduceLeDiff, Nat.reducePow, Int.reducePow, Int.reduceToNat, Nat.reduceAdd, kr, k0]
        refine eff_alloc_z T.zr_81 ?_
        have ex : Ext y3 (y3.push (.cells #[.int .u16 0, .int .u16 0, .int .u16 0, .bool false, .int .i64 0, .int .i64 0, str [], .slice none 0 0, str []] 81)) := Ext.push _ _
        have ba : (y3.push (.cells #[.int .u16 0, .int .u16 0, .int .u16 0, .bool false, .int .i64 0, .int .i64 0, str [], .slice none 0 0, str []] 81))[y3.size]? = some (.cells #[.int .u16 0, .int .u16 0, .int .u16 0, .bool false, .int .i64 0, .int .i64 0, str [], .slice none 0 0, str []] 81 (0, 0)) := by simp
        have Dx := D3.frR (FrR.ext ex)
        have rx := r3.fr ex id
        have hfl : fb2 < y3.size := (Array.getElem?_eq_some_iff.1 D3.b2).1
        have hfh : h.size ≤ y3.size := D3.fr.size
        generalize y3.push (.cells #[.int .u16 0, .int .u16 0, .int .u16 0, .bool false, .int .i64 0, .int .i64 0, str [], .slice none 0 0, str []] 81) = ha at *
        generalize y3.size = fb at *
        have hfg : fb ≠ gr := by omega
        clear kr k0
        have kr := Dx.kr
        have k0 := Dx.cr.rd.k0
        simp (disch := first | omega | assumption) only [C.cr_method_gos, vs, Go.Vc.vk, T.ts, ↓reduceIte, Nat.reduceEqDiff, reduceCtorEq, Nat.reduceLeDiff, Nat.reducePow, Int.reducePow, Int.reduceToNat, Nat.reduceAdd, kr, k0]
        refine eff_storeN_zz T.zr_81 rfl rfl rfl (by simp [Value.cells, oneCell, str]) ba (by decide) (fun j _ _ => by simp) ?_
        intro yz fz bz
        have o0 := Dx.fr.size
        have dz : CR yz g gr rc p vp := Dx.cr.old D0 fz Dx.fr hg (by omega)
        simp (disch := first | omega | assumption) only [C.cr_method_gos, vs, Go.Vc.vk, T.ts, ↓reduceIte, Nat.reduceEqDiff, reduceCtorEq, Nat.reduceLeDiff, Nat.reducePow, Int.reducePow, Int.reduceToNat, Nat.reduceAdd]
        exact hjoin yz fb (numS l 2 s).1 (numS l 2 (numS l 2 s).2).1 (numS l 2 (numS l 2 (numS l 2 s).2).2).1 (numS l 2 (numS l 2 (numS l 2 s).2).2).2 dz (Fr_blk fz Dx.br (by omega)) (Fr_blk fz Dx.b2 (by omega)) (by simpa [Value.cells, MthV, CdeV] using bz) (Dx.fr.new fz (by omega)) (by omega) (rx.fr fz (by omega)) rfl
      · refine eff_alloc_z T.zr_81 ?_
        have ex : Ext y2 (y2.push (.cells #[.int .u16 0, .int .u16 0, .int .u16 0, .bool false, .int .i64 0, .int .i64 0, str [], .slice none 0 0, str []] 81)) := Ext.push _ _
        have ba : (y2.push (.cells #[.int .u16 0, .int .u16 0, .int .u16 0, .bool false, .int .i64 0, .int .i64 0, str [], .slice none 0 0, str []] 81))[y2.size]? = some (.cells #[.int .u16 0, .int .u16 0, .int .u16 0, .bool false, .int .i64 0, .int .i64 0, str [], .slice none 0 0, str []] 81 (0, 0)) := by simp
        have Dx := D2.frR (FrR.ext ex)
        have rx := r2.fr ex id
        have hfl : fb2 < y2.size := (Array.getElem?_eq_some_iff.1 D2.b2).1
        have hfh : h.size ≤ y2.size := D2.fr.size
        generalize y2.push (.cells #[.int .u16 0, .int .u16 0, .int .u16 0, .bool false, .int .i64 0, .int .i64 0, str [], .slice none 0 0, str []] 81) = ha at *
        generalize y2.size = fb at *
        have hfg : fb ≠ gr := by omega
        clear kr k0
        have kr := Dx.kr
        have k0 := Dx.cr.rd.k0
        simp (disch := first | omega | assumption) only [C.cr_method_gos, vs, Go.Vc.vk, T.ts, ↓reduceIte, Nat.reduceEqDiff, reduceCtorEq, Nat.reduceLeDiff, Nat.reducePow, Int.reducePow, Int.reduceToNat, Nat.reduceAdd, kr, k0]
        refine eff_call_of ?_
        simp (disch := first | omega | assumption) only [C.cr_method_gos, vs, Go.Vc.vk, T.ts, ↓reduceIte, Nat.reduceEqDiff, reduceCtorEq, Nat.reduceLeDiff, Nat.reducePow, Int.reducePow, Int.reduceToNat, Nat.reduceAdd]
        refine (index_any hl rx).mono ?_
        rintro _ y4 ⟨f4, r4, rfl⟩
        have D4 := Dx.frR f4
        have b4' := Fr_blk f4 ba hfg
        clear kr k0
        have kr := D4.kr
        have k0 := D4.cr.rd.k0
        simp (disch := first | omega | assumption) only [C.cr_method_gos, vs, Go.Vc.vk, T.ts, ↓reduceIte, Nat.reduceEqDiff, reduceCtorEq, Nat.reduceLeDiff, Nat.reducePow, Int.reducePow, Int.reduceToNat, Nat.reduceAdd, kr, k0]
        refine eff_storeN_zz T.zr_81 rfl rfl rfl (by simp [Value.cells, oneCell, str]) b4' (by decide) (fun j _ _ => by simp) ?_
        intro yz fz bz
        have o0 := D4.fr.size
        have dz : CR yz g gr rc p vp := D4.cr.old D0 fz D4.fr hg (by omega)
        simp (disch := first | omega | assumption) only [C.cr_method_gos, vs, Go.Vc.vk, T.ts, ↓reduceIte, Nat.reduceEqDiff, reduceCtorEq, Nat.reduceLeDiff, Nat.reducePow, Int.reducePow, Int.reduceToNat, Nat.reduceAdd]
        exact hjoin yz fb (numS l 2 s).1 (numS l 2 (numS l 2 s).2).1 (numS l 2 (numS l 2 (numS l 2 s).2).2).1 (numS l 2 (numS l 2 (numS l 2 s).2).2).2 dz (Fr_blk fz D4.br (by omega)) (Fr_blk fz D4.b2 (by omega)) (by simpa [Value.cells, MthV, CdeV] using bz) (D4.fr.new fz (by omega)) (by omega) (r4.fr fz (by omega)) rfl
    · refine eff_alloc_z T.zr_81 ?_
      have ex : Ext y1 (y1.push (.cells #[.int .u16 0, .int .u16 0, .int .u16 0, .bool false, .int .i64 0, .int .i64 0, str [], .slice none 0 0, str []] 81)) := Ext.push _ _
      have ba : (y1.push (.cells #[.int .u16 0, .int .u16 0, .int .u16 0, .bool false, .int .i64 0, .int .i64 0, str [], .slice none 0 0, str []] 81))[y1.size]? = some (.cells #[.int .u16 0, .int .u16 0, .int .u16 0, .bool false, .int .i64 0, .int .i64 0, str [], .slice none 0 0, str []] 81 (0, 0)) := by simp
      have Dx := D1.frR (FrR.ext ex)
      have rx := r1.fr ex id
      have hfl : fb2 < y1.size := (Array.getElem?_eq_some_iff.1 D1.b2).1
      have hfh : h.size ≤ y1.size := D1.fr.size
      generalize y1.push (.cells #[.int .u16 0, .int .u16 0, .int .u16 0, .bool false, .int .i64 0, .int .i64 0, str [], .slice none 0 0, str []] 81) = ha at *
      generalize y1.size = fb at *
      have hfg : fb ≠ gr := by omega
      clear kr k0
      have kr := Dx.kr
      have k0 := Dx.cr.rd.k0
      simp (disch := first | omega | assumption) only [C.cr_method_gos, vs, Go.Vc.vk, T.ts, ↓reduceIte, Nat.reduceEqDiff, reduceCtorEq, Nat.reduceLeDiff, Nat.reducePow, Int.reducePow, Int.reduceToNat, Nat.reduceAdd, kr, k0]
      refine eff_call_of ?_
      simp (disch := first | omega | assumption) only [C.cr_method_gos, vs, Go.Vc.vk, T.ts, ↓reduceIte, Nat.reduceEqDiff, reduceCtorEq, Nat.reduceLeDiff, Nat.reducePow, Int.reducePow, Int.reduceToNat, Nat.reduceAdd]
      refine (index_any hl rx).mono ?_
      rintro _ y5 ⟨f5, r5, rfl⟩
      have D5 := Dx.frR f5
      have b5' := Fr_blk f5 ba hfg
      clear kr k0
      have kr := D5.kr
      have k0 := D5.cr.rd.k0
      simp (disch := first | omega | assumption) only [C.cr_method_gos, vs, Go.Vc.vk, T.ts, ↓reduceIte, Nat.reduceEqDiff, reduceCtorEq, Nat.reduceLeDiff, Nat.reducePow, Int.reducePow, Int.reduceToNat, Nat.reduceAdd, kr, k0]
      refine eff_call_of ?_
      simp (disch := first | omega | assumption) only [C.cr_method_gos, vs, Go.Vc.vk, T.ts, ↓reduceIte, Nat.reduceEqDiff, reduceCtorEq, Nat.reduceLeDiff, Nat.reducePow, Int.reducePow, Int.reduceToNat, Nat.reduceAdd]
      refine (index_any hl r5).mono ?_
      rintro _ y6 ⟨f6, r6, rfl⟩
      have D6 := D5.frR f6
      have b6' := Fr_blk f6 b5' hfg
      clear kr k0
      have kr := D6.kr
      have k0 := D6.cr.rd.k0
      simp (disch := first | omega | assumption) only [C.cr_method_gos, vs, Go.Vc.vk, T.ts, ↓reduceIte, Nat.reduceEqDiff, reduceCtorEq, Nat.reduceLeDiff, Nat.reducePow, Int.reducePow, Int.reduceToNat, Nat.reduceAdd, kr, k0]
      refine eff_storeN_zz T.zr_81 rfl rfl rfl (by simp [Value.cells, oneCell, str]) b6' (by decide) (fun j _ _ => by simp) ?_
      intro yz fz bz
      have o0 := D6.fr.size
      have dz : CR yz g gr rc p vp := D6.cr.old D0 fz D6.fr hg (by omega)
      simp (disch := first | omega | assumption) only [C.cr_method_gos, vs, Go.Vc.vk, T.ts, ↓reduceIte, Nat.reduceEqDiff, reduceCtorEq, Nat.reduceLeDiff, Nat.reducePow, Int.reducePow, Int.reduceToNat, Nat.reduceAdd]
      exact hjoin yz fb (numS l 2 s).1 (numS l 2 (numS l 2 s).2).1 (numS l 2 (numS l 2 (numS l 2 s).2).2).1 (numS l 2 (numS l 2 (numS l 2 s).2).2).2 dz (Fr_blk fz D6.br (by omega)) (Fr_blk fz D6.b2 (by omega)) (by simpa [Value.cells, MthV, CdeV] using bz) (D6.fr.new fz (by omega)) (by omega) (r6.fr fz (by omega)) rfl
  · refine eff_alloc_z T.zr_81 ?_
    have ex : Ext h2 (h2.push (.cells #[.int .u16 0, .int .u16 0, .int .u16 0, .bool false, .int .i64 0, .int .i64 0, str [], .slice none 0 0, str []] 81)) := Ext.push _ _
    have ba : (h2.push (.cells #[.int .u16 0, .int .u16 0, .int .u16 0, .bool false, .int .i64 0, .int .i64 0, str [], .slice none 0 0, str []] 81))[h2.size]? = some (.cells #[.int .u16 0, .int .u16 0, .int .u16 0, .bool false, .int .i64 0, .int .i64 0, str [], .slice none 0 0, str []] 81 (0, 0)) := by simp
    have Dx := D2.frR (FrR.ext ex)
    have rx := r2.fr ex id
    have hfl : fb2 < h2.size := (Array.getElem?_eq_some_iff.1 D2.b2).1
    have hfh : h.size ≤ h2.size := D2.fr.size
    generalize h2.push (.cells #[.int .u16 0, .int .u16 0, .int .u16 0, .bool false, .int .i64 0, .int .i64 0, str [], .slice none 0 0, str []] 81) = ha at *
    generalize h2.size = fb at *
    have hfg : fb ≠ gr := by omega
    clear kr k0
    have kr := Dx.kr
    have k0 := Dx.cr.rd.k0
    simp (disch := first | omega | assumption) only [C.cr_method_gos, vs, Go.Vc.vk, T.ts, ↓reduceIte, Nat.reduceEqDiff, reduceCtorEq, Nat.reduceLeDiff, Nat.reducePow, Int.reducePow, Int.reduceToNat, Nat.reduceAdd, kr, k0]
    refine eff_call_of ?_
    simp (disch := first | omega | assumption) only [C.cr_method_gos, vs, Go.Vc.vk, T.ts, ↓reduceIte, Nat.reduceEqDiff, reduceCtorEq, Nat.reduceLeDiff, Nat.reducePow, Int.reducePow, Int.reduceToNat, Nat.reduceAdd]
    refine (index_any hl rx).mono ?_
    rintro _ y7 ⟨f7, r7, rfl⟩
    have D7 := Dx.frR f7
    have b7' := Fr_blk f7 ba hfg
    clear kr k0
    have kr := D7.kr
    have k0 := D7.cr.rd.k0
    simp (disch := first | omega | assumption) only [C.cr_method_gos, vs, Go.Vc.vk, T.ts, ↓reduceIte, Nat.reduceEqDiff, reduceCtorEq, Nat.reduceLeDiff, Nat.reducePow, Int.reducePow, Int.reduceToNat, Nat.reduceAdd, kr, k0]
    refine eff_call_of ?_
    simp (disch := first | omega | assumption) only [C.cr_method_gos, vs, Go.Vc.vk, T.ts, ↓reduceIte, Nat.reduceEqDiff, reduceCtorEq, Nat.reduceLeDiff, Nat.reducePow, Int.reducePow, Int.reduceToNat, Nat.reduceAdd]
    refine (index_any hl r7).mono ?_
    rintro _ y8 ⟨f8, r8, rfl⟩
    have D8 := D7.frR f8
    have b8' := Fr_blk f8 b7' hfg
    clear kr k0
    have kr := D8.kr
    have k0 := D8.cr.rd.k0
    simp (disch := first | omega | assumption) only [C.cr_method_gos, vs, Go.Vc.vk, T.ts, ↓reduceIte, Nat.reduceEqDiff, reduceCtorEq, Nat.reduceLeDiff, Nat.reducePow, Int.reducePow, Int.reduceToNat, Nat.reduceAdd, kr, k0]
    refine eff_call_of ?_
    simp (disch := first | omega | assumption) only [C.cr_method_gos, vs, Go.Vc.vk, T.ts, ↓reduceIte, Nat.reduceEqDiff, reduceCtorEq, Nat.reduceLeDiff, Nat.reducePow, Int.reducePow, Int.reduceToNat, Nat.reduceAdd]
    refine (index_any hl r8).mono ?_
    rintro _ y9 ⟨f9, r9, rfl⟩
    have D9 := D8.frR f9
    have b9' := Fr_blk f9 b8' hfg
    clear kr k0
    have kr := D9.kr
    have k0 := D9.cr.rd.k0
    simp (disch := first | omega | assumption) only [C.cr_method_gos, vs, Go.Vc.vk, T.ts, ↓reduceIte, Nat.reduceEqDiff, reduceCtorEq, Nat.reduceLeDiff, Nat.reducePow, Int.reducePow, Int.reduceToNat, Nat.reduceAdd, kr, k0]
    refine eff_storeN_zz T.zr_81 rfl rfl rfl (by simp [Value.cells, oneCell, str]) b9' (by decide) (fun j _ _ => by simp) ?_
    intro yz fz bz
    have o0 := D9.fr.size
    have dz : CR yz g gr rc p vp := D9.cr.old D0 fz D9.fr hg (by omega)
    simp (disch := first | omega | assumption) only [C.cr_method_gos, vs, Go.Vc.vk, T.ts, ↓reduceIte, Nat.reduceEqDiff, reduceCtorEq, Nat.reduceLeDiff, Nat.reducePow, Int.reducePow, Int.reduceToNat, Nat.reduceAdd]
    exact hjoin yz fb (numS l 2 s).1 (numS l 2 (numS l 2 s).2).1 (numS l 2 (numS l 2 (numS l 2 s).2).2).1 (numS l 2 (numS l 2 (numS l 2 s).2).2).2 dz (Fr_blk fz D9.br (by omega)) (Fr_blk fz D9.b2 (by omega)) (by simpa [Value.cells, MthV, CdeV] using bz) (D9.fr.new fz (by omega)) (by omega) (r9.fr fz (by omega)) rfl
end
end Go.Proofs.Ytohkbpnblkkdgaa
