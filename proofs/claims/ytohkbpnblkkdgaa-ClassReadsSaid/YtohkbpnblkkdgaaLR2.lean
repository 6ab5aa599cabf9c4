/- The reader of classes: fields. -/
import Derived.Test.YtohkbpnblkkdgaaLR1
import Derived.Test.YtohkbpnblkkdgaaVcS
namespace Go.Proofs.Ytohkbpnblkkdgaa
open Go.Vc
set_option maxRecDepth 100000
set_option linter.unusedSimpArgs false
set_option linter.unusedVariables false

/-- A class reader, and the pool in it. -/
structure CR (h : Heap) (g gr : Nat) (rc : List Value) (p : List Cst) (vp : Value) : Prop where
  rd : RdC h g gr rc
  pl : SlN h 5 vp p.length (flatS p)
  v5 : rc[5]? = some vp
  nb : ¬ vp.ownBlock = some gr
  ne : g ≠ gr
theorem CR.fr {S : Nat → Prop} {h h' : Heap} {g gr : Nat} {rc : List Value} {p : List Cst} {vp : Value} (D : CR h g gr rc p vp) (f : Fr S h h') (h1 : ¬ S g) (h2 : ∀ k, k < h.size → vp.ownBlock = some k → ¬ S k) : CR h' g gr rc p vp :=
  ⟨Fr_blk f D.rd h1, D.pl.fr (by decide) f h2, D.v5, D.nb, D.ne⟩
theorem CR.frR {h h' : Heap} {g gr : Nat} {rc : List Value} {p : List Cst} {vp : Value} (D : CR h g gr rc p vp) (f : FrR gr h h') : CR h' g gr rc p vp :=
  D.fr f D.ne (fun k _ hk hS => D.nb (by rw [hk, hS]))
/-- A reading function's own blocks. -/
structure FT (h : Heap) (g gr : Nat) (rc : List Value) (p : List Cst) (vp : Value) (rb fb2 : Nat) (t : TypeId) (zs : Array Value) (hx : Heap) : Prop where
  cr : CR hx g gr rc p vp
  br : hx[rb]? = some (.cells #[.pointer (some ⟨g, 0, none⟩)] 100 (0, 0))
  b2 : hx[fb2]? = some (.cells zs t (0, 0))
  fr : FrR gr h hx
  n1 : rb ≠ gr
  n2 : fb2 ≠ gr
theorem FT.frR {h hx hy : Heap} {g gr : Nat} {rc : List Value} {p : List Cst} {vp : Value} {rb fb2 : Nat} {t : TypeId} {zs : Array Value} (D : FT h g gr rc p vp rb fb2 t zs hx) (f : FrR gr hx hy) : FT h g gr rc p vp rb fb2 t zs hy :=
  ⟨D.cr.frR f, Fr_blk f D.br D.n1, Fr_blk f D.b2 D.n2, D.fr.trans' f, D.n1, D.n2⟩
theorem FT.kr {h hx : Heap} {g gr : Nat} {rc : List Value} {p : List Cst} {vp : Value} {rb fb2 : Nat} {t : TypeId} {zs : Array Value} (D : FT h g gr rc p vp rb fb2 t zs hx) : cellAt hx ⟨rb, 0, none⟩ = some (.pointer (some ⟨g, 0, none⟩)) := by rw [cellAt_of D.br]; rfl
theorem FrR.new {h h1 h2 : Heap} {gr b : Nat} (H : FrR gr h h1) (K : Fr (fun k => k = b) h1 h2) (hb : h.size ≤ b) : FrR gr h h2 := Fr.trans H K (fun _ _ h => h) (fun k hk hS => by omega)
section
variable {h h1 : Heap} {g gr rb fb sb fb2 : Nat} {rc : List Value} {p : List Cst} {vp : Value} {l : List UInt8} {s : RS}
/-- A field under way. -/
structure FI (h : Heap) (g gr : Nat) (rc : List Value) (p : List Cst) (vp : Value) (rb fb sb fb2 f1 f2 f3 : Nat) (x : Bool × Nat) (h1 : Heap) : Prop where
  cr : CR h1 g gr rc p vp
  br : h1[rb]? = some (.cells #[.pointer (some ⟨g, 0, none⟩)] 100 (0, 0))
  bf : h1[fb]? = some (.cells (Fld.cells ⟨f1, f2, f3, x.2⟩).toArray 89 (0, 0))
  bs : h1[sb]? = some (.cells #[.bool x.1] 4 (0, 0))
  fr : FrR gr h h1
  o0 : g < rb ∧ gr < rb
  o1 : h.size ≤ rb
  o2 : rb < fb
  o3 : fb < sb
  o4 : rb < fb2 ∧ fb2 < fb
  b2 : h1[fb2]? = some (.cells #[.int .u16 0, .int .u16 0, .int .u16 0, .int .u16 0] 89 (0, 0))
theorem FI.frR {f1 f2 f3 : Nat} {x : Bool × Nat} {h2 : Heap} (D : FI h g gr rc p vp rb fb sb fb2 f1 f2 f3 x h1) (f : FrR gr h1 h2) : FI h g gr rc p vp rb fb sb fb2 f1 f2 f3 x h2 := by
  have o0 := D.o0
  have o1 := D.o1
  have o2 := D.o2
  have o3 := D.o3
  have o4 := D.o4
  exact ⟨D.cr.frR f, Fr_blk f D.br (by omega), Fr_blk f D.bf (by omega), Fr_blk f D.bs (by omega), D.fr.trans' f, D.o0, D.o1, D.o2, D.o3, D.o4, Fr_blk f D.b2 (by omega)⟩
theorem CR.old {b : Nat} {h2 : Heap} (D : CR h1 g gr rc p vp) (D0 : CR h g gr rc p vp) (f : Fr (fun k => k = b) h1 h2) (x : FrR gr h h1) (hg : g < h.size) (hb : h.size ≤ b) : CR h2 g gr rc p vp :=
  ⟨Fr_blk f D.rd (by omega), D0.pl.fr (by decide) (x.new f hb) (fun k _ hk hS => D0.nb (by rw [hk, hS])), D.v5, D.nb, D.ne⟩
set_option maxHeartbeats 4000000 in
theorem field1_any {f1 f2 f3 : Nat} (hl : l.length ≤ 1073741824) (hg : g < h.size) (D0 : CR h g gr rc p vp) (name : List UInt8) (q n : Nat) (x : Bool × Nat) (D : FI h g gr rc p vp rb fb sb fb2 f1 f2 f3 x h1) (H : Rdr h1 gr l s) :
    HCalls Try.prog 79 #[str name, .int .i64 q, .int .i64 n, .pointer (some ⟨rb, 0, none⟩), .pointer (some ⟨sb, 0, none⟩), .pointer (some ⟨fb, 0, none⟩)] h1 (TkP gr l (FI h g gr rc p vp rb fb sb fb2 f1 f2 f3) x s (fldT l name q n x s)) := by
  refine C.cr_field_1_calls (args := [str name, .int .i64 q, .int .i64 n, .pointer (some ⟨rb, 0, none⟩), .pointer (some ⟨sb, 0, none⟩), .pointer (some ⟨fb, 0, none⟩)]) rfl ?_
  have o0 := D.o0
  have o1 := D.o1
  have o2 := D.o2
  have o3 := D.o3
  have o4 := D.o4
  by_cases hn : name = cvN
  case neg =>
    have hn' : ¬ name = [67, 111, 110, 115, 116, 97, 110, 116, 86, 97, 108, 117, 101] := hn
    have hT : fldT l name q n x s = none := by unfold fldT; rw [if_neg hn]
    rw [hT]
    simp (disch := first | omega | assumption) only [C.cr_field_1_gos, vs, Go.Vc.vk, T.ts, ↓reduceIte, Nat.reduceEqDiff, reduceCtorEq, Nat.reduceLeDiff, Nat.reducePow, Int.reducePow, Int.reduceToNat, Nat.reduceAdd, eq_false hn']
    exact ⟨rfl, D, H⟩
  have hn' : name = [67, 111, 110, 115, 116, 97, 110, 116, 86, 97, 108, 117, 101] := hn
  have hT : fldT l name q n x s = some ((true, (numS l 2 (onceR x.1 q s)).1), (numS l 2 (onceR x.1 q s)).2) := by unfold fldT; rw [if_pos hn]
  rw [hT]
  have kr : cellAt h1 ⟨rb, 0, none⟩ = some (.pointer (some ⟨g, 0, none⟩)) := by rw [cellAt_of D.br]; rfl
  have ks : cellAt h1 ⟨sb, 0, none⟩ = some (.bool x.1) := by rw [cellAt_of D.bs]; rfl
  have kz : frozenAt h1 ⟨sb, 0, none⟩ = false := by simp [frozenAt, D.bs]
  simp (disch := first | omega | assumption) only [C.cr_field_1_gos, vs, Go.Vc.vk, T.ts, ↓reduceIte, Nat.reduceEqDiff, reduceCtorEq, Nat.reduceLeDiff, Nat.reducePow, Int.reducePow, Int.reduceToNat, Nat.reduceAdd, eq_true hn', kr]
  refine eff_call_of ?_
  simp (disch := first | omega | assumption) only [C.cr_field_1_gos, vs, Go.Vc.vk, T.ts, ↓reduceIte, Nat.reduceEqDiff, reduceCtorEq, Nat.reduceLeDiff, Nat.reducePow, Int.reducePow, Int.reduceToNat, Nat.reduceAdd]
  refine (once_any x.1 sb 0 q D.cr.rd ks kz (by omega) H).mono ?_
  rintro _ _ ⟨h2, f2, r2, rfl, c2⟩
  have D2 := D.frR f2
  clear kr ks kz D H
  have f3 : Fr (fun k => k = sb) h2 (setAt h2 ⟨sb, 0, none⟩ (.bool true)) := Fr.set (S := fun k => k = sb) _ _ _ fun _ => rfl
  have b3 := setAt_get (o := 0) D2.bs (.bool true)
  have D3 : FI h g gr rc p vp rb fb sb fb2 f1 _ _ (true, x.2) (setAt h2 ⟨sb, 0, none⟩ (.bool true)) :=
    ⟨D2.cr.old D0 f3 D2.fr hg (by omega), Fr_blk f3 D2.br (by omega), Fr_blk f3 D2.bf (by omega), by rw [b3]; simp, D2.fr.new f3 (by omega), D2.o0, D2.o1, D2.o2, D2.o3, D2.o4, Fr_blk f3 D2.b2 (by omega)⟩
  have r3 : Rdr (setAt h2 ⟨sb, 0, none⟩ (.bool true)) gr l _ := r2.fr f3 (by omega)
  generalize setAt h2 ⟨sb, 0, none⟩ (.bool true) = h3 at *
  clear b3 f3 c2 r2 D2 f2
  have kr : cellAt h3 ⟨rb, 0, none⟩ = some (.pointer (some ⟨g, 0, none⟩)) := by rw [cellAt_of D3.br]; rfl
  have k0 := D3.cr.rd.k0
  simp (disch := first | omega | assumption) only [C.cr_field_1_gos, vs, Go.Vc.vk, T.ts, ↓reduceIte, Nat.reduceEqDiff, reduceCtorEq, Nat.reduceLeDiff, Nat.reducePow, Int.reducePow, Int.reduceToNat, Nat.reduceAdd, kr, k0]
  refine eff_call_of ?_
  simp (disch := first | omega | assumption) only [C.cr_field_1_gos, vs, Go.Vc.vk, T.ts, ↓reduceIte, Nat.reduceEqDiff, reduceCtorEq, Nat.reduceLeDiff, Nat.reducePow, Int.reducePow, Int.reduceToNat, Nat.reduceAdd]
  refine (index_any hl r3).mono ?_
  rintro _ h4 ⟨f4, r4, rfl⟩
  have D4 := D3.frR f4
  have k3 : cellAt h4 ⟨fb, 3, none⟩ = some (.int .u16 (x.2 : Int)) := by rw [cellAt_of D4.bf]; rfl
  have kz : frozenAt h4 ⟨fb, 3, none⟩ = false := by simp [frozenAt, D4.bf]
  simp (disch := first | omega | assumption) only [C.cr_field_1_gos, vs, Go.Vc.vk, T.ts, ↓reduceIte, Nat.reduceEqDiff, reduceCtorEq, Nat.reduceLeDiff, Nat.reducePow, Int.reducePow, Int.reduceToNat, Nat.reduceAdd]
  refine eff_store1_z T.zr_38 rfl rfl rfl rfl rfl k3 kz ?_
  generalize numS l 2 (onceR x.1 q s) = v at *
  have f5 : Fr (fun k => k = fb) h4 (setAt h4 ⟨fb, 3, none⟩ (.int .u16 (v.1 : Int))) := Fr.set (S := fun k => k = fb) _ _ _ fun _ => rfl
  have b5 := setAt_get (o := 3) D4.bf (.int .u16 (v.1 : Int))
  simp (disch := first | omega | assumption) only [C.cr_field_1_gos, vs, Go.Vc.vk, T.ts, ↓reduceIte, Nat.reduceEqDiff, reduceCtorEq, Nat.reduceLeDiff, Nat.reducePow, Int.reducePow, Int.reduceToNat, Nat.reduceAdd]
  exact ⟨rfl, ⟨D4.cr.old D0 f5 D4.fr hg (by omega), Fr_blk f5 D4.br (by omega), by rw [b5]; simp [Fld.cells], Fr_blk f5 D4.bs (by omega), D4.fr.new f5 (by omega), D4.o0, D4.o1, D4.o2, D4.o3, D4.o4, Fr_blk f5 D4.b2 (by omega)⟩, r4.fr f5 (by omega)⟩
set_option maxHeartbeats 4000000 in
theorem field_any (hl : l.length ≤ 1073741824) (D0 : CR h g gr rc p vp) (H : Rdr h gr l s) :
    HCalls Try.prog 54 #[.pointer (some ⟨g, 0, none⟩)] h fun r h' => FrR gr h h' ∧ Rdr h' gr l (fieldR p l s).2 ∧ r = .agg (fieldR p l s).1.cells.toArray := by
  refine C.cr_field_calls (args := [.pointer (some ⟨g, 0, none⟩)]) rfl ?_
  have hgr := H.lt
  have hg : g < h.size := (Array.getElem?_eq_some_iff.1 D0.rd).1
  simp (disch := first | omega | assumption) only [C.cr_field_gos, vs, Go.Vc.vk, T.ts, ↓reduceIte, Nat.reduceEqDiff, reduceCtorEq, Nat.reduceLeDiff, Nat.reducePow, Int.reducePow, Int.reduceToNat, Nat.reduceAdd]
  refine eff_box ?_
  have e1 : Ext h (h.push (.cells #[.pointer (some ⟨g, 0, none⟩)] 100)) := Ext.push _ _
  have b1 : (h.push (.cells #[.pointer (some ⟨g, 0, none⟩)] 100))[h.size]? = some (.cells #[.pointer (some ⟨g, 0, none⟩)] 100 (0, 0)) := by simp
  have s1 : (h.push (.cells #[.pointer (some ⟨g, 0, none⟩)] 100)).size = h.size + 1 := by simp
  simp (disch := first | omega | assumption) only [C.cr_field_gos, vs, Go.Vc.vk, T.ts, ↓reduceIte, Nat.reduceEqDiff, reduceCtorEq, Nat.reduceLeDiff, Nat.reducePow, Int.reducePow, Int.reduceToNat, Nat.reduceAdd]
  generalize h.push (.cells #[.pointer (some ⟨g, 0, none⟩)] 100) = h1 at *
  obtain ⟨rb, hrb⟩ : ∃ x, x = h.size := ⟨_, rfl⟩
  rw [← hrb] at b1 ⊢
  refine eff_alloc_z T.zr_89 ?_
  have e2 : Ext h1 (h1.push (.cells #[.int .u16 0, .int .u16 0, .int .u16 0, .int .u16 0] 89)) := Ext.push _ _
  have b2 : (h1.push (.cells #[.int .u16 0, .int .u16 0, .int .u16 0, .int .u16 0] 89))[h1.size]? = some (.cells #[.int .u16 0, .int .u16 0, .int .u16 0, .int .u16 0] 89 (0, 0)) := by simp
  have b12 := Fr_blk e2 b1 id
  have s2 : (h1.push (.cells #[.int .u16 0, .int .u16 0, .int .u16 0, .int .u16 0] 89)).size = h1.size + 1 := by simp
  obtain ⟨fb2, hfb2⟩ : ∃ x, x = h1.size := ⟨_, rfl⟩
  rw [← hfb2] at b2
  have X : FrR gr h (h1.push (.cells #[.int .u16 0, .int .u16 0, .int .u16 0, .int .u16 0] 89)) := FrR.ext (e1.trans e2)
  have hjoin : ∀ (h3 : Heap) (fb f1 f2 f3 : Nat) (t : RS), CR h3 g gr rc p vp → h3[rb]? = some (.cells #[.pointer (some ⟨g, 0, none⟩)] 100 (0, 0)) → h3[fb2]? = some (.cells #[.int .u16 0, .int .u16 0, .int .u16 0, .int .u16 0] 89 (0, 0)) →
      h3[fb]? = some (.cells (Fld.cells ⟨f1, f2, f3, 0⟩).toArray 89 (0, 0)) → FrR gr h h3 → fb2 < fb → Rdr h3 gr l t → fieldR p l s = ((⟨f1, f2, f3, (attrsR p l (fldT l) (numS l 2 t).1 (false, 0) (numS l 2 t).2).1.2⟩ : Fld), (attrsR p l (fldT l) (numS l 2 t).1 (false, 0) (numS l 2 t).2).2) →
      Cd.vc Try.prog C.cr_field_t0 (retQ Try.prog [(2, some 89)] fun r h' => FrR gr h h' ∧ Rdr h' gr l (fieldR p l s).2 ∧ r = .agg (fieldR p l s).1.cells.toArray) [(0, .pointer (some ⟨g, 0, none⟩)), (1, .pointer (some ⟨rb, 0, none⟩)), (2, .pointer (some ⟨fb2, 0, none⟩)), (3, .pointer (some ⟨fb, 0, none⟩)), (4, undef)] h3 := by
    intro h3 fb f1 f2 f3 t D3 br3 b23 bf3 x3 hlt r3 hR
    rw [C.cr_field_t0_go, hR]
    have hfb := (Array.getElem?_eq_some_iff.1 bf3).1
    simp (disch := first | omega | assumption) only [C.cr_field_gos, vs, Go.Vc.vk, T.ts, ↓reduceIte, Nat.reduceEqDiff, reduceCtorEq, Nat.reduceLeDiff, Nat.reducePow, Int.reducePow, Int.reduceToNat, Nat.reduceAdd]
    refine eff_alloc_z T.zr_4 ?_
    simp (disch := first | omega | assumption) only [C.cr_field_gos, vs, Go.Vc.vk, T.ts, ↓reduceIte, Nat.reduceEqDiff, reduceCtorEq, Nat.reduceLeDiff, Nat.reducePow, Int.reducePow, Int.reduceToNat, Nat.reduceAdd]
    refine eff_store_new_z T.zr_4 rfl rfl rfl (by simp [Value.cells, oneCell]) rfl ?_
    intro h4 x4 hlt4 hrd4 b4
    change h4[h3.size]? = some (.cells #[.bool false] 4 (0, 0)) at b4
    have I0 : FI h g gr rc p vp rb fb h3.size fb2 f1 f2 f3 (false, 0) h4 := ⟨D3.frR (FrR.ext x4), Fr_blk x4 br3 id, Fr_blk x4 bf3 id, b4, x3.trans' (FrR.ext x4), ⟨by omega, by omega⟩, by omega, by omega, hfb, ⟨by omega, hlt⟩, Fr_blk x4 b23 id⟩
    have r4 := r3.fr x4 id
    have kr : cellAt h4 ⟨rb, 0, none⟩ = some (.pointer (some ⟨g, 0, none⟩)) := by rw [cellAt_of I0.br]; rfl
    simp (disch := first | omega | assumption) only [C.cr_field_gos, vs, Go.Vc.vk, T.ts, ↓reduceIte, Nat.reduceEqDiff, reduceCtorEq, Nat.reduceLeDiff, Nat.reducePow, Int.reducePow, Int.reduceToNat, Nat.reduceAdd, kr]
    refine eff_call_of ?_
    simp (disch := first | omega | assumption) only [C.cr_field_gos, vs, Go.Vc.vk, T.ts, ↓reduceIte, Nat.reduceEqDiff, reduceCtorEq, Nat.reduceLeDiff, Nat.reducePow, Int.reducePow, Int.reduceToNat, Nat.reduceAdd]
    refine (attributes_any p vp (fldT l) 79 #[.pointer (some ⟨rb, 0, none⟩), .pointer (some ⟨h3.size, 0, none⟩), .pointer (some ⟨fb, 0, none⟩)]
      (fun x hh => FI h g gr rc p vp rb fb h3.size fb2 f1 f2 f3 x hh) hl (by decide +kernel) D0.v5 (fun x hh hx => ⟨hx.cr.rd, hx.cr.pl⟩) (fun x hh hh' hx f => hx.frR f) ?_ (false, 0) I0 r4).mono ?_
    · intro hh name q n x s1 hx hr he hq hn
      exact field1_any hl hg D0 name q n x hx hr
    rintro _ h5 ⟨I5, r5⟩
    generalize attrsR p l (fldT l) (numS l 2 t).1 (false, 0) (numS l 2 t).2 = R at *
    have hld := ld_agg T.ag_89 (Rd_block (vs := Fld.cells ⟨f1, f2, f3, R.1.2⟩) I5.bf) rfl
    simp only [Fld.cells] at hld
    simp (disch := first | omega | assumption) only [C.cr_field_gos, vs, Go.Vc.vk, T.ts, ↓reduceIte, Nat.reduceEqDiff, reduceCtorEq, Nat.reduceLeDiff, Nat.reducePow, Int.reducePow, Int.reduceToNat, Nat.reduceAdd, hld]
    refine eff_storeN_zz T.zr_89 rfl rfl rfl (by simp [Value.cells, oneCell]) I5.b2 (by decide) (fun j _ _ => by simp) ?_
    intro h6 f6 b6
    have hrd : Rd h6 fb2 0 (Fld.cells ⟨f1, f2, f3, R.1.2⟩) := Rd_block (by simpa [Value.cells, Fld.cells] using b6)
    have hld6 := ld_agg T.ag_89 hrd rfl
    simp only [Fld.cells] at hld6
    have o4 := I5.o4
    simp (disch := first | omega | assumption) only [C.cr_field_gos, vs, Go.Vc.vk, T.ts, ↓reduceIte, Nat.reduceEqDiff, reduceCtorEq, Nat.reduceLeDiff, Nat.reducePow, Int.reducePow, Int.reduceToNat, Nat.reduceAdd, hld6]
    exact ⟨I5.fr.new f6 (by omega), r5.fr f6 (by omega), rfl⟩
  have r2 := H.fr (e1.trans e2) id
  have c2 := D0.frR X
  generalize h1.push (.cells #[.int .u16 0, .int .u16 0, .int .u16 0, .int .u16 0] 89) = h2 at *
  rw [← hfb2]
  clear b1 e1 e2
  have hlt2 : fb2 < h2.size := by omega
  have kr : cellAt h2 ⟨rb, 0, none⟩ = some (.pointer (some ⟨g, 0, none⟩)) := by rw [cellAt_of b12]; rfl
  have k0 := c2.rd.k0
  simp (disch := first | omega | assumption) only [C.cr_field_gos, vs, Go.Vc.vk, T.ts, ↓reduceIte, Nat.reduceEqDiff, reduceCtorEq, Nat.reduceLeDiff, Nat.reducePow, Int.reducePow, Int.reduceToNat, Nat.reduceAdd, kr, k0]
  have D2 : FT h g gr rc p vp rb fb2 89 #[.int .u16 0, .int .u16 0, .int .u16 0, .int .u16 0] h2 := ⟨c2, b12, b2, X, by omega, by omega⟩
  clear b12 b2 X c2 s2
  refine ⟨?_, ?_⟩
  · refine eff_call_of ?_
    simp (disch := first | omega | assumption) only [C.cr_field_gos, vs, Go.Vc.vk, T.ts, ↓reduceIte, Nat.reduceEqDiff, reduceCtorEq, Nat.reduceLeDiff, Nat.reducePow, Int.reducePow, Int.reduceToNat, Nat.reduceAdd]
    refine (index_any hl r2).mono ?_
    rintro _ y1 ⟨f1, r1, rfl⟩
    have D1 := D2.frR f1
    clear kr k0
    have kr := D1.kr
    have k0 := D1.cr.rd.k0
    simp (disch := first | omega | assumption) only [C.cr_field_gos, vs, Go.Vc.vk, T.ts, ↓reduceIte, Nat.reduceEqDiff, reduceCtorEq, Nat.reduceLeDiff, Nat.reducePow, Int.reducePow, Int.reduceToNat, Nat.reduceAdd, kr, k0]
    refine ⟨?_, ?_⟩
    · refine eff_call_of ?_
      simp (disch := first | omega | assumption) only [C.cr_field_gos, vs, Go.Vc.vk, T.ts, ↓reduceIte, Nat.reduceEqDiff, reduceCtorEq, Nat.reduceLeDiff, Nat.reducePow, Int.reducePow, Int.reduceToNat, Nat.reduceAdd]
      refine (index_any hl r1).mono ?_
      rintro _ y2 ⟨f2, r2, rfl⟩
      have D2 := D1.frR f2
      clear kr k0
      have kr := D2.kr
      have k0 := D2.cr.rd.k0
      simp (disch := first | omega | assumption) only [C.cr_field_gos, vs, Go.Vc.vk, T.ts, ↓reduceIte, Nat.reduceEqDiff, reduceCtorEq, Nat.reduceLeDiff, Nat.reducePow, Int.reducePow, Int.reduceToNat, Nat.reduceAdd, kr, k0]
      refine ⟨?_, ?_⟩
      · refine eff_call_of ?_
        simp (disch := first | omega | assumption) only [C.cr_field_gos, vs, Go.Vc.vk, T.ts, ↓reduceIte, Nat.reduceEqDiff, reduceCtorEq, Nat.reduceLeDiff, Nat.reducePow, Int.reducePow, Int.reduceToNat, Nat.reduceAdd]
        refine (index_any hl r2).mono ?_
        rintro _ y3 ⟨f3, r3, rfl⟩
        have D3 := D2.frR f3
        clear kr k0
        have kr := D3.kr
        have k0 := D3.cr.rd.k0
        simp (disch := first | omega | assumption) only [C.cr_field_gos, vs, Go.Vc.vk, T.ts, ↓reduceIte, Nat.reduceEqDiff, reduceCtorEq, Nat.reduceLeDiff, Nat.reducePow, Int.reducePow, Int.reduceToNat, Nat.reduceAdd, kr, k0]
        refine eff_alloc_z T.zr_89 ?_
        have ex : Ext y3 (y3.push (.cells #[.int .u16 0, .int .u16 0, .int .u16 0, .int .u16 0] 89)) := Ext.push _ _
        have ba : (y3.push (.cells #[.int .u16 0, .int .u16 0, .int .u16 0, .int .u16 0] 89))[y3.size]? = some (.cells #[.int .u16 0, .int .u16 0, .int .u16 0, .int .u16 0] 89 (0, 0)) := by simp
        have Dx := D3.frR (FrR.ext ex)
        have rx := r3.fr ex id
        have hfl : fb2 < y3.size := (Array.getElem?_eq_some_iff.1 D3.b2).1
        have hfh : h.size ≤ y3.size := D3.fr.size
        generalize y3.push (.cells #[.int .u16 0, .int .u16 0, .int .u16 0, .int .u16 0] 89) = ha at *
        generalize y3.size = fb at *
        have hfg : fb ≠ gr := by omega
        clear kr k0
        have kr := Dx.kr
        have k0 := Dx.cr.rd.k0
        simp (disch := first | omega | assumption) only [C.cr_field_gos, vs, Go.Vc.vk, T.ts, ↓reduceIte, Nat.reduceEqDiff, reduceCtorEq, Nat.reduceLeDiff, Nat.reducePow, Int.reducePow, Int.reduceToNat, Nat.reduceAdd, kr, k0]
        refine eff_storeN_zz T.zr_89 rfl rfl rfl (by simp [Value.cells, oneCell, str]) ba (by decide) (fun j _ _ => by simp) ?_
        intro yz fz bz
        have o0 := Dx.fr.size
        have dz : CR yz g gr rc p vp := Dx.cr.old D0 fz Dx.fr hg (by omega)
        simp (disch := first | omega | assumption) only [C.cr_field_gos, vs, Go.Vc.vk, T.ts, ↓reduceIte, Nat.reduceEqDiff, reduceCtorEq, Nat.reduceLeDiff, Nat.reducePow, Int.reducePow, Int.reduceToNat, Nat.reduceAdd]
        exact hjoin yz fb _ _ _ _ dz (Fr_blk fz Dx.br (by omega)) (Fr_blk fz Dx.b2 (by omega)) (by simpa [Value.cells, Fld.cells] using bz) (Dx.fr.new fz (by omega)) (by omega) (rx.fr fz (by omega)) rfl
      · refine eff_alloc_z T.zr_89 ?_
        have ex : Ext y2 (y2.push (.cells #[.int .u16 0, .int .u16 0, .int .u16 0, .int .u16 0] 89)) := Ext.push _ _
        have ba : (y2.push (.cells #[.int .u16 0, .int .u16 0, .int .u16 0, .int .u16 0] 89))[y2.size]? = some (.cells #[.int .u16 0, .int .u16 0, .int .u16 0, .int .u16 0] 89 (0, 0)) := by simp
        have Dx := D2.frR (FrR.ext ex)
        have rx := r2.fr ex id
        have hfl : fb2 < y2.size := (Array.getElem?_eq_some_iff.1 D2.b2).1
        have hfh : h.size ≤ y2.size := D2.fr.size
        generalize y2.push (.cells #[.int .u16 0, .int .u16 0, .int .u16 0, .int .u16 0] 89) = ha at *
        generalize y2.size = fb at *
        have hfg : fb ≠ gr := by omega
        clear kr k0
        have kr := Dx.kr
        have k0 := Dx.cr.rd.k0
        simp (disch := first | omega | assumption) only [C.cr_field_gos, vs, Go.Vc.vk, T.ts, ↓reduceIte, Nat.reduceEqDiff, reduceCtorEq, Nat.reduceLeDiff, Nat.reducePow, Int.reducePow, Int.reduceToNat, Nat.reduceAdd, kr, k0]
        refine eff_call_of ?_
        simp (disch := first | omega | assumption) only [C.cr_field_gos, vs, Go.Vc.vk, T.ts, ↓reduceIte, Nat.reduceEqDiff, reduceCtorEq, Nat.reduceLeDiff, Nat.reducePow, Int.reducePow, Int.reduceToNat, Nat.reduceAdd]
        refine (index_any hl rx).mono ?_
        rintro _ y4 ⟨f4, r4, rfl⟩
        have D4 := Dx.frR f4
        have b4' := Fr_blk f4 ba hfg
        clear kr k0
        have kr := D4.kr
        have k0 := D4.cr.rd.k0
        simp (disch := first | omega | assumption) only [C.cr_field_gos, vs, Go.Vc.vk, T.ts, ↓reduceIte, Nat.reduceEqDiff, reduceCtorEq, Nat.reduceLeDiff, Nat.reducePow, Int.reducePow, Int.reduceToNat, Nat.reduceAdd, kr, k0]
        refine eff_storeN_zz T.zr_89 rfl rfl rfl (by simp [Value.cells, oneCell, str]) b4' (by decide) (fun j _ _ => by simp) ?_
        intro yz fz bz
        have o0 := D4.fr.size
        have dz : CR yz g gr rc p vp := D4.cr.old D0 fz D4.fr hg (by omega)
        simp (disch := first | omega | assumption) only [C.cr_field_gos, vs, Go.Vc.vk, T.ts, ↓reduceIte, Nat.reduceEqDiff, reduceCtorEq, Nat.reduceLeDiff, Nat.reducePow, Int.reducePow, Int.reduceToNat, Nat.reduceAdd]
        exact hjoin yz fb _ _ _ _ dz (Fr_blk fz D4.br (by omega)) (Fr_blk fz D4.b2 (by omega)) (by simpa [Value.cells, Fld.cells] using bz) (D4.fr.new fz (by omega)) (by omega) (r4.fr fz (by omega)) rfl
    · refine eff_alloc_z T.zr_89 ?_
      have ex : Ext y1 (y1.push (.cells #[.int .u16 0, .int .u16 0, .int .u16 0, .int .u16 0] 89)) := Ext.push _ _
      have ba : (y1.push (.cells #[.int .u16 0, .int .u16 0, .int .u16 0, .int .u16 0] 89))[y1.size]? = some (.cells #[.int .u16 0, .int .u16 0, .int .u16 0, .int .u16 0] 89 (0, 0)) := by simp
      have Dx := D1.frR (FrR.ext ex)
      have rx := r1.fr ex id
      have hfl : fb2 < y1.size := (Array.getElem?_eq_some_iff.1 D1.b2).1
      have hfh : h.size ≤ y1.size := D1.fr.size
      generalize y1.push (.cells #[.int .u16 0, .int .u16 0, .int .u16 0, .int .u16 0] 89) = ha at *
      generalize y1.size = fb at *
      have hfg : fb ≠ gr := by omega
      clear kr k0
      have kr := Dx.kr
      have k0 := Dx.cr.rd.k0
      simp (disch := first | omega | assumption) only [C.cr_field_gos, vs, Go.Vc.vk, T.ts, ↓reduceIte, Nat.reduceEqDiff, reduceCtorEq, Nat.reduceLeDiff, Nat.reducePow, Int.reducePow, Int.reduceToNat, Nat.reduceAdd, kr, k0]
      refine eff_call_of ?_
      simp (disch := first | omega | assumption) only [C.cr_field_gos, vs, Go.Vc.vk, T.ts, ↓reduceIte, Nat.reduceEqDiff, reduceCtorEq, Nat.reduceLeDiff, Nat.reducePow, Int.reducePow, Int.reduceToNat, Nat.reduceAdd]
      refine (index_any hl rx).mono ?_
      rintro _ y5 ⟨f5, r5, rfl⟩
      have D5 := Dx.frR f5
      have b5' := Fr_blk f5 ba hfg
      clear kr k0
      have kr := D5.kr
      have k0 := D5.cr.rd.k0
      simp (disch := first | omega | assumption) only [C.cr_field_gos, vs, Go.Vc.vk, T.ts, ↓reduceIte, Nat.reduceEqDiff, reduceCtorEq, Nat.reduceLeDiff, Nat.reducePow, Int.reducePow, Int.reduceToNat, Nat.reduceAdd, kr, k0]
      refine eff_call_of ?_
      simp (disch := first | omega | assumption) only [C.cr_field_gos, vs, Go.Vc.vk, T.ts, ↓reduceIte, Nat.reduceEqDiff, reduceCtorEq, Nat.reduceLeDiff, Nat.reducePow, Int.reducePow, Int.reduceToNat, Nat.reduceAdd]
      refine (index_any hl r5).mono ?_
      rintro _ y6 ⟨f6, r6, rfl⟩
      have D6 := D5.frR f6
      have b6' := Fr_blk f6 b5' hfg
      clear kr k0
      have kr := D6.kr
      have k0 := D6.cr.rd.k0
      simp (disch := first | omega | assumption) only [C.cr_field_gos, vs, Go.Vc.vk, T.ts, ↓reduceIte, Nat.reduceEqDiff, reduceCtorEq, Nat.reduceLeDiff, Nat.reducePow, Int.reducePow, Int.reduceToNat, Nat.reduceAdd, kr, k0]
      refine eff_storeN_zz T.zr_89 rfl rfl rfl (by simp [Value.cells, oneCell, str]) b6' (by decide) (fun j _ _ => by simp) ?_
      intro yz fz bz
      have o0 := D6.fr.size
      have dz : CR yz g gr rc p vp := D6.cr.old D0 fz D6.fr hg (by omega)
      simp (disch := first | omega | assumption) only [C.cr_field_gos, vs, Go.Vc.vk, T.ts, ↓reduceIte, Nat.reduceEqDiff, reduceCtorEq, Nat.reduceLeDiff, Nat.reducePow, Int.reducePow, Int.reduceToNat, Nat.reduceAdd]
      exact hjoin yz fb _ _ _ _ dz (Fr_blk fz D6.br (by omega)) (Fr_blk fz D6.b2 (by omega)) (by simpa [Value.cells, Fld.cells] using bz) (D6.fr.new fz (by omega)) (by omega) (r6.fr fz (by omega)) rfl
  · refine eff_alloc_z T.zr_89 ?_
    have ex : Ext h2 (h2.push (.cells #[.int .u16 0, .int .u16 0, .int .u16 0, .int .u16 0] 89)) := Ext.push _ _
    have ba : (h2.push (.cells #[.int .u16 0, .int .u16 0, .int .u16 0, .int .u16 0] 89))[h2.size]? = some (.cells #[.int .u16 0, .int .u16 0, .int .u16 0, .int .u16 0] 89 (0, 0)) := by simp
    have Dx := D2.frR (FrR.ext ex)
    have rx := r2.fr ex id
    have hfl : fb2 < h2.size := (Array.getElem?_eq_some_iff.1 D2.b2).1
    have hfh : h.size ≤ h2.size := D2.fr.size
    generalize h2.push (.cells #[.int .u16 0, .int .u16 0, .int .u16 0, .int .u16 0] 89) = ha at *
    generalize h2.size = fb at *
    have hfg : fb ≠ gr := by omega
    clear kr k0
    have kr := Dx.kr
    have k0 := Dx.cr.rd.k0
    simp (disch := first | omega | assumption) only [C.cr_field_gos, vs, Go.Vc.vk, T.ts, ↓reduceIte, Nat.reduceEqDiff, reduceCtorEq, Nat.reduceLeDiff, Nat.reducePow, Int.reducePow, Int.reduceToNat, Nat.reduceAdd, kr, k0]
    refine eff_call_of ?_
    simp (disch := first | omega | assumption) only [C.cr_field_gos, vs, Go.Vc.vk, T.ts, ↓reduceIte, Nat.reduceEqDiff, reduceCtorEq, Nat.reduceLeDiff, Nat.reducePow, Int.reducePow, Int.reduceToNat, Nat.reduceAdd]
    refine (index_any hl rx).mono ?_
    rintro _ y7 ⟨f7, r7, rfl⟩
    have D7 := Dx.frR f7
    have b7' := Fr_blk f7 ba hfg
    clear kr k0
    have kr := D7.kr
    have k0 := D7.cr.rd.k0
    simp (disch := first | omega | assumption) only [C.cr_field_gos, vs, Go.Vc.vk, T.ts, ↓reduceIte, Nat.reduceEqDiff, reduceCtorEq, Nat.reduceLeDiff, Nat.reducePow, Int.reducePow, Int.reduceToNat, Nat.reduceAdd, kr, k0]
    refine eff_call_of ?_
    simp (disch := first | omega | assumption) only [C.cr_field_gos, vs, Go.Vc.vk, T.ts, ↓reduceIte, Nat.reduceEqDiff, reduceCtorEq, Nat.reduceLeDiff, Nat.reducePow, Int.reducePow, Int.reduceToNat, Nat.reduceAdd]
    refine (index_any hl r7).mono ?_
    rintro _ y8 ⟨f8, r8, rfl⟩
    have D8 := D7.frR f8
    have b8' := Fr_blk f8 b7' hfg
    clear kr k0
    have kr := D8.kr
    have k0 := D8.cr.rd.k0
    simp (disch := first | omega | assumption) only [C.cr_field_gos, vs, Go.Vc.vk, T.ts, ↓reduceIte, Nat.reduceEqDiff, reduceCtorEq, Nat.reduceLeDiff, Nat.reducePow, Int.reducePow, Int.reduceToNat, Nat.reduceAdd, kr, k0]
    refine eff_call_of ?_
    simp (disch := first | omega | assumption) only [C.cr_field_gos, vs, Go.Vc.vk, T.ts, ↓reduceIte, Nat.reduceEqDiff, reduceCtorEq, Nat.reduceLeDiff, Nat.reducePow, Int.reducePow, Int.reduceToNat, Nat.reduceAdd]
    refine (index_any hl r8).mono ?_
    rintro _ y9 ⟨f9, r9, rfl⟩
    have D9 := D8.frR f9
    have b9' := Fr_blk f9 b8' hfg
    clear kr k0
    have kr := D9.kr
    have k0 := D9.cr.rd.k0
    simp (disch := first | omega | assumption) only [C.cr_field_gos, vs, Go.Vc.vk, T.ts, ↓reduceIte, Nat.reduceEqDiff, reduceCtorEq, Nat.reduceLeDiff, Nat.reducePow, Int.reducePow, Int.reduceToNat, Nat.reduceAdd, kr, k0]
    refine eff_storeN_zz T.zr_89 rfl rfl rfl (by simp [Value.cells, oneCell, str]) b9' (by decide) (fun j _ _ => by simp) ?_
    intro yz fz bz
    have o0 := D9.fr.size
    have dz : CR yz g gr rc p vp := D9.cr.old D0 fz D9.fr hg (by omega)
    simp (disch := first | omega | assumption) only [C.cr_field_gos, vs, Go.Vc.vk, T.ts, ↓reduceIte, Nat.reduceEqDiff, reduceCtorEq, Nat.reduceLeDiff, Nat.reducePow, Int.reducePow, Int.reduceToNat, Nat.reduceAdd]
    exact hjoin yz fb _ _ _ _ dz (Fr_blk fz D9.br (by omega)) (Fr_blk fz D9.b2 (by omega)) (by simpa [Value.cells, Fld.cells] using bz) (D9.fr.new fz (by omega)) (by omega) (r9.fr fz (by omega)) rfl
end
end Go.Proofs.Ytohkbpnblkkdgaa
